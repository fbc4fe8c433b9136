/- A part of the proof that follows: the watch keeps to the document in forty scripts and at bounds -/
import Derived.Test.YtlceiaanagijjaaMWatchNumbers0
import Derived.ChangeShapes
import Derived.OpenShut
import Derived.SizedLaws
namespace Go.Ev
open Go.RowKit (Below)
set_option linter.unusedVariables false
set_option linter.unusedSimpArgs false
variable {b:Bool} {mk:Mk}

abbrev A (ops:Array Oper) (i:Nat):Nat:=anc ops i
structure Safe (b:Bool) (ops:Array Oper):Prop where
 all:∀ i,i<ops.size→i∈ordOf b ops
 go:∀ xs i ys,ordOf b ops=xs++i::ys→(∀ j,(A ops i).testBit j=true→j∈xs)∧i∉xs∧i<ops.size∧(effB b ops (oAt ops i)=true∨usesH (oAt ops i).op=true→∀ j∈xs,effB b ops (oAt ops j)=true→(A ops i).testBit j=true)
 temps:∀ j,j<ops.size→∀ t,(oAt ops j).dst=some t∨t∈(oAt ops j).looksAt ops→∀ i,i<ops.size→(oAt ops i).dst=some t→i=j∨(A ops j).testBit i=true∨(A ops i).testBit j=true
 edge:∀ i,i<ops.size→∀ e∈(oAt ops i).after.toList,Region.binds .any e=true→(A ops i).testBit e.on=true
 back:∀ i,i<ops.size→∀ j,(A ops i).testBit j=true→∃ e∈(oAt ops i).after.toList,Region.binds .any e=true∧(j=e.on∨(A ops e.on).testBit j=true)

theorem z7t (n P i b:Nat):(rowOf n P i).testBit b=(decide (b<n)&&P.testBit (i*n+b)):=by
 unfold rowOf
 rw [Nat.testBit_and,Nat.testBit_shiftRight,Nat.testBit_two_pow_sub_one,Bool.and_comm]
theorem z9o {a b:Nat} (h:(a &&& b==a)=true) {i:Nat} (hi:a.testBit i=true):b.testBit i=true:=by
 have h':a &&& b=a:=by simpa using h
 have:=congrArg (Nat.testBit · i) h'
 simp only [Nat.testBit_and,hi,Bool.true_and] at this
 exact this
theorem z9a {n P a i j:Nat} (hj:j<i):rowOf n (P ||| (a <<< (i*n))) j=rowOf n P j:=by
 refine Nat.eq_of_testBit_eq fun b=>?_
 rw [z7t,z7t]
 by_cases hb:b<n
 ·simp only [hb,decide_true,Bool.true_and,Nat.testBit_or,Nat.testBit_shiftLeft]
  have h1:(j+1)*n≤i*n:=Nat.mul_le_mul_right n hj
  have h2:j*n+b<i*n:=by rw [Nat.succ_mul] at h1;omega
  have:¬ (j*n+b≥i*n):=by omega
  simp [this]
 ·simp [hb]
theorem zc2 {n P a i:Nat} (hP:∀ x,i*n≤x→P.testBit x=false) (ha:∀ b,n≤b→a.testBit b=false):rowOf n (P ||| (a <<< (i*n))) i=a:=by
 refine Nat.eq_of_testBit_eq fun b=>?_
 rw [z7t]
 by_cases hb:b<n
 ·simp only [hb,decide_true,Bool.true_and,Nat.testBit_or,Nat.testBit_shiftLeft,hP (i*n+b) (by omega),Bool.false_or]
  simp
 ·simp only [hb,decide_false,Bool.false_and];exact (ha b (by omega)).symm
theorem z6b {n P j:Nat}:∀ (es:List Edge) (s:Nat),(edgesM n P es s).testBit j=true↔s.testBit j=true∨∃ e∈es,Region.binds .any e=true∧(j=e.on∨(rowOf n P e.on).testBit j=true)
 | [],s=>by simp [edgesM]
 | e::es,s=>by
  rw [edgesM,z6b es]
  cases hb:Region.binds .any e
  ·simp [hb]
  ·simp only [Nat.testBit_or,Nat.testBit_two_pow,Bool.or_eq_true,decide_eq_true_eq,List.mem_cons]
   constructor
   ·rintro ((((h | h) | h)) | ⟨e',h1,h2⟩)
    ·exact .inl h
    ·exact .inr ⟨e,.inl rfl,hb,.inl h.symm⟩
    ·exact .inr ⟨e,.inl rfl,hb,.inr h⟩
    ·exact .inr ⟨e',.inr h1,h2⟩
   ·rintro (h | ⟨e',rfl | h1,h2,h3⟩)
    ·exact .inl (.inl (.inl h))
    ·rcases h3 with h3 | h3
     ·exact .inl (.inl (.inr h3.symm))
     ·exact .inl (.inr h3)
    ·exact .inr ⟨e',h1,h2,h3⟩
theorem zbs {n P:Nat} {es:List Edge} (he:∀ e∈es,Region.binds .any e=true→e.on<n) {b:Nat} (hb:n≤b):(edgesM n P es 0).testBit b=false:=by
 cases h:(edgesM n P es 0).testBit b with
 | false=>rfl
 | true =>
  rcases (z6b es 0).1 h with h | ⟨e,h1,h2,rfl | h3⟩
  ·simp at h
  ·have:=he e h1 h2;omega
  ·rw [z7t] at h3;simp at h3;omega
theorem z5n {n P P':Nat}:∀ {es:List Edge} (s:Nat),(∀ e∈es,Region.binds .any e=true→rowOf n P e.on=rowOf n P' e.on)→edgesM n P es s=edgesM n P' es s
 | [],_,_=>rfl
 | e::es,s,h=>by
  simp only [edgesM]
  cases hb:Region.binds .any e with
  | false=>exact z5n _ fun e he=>h e (List.mem_cons_of_mem _ he)
  | true=>rw [h e (List.mem_cons_self ..) hb];exact z5n _ fun e he=>h e (List.mem_cons_of_mem _ he)
theorem z6e {n:Nat}:∀ (os:List Oper) (i P j:Nat),j<i→rowOf n (packGo n i P os) j=rowOf n P j
 | [],_,_,_,_=>rfl
 | o::os,i,P,j,h=>by rw [packGo,z6e os (i+1) _ j (by omega),z9a h]
theorem z8z {n:Nat}:∀ (os:List Oper) (i P:Nat),i+os.length≤n→(∀ x,i*n≤x→P.testBit x=false)→(∀ k o,os[k]?=some o→∀ e∈o.after.toList,Region.binds .any e=true→e.on<i+k) →
  ∀ k o,os[k]?=some o→rowOf n (packGo n i P os) (i+k)=edgesM n (packGo n i P os) o.after.toList 0
 | [],_,_,_,_,_,k,o,h=>by simp at h
 | o::os,i,P,hn,hP,he,k,o',hk=>by
  simp only [List.length_cons] at hn
  have h0:∀ e∈o.after.toList,Region.binds .any e=true→e.on<i:=fun e h1 h2=>by have:=he 0 o rfl e h1 h2;omega
  have ha:∀ b,n≤b→(edgesM n P o.after.toList 0).testBit b=false:=fun b hb=>zbs (fun e h1 h2=>by have:=h0 e h1 h2;omega) hb
  cases k with
  | zero =>
   simp only [List.getElem?_cons_zero,Option.some.injEq] at hk;subst hk
   rw [packGo]
   show rowOf n (packGo n (i+1) (P ||| (edgesM n P o.after.toList 0 <<< (i*n))) os) i=_
   rw [z6e os (i+1) _ i (by omega),zc2 hP ha]
   refine z5n 0 fun e h1 h2=>?_
   have hei:=h0 e h1 h2
   rw [z6e os (i+1) _ e.on (by omega),z9a hei]
  | succ k =>
   have:=z8z (n:=n) os (i+1) (P ||| (edgesM n P o.after.toList 0 <<< (i*n))) (by omega) (fun x hx=>by
    have h1:i*n+n≤x:=by rw [Nat.succ_mul] at hx;exact hx
    rw [Nat.testBit_or,hP x (by omega),Nat.testBit_shiftLeft,Bool.false_or]
    simp [ha (x-i*n) (by omega)]) (fun k o hk e h1 h2=>by have:=he (k+1) o (by simpa using hk) e h1 h2;omega) k o' (by simpa using hk)
   rw [packGo]
   rw [show i+(k+1)=i+1+k by omega]
   exact this
theorem zag:∀ (os:List Oper) (k i:Nat) (o:Oper),os[i]?=some o→(k+i,o)∈infos k os
 | [],_,_,_,h=>by simp at h
 | x::os,k,i,o,h=>by
  cases i with
  | zero=>simp only [List.getElem?_cons_zero,Option.some.injEq] at h;subst h;exact List.mem_cons_self ..
  | succ i =>
   have:=zag os (k+1) i o (by simpa using h)
   rw [show k+(i+1)=k+1+i by omega]
   exact List.mem_cons_of_mem _ this
theorem z9i {ops:Array Oper} {i:Nat} (hi:i<ops.size):ops.toList[i]?=some (oAt ops i):=by
 simp [oAt,Array.getD_eq_getD_getElem?,hi]
theorem z73 {ops:Array Oper} {i:Nat} (hi:i<ops.size):(i,oAt ops i)∈infos 0 ops.toList:=by
 have:=zag ops.toList 0 i _ (z9i hi)
 simpa using this
theorem z7n {ops:Array Oper}:∀ (xs:List Nat) {i:Nat} {ys:List Nat} {done effs:Nat},safeGo b ops (xs++i::ys) done effs=true →
  (∀ j,(A ops i).testBit j=true→j∈xs∨done.testBit j=true)∧(i∉xs∧done.testBit i=false)∧i<ops.size∧(effB b ops (oAt ops i)=true∨usesH (oAt ops i).op=true→(∀ j∈xs,effB b ops (oAt ops j)=true→(A ops i).testBit j=true)∧∀ j,effs.testBit j=true→(A ops i).testBit j=true)
 | [],i,ys,done,effs,h=>by
  simp only [List.nil_append,safeGo,Bool.and_eq_true,decide_eq_true_eq] at h
  obtain ⟨h1,h2,h3,h4,_⟩:=h
  refine ⟨fun j hj=>.inr (z9o h1 hj),⟨by simp,by simpa using h2⟩,h3,fun hu=>⟨by simp,fun j hj=>?_⟩⟩
  have hc:(effB b ops (ops.getD i default)||usesH (ops.getD i default).op)=true:=by simpa [Bool.or_eq_true] using hu
  simp only [hc] at h4
  exact z9o h4 hj
 | x::xs,i,ys,done,effs,h=>by
  simp only [List.cons_append,safeGo,Bool.and_eq_true] at h
  obtain ⟨k1,⟨k2,k3⟩,k4,k5⟩:=z7n xs h.2.2.2.2
  have k3':done.testBit i=false∧x≠i:=by
   rw [Nat.testBit_or,Bool.or_eq_false_iff,Nat.testBit_two_pow] at k3
   exact ⟨k3.1,by simpa using k3.2⟩
  refine ⟨fun j hj=>?_,⟨?_,k3'.1⟩,k4,fun hu=>⟨fun j hj he=>?_,fun j hj=>(k5 hu).2 j (by split<;>simp [hj])⟩⟩
  ·rcases k1 j hj with h1 | h1
   ·exact .inl (List.mem_cons_of_mem _ h1)
   ·rw [Nat.testBit_or,Bool.or_eq_true,Nat.testBit_two_pow] at h1
    rcases h1 with h1 | h1
    ·exact .inr h1
    ·have:x=j:=by simpa using h1
     subst this;exact .inl (List.mem_cons_self ..)
  ·intro hm
   rcases List.mem_cons.1 hm with rfl | hm
   ·exact k3'.2 rfl
   ·exact k2 hm
  ·rcases List.mem_cons.1 hj with rfl | hj
   ·refine (k5 hu).2 j ?_
    have he':effB b ops (ops.getD j default)=true:=he
    simp only [he',Nat.testBit_or,Nat.testBit_two_pow]
    simp
   ·exact (k5 hu).1 j hj he
theorem zei {ops:Array Oper} (h:z51 b ops=true):Safe b ops:=by
 unfold z51 at h
 simp only [Bool.and_eq_true] at h
 obtain ⟨h4,h1,h2,h3⟩:=h
 have hlt:∀ i,i<ops.size→∀ e∈(oAt ops i).after.toList,Region.binds .any e=true→e.on<i:=fun i hi e he hb=>by
  have:=List.all_eq_true.1 h4 _ (z73 hi)
  have:=List.all_eq_true.1 this e he
  simpa [hb] using this
 have own:∀ i,i<ops.size→∀ j,(A ops i).testBit j=true↔∃ e∈(oAt ops i).after.toList,Region.binds .any e=true∧(j=e.on∨(A ops e.on).testBit j=true):=fun i hi j=>by
  have:=z8z (n:=ops.size) ops.toList 0 0 (by simp) (by simp) (fun k o hk e he hb=>by
   have hk2:k<ops.size:=by
    have:=(List.getElem?_eq_some_iff.1 hk).1;simpa using this
   have:o=oAt ops k:=by rw [z9i hk2] at hk;exact (Option.some.inj hk).symm
   subst this
   have:=hlt k hk2 e he hb
   omega) i _ (z9i hi)
  rw [Nat.zero_add] at this
  show (rowOf ops.size (packed ops) i).testBit j=true↔_
  rw [show packed ops=packGo ops.size 0 0 ops.toList from rfl,this,z6b]
  simp only [Nat.zero_testBit,Bool.false_eq_true,false_or]
  rfl
 refine ⟨fun i hi=>?_,fun xs i ys ho=>?_,fun j hj t ht i hi hd=>?_,fun i hi e he hbe=>(own i hi e.on).2 ⟨e,he,hbe,.inl rfl⟩,fun i hi j hj=>(own i hi j).1 hj⟩
 ·have:=List.all_eq_true.1 h1 i (List.mem_range.2 hi)
  simpa using this
 ·rw [ho] at h2
  obtain ⟨k1,k2,k3,k4⟩:=z7n xs h2
  exact ⟨fun j hj=>(k1 j hj).resolve_right (by simp),k2.1,k3,fun hu=>(k4 hu).1⟩
 ·unfold zcc at h3
  have q1:=List.all_eq_true.1 h3 _ (z73 hj)
  have hm:t∈(oAt ops j).dst.toList++(oAt ops j).looksAt ops:=by
   rcases ht with ht | ht
   ·rw [ht];simp
   ·exact List.mem_append_right _ ht
  have q2:=List.all_eq_true.1 q1 t hm
  have q3:=List.all_eq_true.1 q2 _ (z73 hi)
  rw [show (oAt ops i).dst=some t from hd] at q3
  simp only [bne_self_eq_false,Bool.false_or,Bool.or_eq_true,beq_iff_eq] at q3
  rcases q3 with q3 | q3 | q3
  ·exact .inl q3
  ·exact .inr (.inl q3)
  ·exact .inr (.inr q3)

section
variable {G:Cfg} {rec:CallF} {ops:Array Oper} {σ:Stamp} {recs:List Rec} {e0 eF:Env} {h0 hF:H} {ws:List (Nat×(H→Prop))}
def Closed (ops:Array Oper) (S:Nat→Bool):Prop:=∀ i,S i=true→i<ops.size∧∀ j,(A ops i).testBit j=true→S j=true
def with_ (S:Nat→Bool) (i:Nat):Nat→Bool:=fun j=>S j||j==i

structure Found (b:Bool) (mk:Mk) (G:Cfg) (rec:CallF) (ops:Array Oper) (σ:Stamp) (recs:List Rec) (ws:List (Nat×(H→Prop))) (e0:Env) (h0:H) (S:Nat→Bool) (r:Rec):Prop where
 valid:Valid b mk G rec ops σ r
 env:∀ t,t∈(oAt ops r.i).looksAt ops→eS ops S recs e0 t=r.e t
 next:eS ops (with_ S r.i) recs e0=put (eS ops S recs e0) (oAt ops r.i).dst r.v
 eff:effB b ops (oAt ops r.i)=true→hS b ops S recs h0=r.h∧hS b ops (with_ S r.i) recs h0=r.h'
 quiet:effB b ops (oAt ops r.i)=false→hS b ops (with_ S r.i) recs h0=hS b ops S recs h0
 read:isPure (oAt ops r.i).op=true→pureG G.P ops r.e (hS b ops S recs h0) (oAt ops r.i)=some r.v
 watch:∀ W,(r.i,W)∈ws→W h0→W (hS b ops S recs h0)

theorem z8c {S:Nat→Bool}:∀ (ys:List Rec) (h:H),(∃ y1 f y2,ys=y1++f::y2∧effB b ops (oAt ops f.i)=true∧S f.i=true∧hS b ops S ys h=f.h')∨(hS b ops S ys h=h∧∀ x∈ys,effB b ops (oAt ops x.i)=true→S x.i=false)
 | [],h=>.inr ⟨rfl,by simp⟩
 | y::ys,h=>by
  rcases z8c ys (if S y.i&&effB b ops (oAt ops y.i) then y.h' else h) with ⟨y1,f,y2,h1,h2,h3,h4⟩ | ⟨h1,h2⟩
  ·exact .inl ⟨y::y1,f,y2,by rw [h1];rfl,h2,h3,h4⟩
  ·cases hc:(S y.i&&effB b ops (oAt ops y.i))
   ·refine .inr ⟨by unfold hS;rw [h1,hc];rfl,fun x hx he=>?_⟩
    rcases List.mem_cons.1 hx with rfl | hx
    ·rw [he,Bool.and_true] at hc;exact hc
    ·exact h2 x hx he
   ·simp only [Bool.and_eq_true] at hc
    refine .inl ⟨[],y,ys,rfl,hc.2,hc.1,?_⟩
    unfold hS
    rw [h1,hc.1,hc.2];rfl

theorem found (hs:Safe b ops) (ho:recs.map Rec.i=ordOf b ops) (hc:Chain b mk G rec ops σ recs e0 h0 eF hF) (hw:Watch b G ops ws recs) {S:Nat→Bool} (hS_:Closed ops S) {i:Nat} (hi:i<ops.size) (hn:S i=false) (hanc:∀ j,(A ops i).testBit j=true→S j=true) :
  ∃ r,r.i=i∧Found b mk G rec ops σ recs ws e0 h0 S r:=by
 obtain ⟨r,hr,hri⟩:=List.mem_map.1 (ho▸hs.all i hi)
 obtain ⟨xs,ys,rfl⟩:=List.append_of_mem hr
 refine ⟨r,hri,?_⟩
 obtain ⟨c1,c2⟩:=z89 xs hc
 have hord:ordOf b ops=xs.map Rec.i++r.i::ys.map Rec.i:=by rw [← ho];simp
 obtain ⟨g1,g2,g3,g4⟩:=hs.go _ _ _ hord
 subst hri
 -- where the others stand
 have inx:∀ x∈xs,x.i<ops.size∧(∀ j,(A ops x.i).testBit j=true→j∈xs.map Rec.i):=fun x hx=>by
  obtain ⟨x1,x2,rfl⟩:=List.append_of_mem hx
  obtain ⟨q1,_,q3,_⟩:=hs.go (x1.map Rec.i) x.i (x2.map Rec.i++r.i::ys.map Rec.i) (by rw [hord];simp)
  exact ⟨q3,fun j hj=>by have:=q1 j hj;simp only [List.map_append,List.mem_append];exact .inl this⟩
 have iny:∀ y∈ys,y.i<ops.size∧y.i∉xs.map Rec.i∧y.i≠r.i∧(effB b ops (oAt ops y.i)=true→effB b ops (oAt ops r.i)=true→(A ops y.i).testBit r.i=true):=fun y hy=>by
  obtain ⟨y1,y2,rfl⟩:=List.append_of_mem hy
  obtain ⟨q1,q2,q3,q4⟩:=hs.go (xs.map Rec.i++r.i::y1.map Rec.i) y.i (y2.map Rec.i) (by rw [hord];simp)
  refine ⟨q3,fun hm=>q2 (List.mem_append_left _ hm),fun he=>q2 (by rw [he];simp),fun he hr'=>q4 (.inl he) r.i (by simp) hr'⟩
 have xne:∀ x∈xs,x.i≠r.i:=fun x hx he=>g2 (he▸List.mem_map.2 ⟨x,hx,rfl⟩)
 -- who writes what it names,runs before it or behind it
 have wx:∀ t,(oAt ops r.i).dst=some t∨t∈(oAt ops r.i).looksAt ops→∀ x∈xs,(oAt ops x.i).dst=some t→S x.i=true:=fun t ht x hx hd=>by
  rcases hs.temps r.i g3 t ht x.i (inx x hx).1 hd with h | h | h
  ·exact absurd h (xne x hx)
  ·exact hanc _ h
  ·exact absurd ((inx x hx).2 _ h) g2
 have wy:∀ t,(oAt ops r.i).dst=some t∨t∈(oAt ops r.i).looksAt ops→∀ y∈ys,(oAt ops y.i).dst=some t→S y.i=false:=fun t ht y hy hd=>by
  rcases hs.temps r.i g3 t ht y.i (iny y hy).1 hd with h | h | h
  ·exact absurd h (iny y hy).2.2.1
  ·exact absurd (g1 _ h) (iny y hy).2.1
  ·cases hsy:S y.i
   ·rfl
   ·have:=(hS_ _ hsy).2 _ h;rw [hn] at this;simp at this
 have xT:=z76 (S:=fun _=>true) xs e0 h0 r.e r.h (fun _ _=>rfl) c1
 have exs:∀ (S':Nat→Bool) t,(∀ x∈xs,(oAt ops x.i).dst=some t→S' x.i=true)→eS ops S' xs e0 t=r.e t:=fun S' t h=>by
  rw [← xT.1];exact z61 xs e0 e0 (fun x hx hd=>h x hx hd) rfl
 have hxs:∀ (S':Nat→Bool),(∀ x∈xs,effB b ops (oAt ops x.i)=true→S' x.i=true)→hS b ops S' xs h0=r.h:=fun S' h=>by
  rw [← xT.2];exact z8p xs h0 fun x hx he=>h x hx he
 have eys:∀ (S':Nat→Bool) t (e:Env),(∀ y∈ys,(oAt ops y.i).dst=some t→S' y.i=false)→eS ops S' ys e t=e t:=fun S' t e h=>by
  have:=z61 (S:=S') (S':=fun _=>false) ys e e (fun y hy hd=>h y hy hd) (t:=t) rfl
  rw [this,z9n (S:=fun _=>false) ys e fun _ _=>rfl]
 have wself:with_ S r.i r.i=true:=by simp [with_]
 have wne:∀ x:Rec,x.i≠r.i→with_ S r.i x.i=S x.i:=fun x hx=>by simp [with_,hx]
 have sx:effB b ops (oAt ops r.i)=true∨usesH (oAt ops r.i).op=true→∀ x∈xs,effB b ops (oAt ops x.i)=true→S x.i=true:=fun hu x hx he=>hanc _ (g4 hu x.i (List.mem_map.2 ⟨x,hx,rfl⟩) he)
 refine ⟨c2,fun t ht=>?_,?_,fun he=>⟨?_,?_⟩,fun hq=>?_,fun hp=>?_,fun W hW h0W=>?_⟩
 ·rw [z71]
  unfold eS
  rw [hn]
  rw [eys S t _ (wy t (.inr ht))]
  exact exs S t (wx t (.inr ht))
 ·funext t
  by_cases hd:(oAt ops r.i).dst=some t
  ·have l:eS ops (with_ S r.i) (xs++r::ys) e0 t=put (eS ops (with_ S r.i) xs e0) (oAt ops r.i).dst r.v t:=by
    rw [z71]
    conv=>lhs;unfold eS
    rw [wself]
    exact eys _ t _ fun y hy hdy=>by rw [wne y (iny y hy).2.2.1];exact wy t (.inl hd) y hy hdy
   rw [l]
   exact put_at _ _ _ _ _ fun hne=>absurd hd hne
  ·have l:put (eS ops S (xs++r::ys) e0) (oAt ops r.i).dst r.v t=eS ops S (xs++r::ys) e0 t:=by
    cases hdd:(oAt ops r.i).dst with
    | none=>rfl
    | some d =>
     simp only [put,upd]
     rw [if_neg (fun hh=>hd (by rw [hdd,hh]))]
   rw [l]
   refine z61 _ e0 e0 (fun x hx hdx=>?_) rfl
   refine wne x fun he=>hd (by rw [← he];exact hdx)
 ·rw [z5b]
  unfold hS
  rw [hn,Bool.false_and,if_neg (by simp)]
  rw [z7v ys _ fun y hy hey=>?_]
  ·exact hxs S (sx (.inl he))
  ·cases hsy:S y.i
   ·rfl
   ·have:=(hS_ _ hsy).2 _ ((iny y hy).2.2.2 hey he);rw [hn] at this;simp at this
 ·rw [z5b]
  unfold hS
  rw [wself,he,Bool.and_self,if_pos rfl]
  refine z7v ys _ fun y hy hey=>?_
  rw [wne y (iny y hy).2.2.1]
  cases hsy:S y.i
  ·rfl
  ·have:=(hS_ _ hsy).2 _ ((iny y hy).2.2.2 hey he);rw [hn] at this;simp at this
 ·refine z8p _ h0 fun x hx hex=>wne x fun he=>?_
  rw [he,hq] at hex;simp at hex
 ·have hv:pureG G.P ops r.e r.h (oAt ops r.i)=some r.v:=by
   unfold Valid at c2
   rw [hp] at c2
   exact c2.1
  cases hu:usesH (oAt ops r.i).op
  ·rw [zbf (h':=r.h) hu];exact hv
  ·rw [z5b]
   unfold hS
   rw [hn,Bool.false_and,if_neg (by simp)]
   rcases z8c (ops:=ops) (S:=S) ys (hS b ops S xs h0) with ⟨y1,f,y2,k1,k2,k3,k4⟩ | ⟨k1,_⟩
   ·rw [k4]
    subst k1
    rcases z92 xs hw hp hu k2 with h | h
    ·have:=(hS_ _ k3).2 _ h;rw [hn] at this;simp at this
    ·exact h
   ·rw [k1,hxs S (sx (.inr hu))];exact hv
 ·rcases z8c (ops:=ops) (S:=S) (xs++r::ys) h0 with ⟨y1,f,y2,k1,k2,k3,k4⟩ | ⟨k1,_⟩
  ·rw [k4]
   rw [k1] at hw
   rcases z7c y1 hw hW k2 with h | h
   ·have:=(hS_ _ k3).2 _ h;rw [hn] at this;simp at this
   ·exact h
  ·rw [k1];exact h0W
end
end Go.Ev
namespace Go.Ev
open Go.RowKit (Below)
set_option linter.unusedVariables false
set_option linter.unusedSimpArgs false
variable {b:Bool} {mk:Mk}

def z9g (b:Bool) (ops:Array Oper) (o:Oper):Bool:=!isPure o.op&&isMk b ops o
theorem z7a {op:Op} (h:z2j op=true):∃ t,op=.alloc t:=by cases op<;>first | exact ⟨_,rfl⟩ | simp [z2j] at h

theorem zcq {ops:Array Oper} {o:Oper} (h:isMk b ops o=true):o.guard=none:=by
 unfold isMk at h
 rw [Bool.and_eq_true] at h
 simpa using h.2
theorem z91 {G:Cfg} {ops:Array Oper} {σ:Stamp} {t:TypeId} {o:Oper} (ho:o.op=.alloc t) (hk:isMk b ops o=true):∀ (os:List Oper) (i j:Nat),os[j]?=some o →
  (∀ d,o.dst=some d→(i+j,fun h=>∃ z,tzero G.P t=some z∧slotOf h d=some [C.own ((i+j)::σ) (z.map .v)])∈allocW b mk ops G σ i os)∧(o.dst=none→(i+j,fun _=>False)∈allocW b mk ops G σ i os)
 | [],i,j,h=>by simp at h
 | x::os,i,0,h=>by
  simp only [List.getElem?_cons_zero,Option.some.injEq] at h
  subst h
  refine ⟨fun d hd=>?_,fun hd=>?_⟩
  ·unfold allocW;simp only [hk,ho,hd,Nat.add_zero];exact List.mem_cons_self ..
  ·unfold allocW;simp only [hk,ho,hd,Nat.add_zero];exact List.mem_cons_self ..
 | x::os,i,j+1,h=>by
  simp only [List.getElem?_cons_succ] at h
  obtain ⟨k1,k2⟩:=z91 ho hk os (i+1) j h
  rw [show i+1+j=i+(j+1) by omega] at k1 k2
  have up:∀ q,q∈allocW b mk ops G σ (i+1) os→q∈allocW b mk ops G σ i (x::os):=fun q hq=>by
   unfold allocW
   split<;>first | exact List.mem_cons_of_mem _ hq | exact hq
  exact ⟨fun d hd=>up _ (k1 d hd),fun hd=>up _ (k2 hd)⟩
theorem za4 {G:Cfg} {ops:Array Oper} {σ:Stamp} {o:Oper} (ho:z2j o.op=false) (hk:isMk b ops o=true):∀ (os:List Oper) (i j:Nat),os[j]?=some o →
  (∀ d,o.dst=some d→(i+j,fun h=>∃ m,mk (i+j)=some m∧slotOf h d=some [mkC ((i+j)::σ) m])∈allocW b mk ops G σ i os)∧(o.dst=none→(i+j,fun _=>False)∈allocW b mk ops G σ i os)
 | [],i,j,h=>by simp at h
 | x::os,i,0,h=>by
  simp only [List.getElem?_cons_zero,Option.some.injEq] at h
  subst h
  have ha:∀ t,x.op≠.alloc t:=fun t h=>by rw [h] at ho;cases ho
  refine ⟨fun d hd=>?_,fun hd=>?_⟩
  ·unfold allocW;simp only [hk,Nat.add_zero]
   split
   ·rename_i t _ h1 _;exact absurd h1 (ha t)
   ·rename_i t h1 _;exact absurd h1 (ha t)
   ·rename_i d' h1 _;rw [hd] at h1;cases h1;exact List.mem_cons_self ..
   ·rename_i h1 _;rw [hd] at h1;cases h1
  ·unfold allocW;simp only [hk,Nat.add_zero]
   split
   ·rename_i t _ h1 _;exact absurd h1 (ha t)
   ·rename_i t h1 _;exact absurd h1 (ha t)
   ·rename_i d' h1 _;rw [hd] at h1;cases h1
   ·exact List.mem_cons_self ..
 | x::os,i,j+1,h=>by
  simp only [List.getElem?_cons_succ] at h
  obtain ⟨k1,k2⟩:=za4 ho hk os (i+1) j h
  rw [show i+1+j=i+(j+1) by omega] at k1 k2
  have up:∀ q,q∈allocW b mk ops G σ (i+1) os→q∈allocW b mk ops G σ i (x::os):=fun q hq=>by
   unfold allocW
   split<;>first | exact List.mem_cons_of_mem _ hq | exact hq
  exact ⟨fun d hd=>up _ (k1 d hd),fun hd=>up _ (k2 hd)⟩
theorem zde {P:Program} {ρ:Operand→Value} {w:World} {o:Oper} {t:TypeId} {i:TypeInfo} {z0:Value} (ht:o.op=.alloc t) (hi:P.info? t=some i) (hz:i.zero=some z0) :
  (execOp ρ o).run P w=.ok (.value (.pointer (some ⟨w.heap.size,0,none⟩))) (w.alloc (.cells z0.cells t)):=by
 simp [execOp,ht,Instr.alloc,z1r (w:=w) hi hz,newVar,newRow]
theorem z9v (s:Stamp) (m:Made):nodesC (mkC s m)=[(s,(m.1.map C.v).map sh)]:=by
 obtain ⟨cs,q⟩:=m
 have hn:z5 (cs.map C.v)=[]:=z3f _
 cases q with
 | none=>simp [mkC,nodesC,hn]
 | some q=>simp [mkC,nodesC,hn]
theorem zd4 {h:H} {d:Nat} {s:Stamp} {m:Made} (hs:slotOf h d=some [mkC s m]):(s,(m.1.map C.v).map sh)∈nodesH h:=by
 cases h with
 | nil=>simp [slotOf] at hs
 | cons L h =>
  simp only [slotOf] at hs
  unfold nodesH nodesL
  refine List.mem_flatMap.2 ⟨L,List.mem_cons_self ..,List.mem_flatMap.2 ⟨_,List.mem_of_getElem? hs,?_⟩⟩
  simp [z5,z9v]
theorem lit_rc {ι:Inj}:∀ {xs:List V} {us:List Value},RVs ι xs us→xs.all litV=true→∀ ι',RCs ι' ((xs.map C.v).map sh) us
 | _,_,.nil,_,_=>fun j c hj=>by simp at hj
 | x::xs,u::us,.cons h t,hl,ι'=>fun j c hj=>by
  rw [List.all_cons,Bool.and_eq_true] at hl
  cases j with
  | zero =>
   simp only [List.map_cons,List.getElem?_cons_zero,Option.some.injEq] at hj
   subst hj
   refine ⟨u,rfl,?_⟩
   have hl1:=hl.1
   unfold litV at hl1
   split at hl1
   ·rename_i v
    have hu:u=v:=by cases h;rfl
    subst hu
    refine RC.sh (.v (.p _) ?_)
    cases u<;>first | trivial | cases hl1
   ·cases hl1
  | succ j=>exact lit_rc t hl.2 ι' j c (by simpa using hj)
theorem z93 {G:Cfg} {op:Op} {e e':Env} (h:Alike e e' op):mkOf G op (opd e)=mkOf G op (opd e'):=by
 have hx:∀ x∈op.operands,opd e x=opd e' x:=fun x hm=>z59 fun t ht=>h t (by rw [← ht];exact hm)
 cases op<;>try rfl
 ·rename_i t x;simp only [mkOf];rw [hx x (by simp [Op.operands])]
 ·rename_i t n c;simp only [mkOf];rw [hx n (by simp [Op.operands]),hx c (by simp [Op.operands])]
theorem zec {G:Cfg} {ι:Inj} {w:World} {e:Env} {a:Act} {m:Made} {o:Oper} (he:RE ι e a) (hm:mkOf G o.op (opd e)=some m) :
  ∃ (vals:Array Value) (ety:TypeId) (u:Value),(execOp a.eval o).run G.P w=.ok (.value u) (w.alloc (.cells vals ety))∧(∀ ι',RCs ι' ((m.1.map C.v).map sh) vals.toList)∧m.1.length≤vals.size ∧
   ∀ (ι':Inj) (l:Loc),ι'.at_ l.last=some ⟨w.heap.size,0,vals.size⟩→RV ι' (mkV' l m) u:=by
 unfold mkOf at hm
 split at hm
 ·rename_i t x ho
  split at hm
  ·rename_i hl
   simp only [Option.some.injEq] at hm
   subst hm
   have hx:=z6f (opd_ok he x)
   refine ⟨(a.eval x).cells,t,.pointer (some ⟨w.heap.size,0,none⟩),?_,lit_rc hx hl,?_,fun ι' l hl'=>?_⟩
   ·simp [execOp,ho,Instr.box,newVar,newRow]
   ·have:=hx.length
    simp only [Array.length_toList] at this
    simp only;omega
   ·exact RV.ref (p:=⟨w.heap.size,0,(a.eval x).cells.size⟩) hl'
  ·cases hm
 ·rename_i t n c ho
  split at hm
  ·cases hm
  obtain ⟨et,het,hm⟩:=Option.bind_eq_some_iff.1 hm
  obtain ⟨hu,hk⟩:=zq het
  obtain ⟨z,hz,hm⟩:=Option.bind_eq_some_iff.1 hm
  obtain ⟨i,z0,hi,h0,rfl,hleaf⟩:=z1m hz
  obtain ⟨n',hn',hm⟩:=Option.bind_eq_some_iff.1 hm
  obtain ⟨c',hc',hm⟩:=Option.bind_eq_some_iff.1 hm
  have hn:=opd_ok he n
  have hc:=opd_ok he c
  obtain ⟨kn,ekn⟩:=asI_ok hn' hn
  obtain ⟨kc,ekc⟩:=asI_ok hc' hc
  split at hm
  ·rename_i hcond
   obtain ⟨c0,c1,c2,c3,c4,c5⟩:=hcond
   simp only [Option.some.injEq] at hm
   subst hm
   simp only [List.length_map,Array.length_toList] at c4
   have hb:tbytes G.P et=i.bytes:=by simp [tbytes,hi]
   rw [hb] at c2
   have hcz:(Array.range (c'.toNat*tsize G.P et)).map (z0.cells[· % z0.cells.size]!)=(rept c'.toNat z0.cells.toList).toArray:=by
    apply Array.ext'
    rw [← c4,z42]
   have hlen:(rept c'.toNat z0.cells.toList).length=c'.toNat*tsize G.P et:=by rw [z15,← c4];simp
   have hlen2:(rept n'.toNat z0.cells.toList).length=n'.toNat*tsize G.P et:=by rw [z15,← c4];simp
   have hnc:n'.toNat*tsize G.P et≤c'.toNat*tsize G.P et:=Nat.mul_le_mul_right _ (by omega)
   have hsz:((rept c'.toNat z0.cells.toList).toArray).size=c'.toNat*tsize G.P et:=by simp [hlen]
   have hneg:∀ m:Int,0≤m→m≤c'→(decide (m<0)||decide ((i.bytes:Int)*m>2^48))=false:=fun m h1 h2=>by
    have h3:(i.bytes:Int)*m≤i.bytes*c':=Int.mul_le_mul_of_nonneg_left h2 (by omega)
    have h4:(i.bytes:Int)*c'≤2^47:=by rw [Int.mul_comm];exact c2
    have e1:decide (m<0)=false:=decide_eq_false (by omega)
    have e2:decide ((i.bytes:Int)*m>2^48)=false:=decide_eq_false (by omega)
    rw [e1,e2];rfl
   have w1:IntKind.i64.wrap n'=n':=by rw [IntKind.wrap_i64];omega
   have w2:IntKind.i64.wrap c'=c':=by rw [IntKind.wrap_i64];omega
   refine ⟨(rept c'.toNat z0.cells.toList).toArray,et,.slice (some ⟨w.heap.size,0,none⟩) n'.toNat c'.toNat,?_,fun ι' j c hj=>?_,?_,fun ι' l hl'=>?_⟩
   ·have ht:((((decide (c'<0)||decide ((i.bytes:Int)*c'>2^48))||decide (n'<0))||decide (n'>c'))=true)=False:=by
     rw [hneg c' (by omega) (Int.le_refl _),decide_eq_false (by omega:¬ n'<0),decide_eq_false (by omega:¬ n'>c')];simp
    simp only [execOp,ho,ekn,ekc,Instr.makeSlice,Sem.run_bind,run_underlying hu,Result.andThen_ok,asInt,asIntOf,Sem.run_pure,z11 w hi,w1,w2,ht,if_false,run_askRoom,zk w hk]
    by_cases hz0:c'.toNat*tsize G.P et=0
    ·have hc0:c'.toNat=0:=by
      rcases Nat.eq_zero_or_pos c'.toNat with h | h
      ·exact h
      ·have:=Nat.mul_pos h (Nat.pos_of_ne_zero c5);omega
     simp [hz0,newRow,hc0,rept,Array.range_zero']
    ·simp only [hz0,if_false,Sem.run_bind,z1r (w:=w) hi h0,Result.andThen_ok,Sem.run_pure]
     rw [hcz]
     simp [newRow]
   ·rw [z8l] at hj
    have hjl:j<n'.toNat*z0.cells.toList.length:=by
     have:=(List.getElem?_eq_some_iff.1 hj).1
     simp only [List.length_map,z15] at this
     simpa using this
    have hjc:j<c'.toNat*z0.cells.toList.length:=by
     have:=Nat.mul_le_mul_right z0.cells.toList.length (show n'.toNat≤c'.toNat by omega)
     omega
    rw [List.getElem?_map,z4w _ _ _ (by simpa using hjl)] at hj
    rw [z4w _ _ _ hjc]
    simp only [List.length_map] at hj
    cases hd:z0.cells.toList[j % z0.cells.toList.length]? with
    | none=>rw [List.getElem?_map,hd] at hj;simp at hj
    | some x =>
     rw [List.getElem?_map,hd] at hj
     simp only [Option.map_some,Option.some.injEq] at hj
     subst hj
     exact ⟨x,rfl,.v (.p _) (hleaf x (List.mem_of_getElem? hd))⟩
   ·simp only [z15,List.length_map,hsz];rw [Array.length_toList,c4];exact hnc
   ·rw [hsz] at hl'
    exact .sl (p:=⟨w.heap.size,0,c'.toNat*tsize G.P et⟩) hl' (by omega) (Nat.le_refl _) (fun _=>rfl) (fun _=>by simp)
  ·simp at hm
 ·cases hm
theorem zdi {h:H} {d:Nat} {s:Stamp} {cs:List C} (hs:slotOf h d=some [.own s cs]):(s,cs.map sh)∈nodesH h:=by
 cases h with
 | nil=>simp [slotOf] at hs
 | cons L h =>
  simp only [slotOf] at hs
  unfold nodesH nodesL
  refine List.mem_flatMap.2 ⟨L,List.mem_cons_self ..,List.mem_flatMap.2 ⟨_,List.mem_of_getElem? hs,?_⟩⟩
  simp [z5,nodesC]
theorem z5g {G:Cfg} {ops:Array Oper} {B:Nat} {σ:Stamp} {ι:Inj} {hp:Array Obj}:∀ (os:List Oper) (i:Nat) (h h':H),z1h b mk ops G σ i os h=some h'→SimN ι B hp (nodesH h)→(∀ j,i≤j→Fresh (j::σ) ι (nodesH h)) →
  SimN ι B hp (nodesH h')∧∀ s,s∈stamps (nodesH h')→s∈stamps (nodesH h)∨∃ (j:Nat) (o:Oper),i≤j∧s=j::σ∧os[j-i]?=some o∧(isMk b ops o=true∧isPure o.op=false)
 | [],i,h,h',hx,hS,hf=>by
  simp only [z1h,Option.some.injEq] at hx
  subst hx
  exact ⟨hS,fun s hs=>.inl hs⟩
 | o::os,i,h,h',hx,hS,hf=>by
  have more:∀ {s:Stamp},(∃ (j:Nat) (o':Oper),i+1≤j∧s=j::σ∧os[j-(i+1)]?=some o'∧(isMk b ops o'=true∧isPure o'.op=false))→∃ (j:Nat) (o':Oper),i≤j∧s=j::σ∧(o::os)[j-i]?=some o'∧(isMk b ops o'=true∧isPure o'.op=false):=by
   rintro s ⟨j,o',h1,h2,h3,h4⟩
   refine ⟨j,o',by omega,h2,?_,h4⟩
   rw [show j-i=(j-(i+1))+1 by omega,List.getElem?_cons_succ];exact h3
  have skip:z1h b mk ops G σ (i+1) os h=some h'→SimN ι B hp (nodesH h')∧∀ s,s∈stamps (nodesH h')→s∈stamps (nodesH h)∨∃ (j:Nat) (o':Oper),i≤j∧s=j::σ∧(o::os)[j-i]?=some o'∧(isMk b ops o'=true∧isPure o'.op=false):=fun hx=>by
   obtain ⟨k1,k2⟩:=z5g os (i+1) _ _ hx hS fun j hj=>hf j (by omega)
   exact ⟨k1,fun s hs=>(k2 s hs).imp id more⟩
  have put:∀ (d:Nat) (cs:List C) (c:C),nodesC c=[(i::σ,cs)]→isMk b ops o=true→isPure o.op=false→z1h b mk ops G σ (i+1) os (zf h d [c])=some h' →
    SimN ι B hp (nodesH h')∧∀ s,s∈stamps (nodesH h')→s∈stamps (nodesH h)∨∃ (j:Nat) (o':Oper),i≤j∧s=j::σ∧(o::os)[j-i]?=some o'∧(isMk b ops o'=true∧isPure o'.op=false):=fun d cs c hc hk hp hx'=>by
   obtain ⟨f1,f2⟩:=(hf i (Nat.le_refl _)).self
   have pt:Part (nodesH (zf h d [c])) ((i::σ,cs)::nodesH h):=by
    refine (z24 h d _).trans (.of_perm ?_)
    simp [z5,hc]
   have hst:∀ s,s∈stamps (nodesH (zf h d [c]))→s∈stamps (nodesH h)∨s=i::σ:=fun s hs=>by
    have:=z16 pt hs
    simp only [stamps,List.map_cons,List.mem_cons] at this
    rcases this with h | h
    ·exact .inr h
    ·exact .inl h
   obtain ⟨k1,k2⟩:=z5g os (i+1) _ _ hx' ((hS.virtual _ f1 f2).part pt) (fun j hj s hs=>by
    obtain ⟨q1,q2⟩:=hf j (by omega) s hs
    refine ⟨q1,fun hm=>?_⟩
    rcases hst s hm with h | h
    ·exact q2 h
    ·subst h
     exact z48 (i:=i) (j:=j) (by omega) (List.suffix_refl _) hs)
   refine ⟨k1,fun s hs=>?_⟩
   rcases k2 s hs with h | h
   ·rcases hst s h with h | h
    ·exact .inl h
    ·exact .inr ⟨i,o,Nat.le_refl _,h,by simp,hk,hp⟩
   ·exact .inr (more h)
  have hpu:isMk b ops o=true→isPure o.op=false:=fun hk=>by
   unfold isMk at hk
   simp only [Bool.and_eq_true,Bool.or_eq_true] at hk
   rcases hk.1 with h | h
   ·obtain ⟨t,ht⟩:=z7a h;rw [ht];rfl
   ·have h2:=h.2
    unfold isMake at h2
    rw [Bool.and_eq_true] at h2
    have h3:=h2.2
    split at h3
    ·rename_i ho;rw [ho];rfl
    ·rename_i ho;rw [ho];rfl
    ·cases h3
  unfold z1h at hx
  split at hx
  ·rename_i hk
   split at hx
   ·rename_i t d h1 h2
    obtain ⟨⟨v,h2'⟩,ha,hx'⟩:=Option.bind_eq_some_iff.1 hx
    clear hx
    unfold allocV at ha
    obtain ⟨z,hz,ha'⟩:=Option.bind_eq_some_iff.1 ha
    split at ha'
    ·simp only [Option.some.injEq,Prod.mk.injEq] at ha'
     obtain ⟨rfl,rfl⟩:=ha'
     have hnode:z5 (z.map C.v)=[]:=z3f _
     exact put d _ _ (by simp [nodesC,hnode];rfl) hk (hpu hk) hx'
    ·simp at ha'
   ·exact skip hx
   ·rename_i d _ h2
    obtain ⟨m,hm,hx'⟩:=Option.bind_eq_some_iff.1 hx
    exact put d _ _ (z9v _ m) hk (hpu hk) hx'
   ·exact skip hx
  ·exact skip hx

theorem zaj {p q:Nat→Bool} {i:Nat}:∀ {l:List Nat},(∀ j,q j=true→p j=true)→i∈l→p i=true→q i=false→(l.filter q).length<(l.filter p).length
 | [],_,h,_,_=>by simp at h
 | x::l,hpq,hm,hp,hq=>by
  have le:(l.filter q).length≤(l.filter p).length:=by
   clear hm
   induction l with
   | nil=>simp
   | cons y l ih =>
    cases h1:q y
    ·rw [List.filter_cons_of_neg (by simp [h1])]
     refine Nat.le_trans ih ?_
     cases h2:p y
     ·rw [List.filter_cons_of_neg (by simp [h2])];exact Nat.le_refl _
     ·rw [List.filter_cons_of_pos h2];simp
    ·rw [List.filter_cons_of_pos h1,List.filter_cons_of_pos (hpq _ h1)];simpa using ih
  by_cases hx:x=i
  ·subst hx
   rw [List.filter_cons_of_pos hp,List.filter_cons_of_neg (by simp [hq])]
   simp only [List.length_cons];omega
  ·have hm':i∈l:=by rcases List.mem_cons.1 hm with h | h;exact absurd h.symm hx;exact h
   have ih:=zaj hpq hm' hp hq
   cases h1:q x
   ·rw [List.filter_cons_of_neg (by simp [h1])]
    cases h2:p x
    ·rw [List.filter_cons_of_neg (by simp [h2])];exact ih
    ·rw [List.filter_cons_of_pos h2];simp only [List.length_cons];omega
   ·rw [List.filter_cons_of_pos h1,List.filter_cons_of_pos (hpq _ h1)];simpa using ih
theorem za6 {S:Nat→Bool}:∀ (l:List Nat),(∀ x∈l,S x=true)∨∃ xs i ys,l=xs++i::ys∧(∀ x∈xs,S x=true)∧S i=false
 | []=>.inl (by simp)
 | x::l=>by
  cases hx:S x
  ·exact .inr ⟨[],x,l,rfl,by simp,hx⟩
  ·rcases za6 l with h | ⟨xs,i,ys,rfl,h1,h2⟩
   ·refine .inl fun y hy=>?_
    rcases List.mem_cons.1 hy with rfl | hy
    ·exact hx
    ·exact h y hy
   ·refine .inr ⟨x::xs,i,ys,rfl,fun y hy=>?_,h2⟩
    rcases List.mem_cons.1 hy with rfl | hy
    ·exact hx
    ·exact h1 y hy

section
variable {G:Cfg} {B n:Nat} {rec:CallF} {ops:Array Oper} {σ:Stamp} {recs:List Rec} {e0 eF:Env} {h0 hF:H} {ws:List (Nat×(H→Prop))}
abbrev SL (listed:Array Bool):Nat→Bool:=fun j=>listed.getD j false
structure Inv (b:Bool) (G:Cfg) (B n:Nat) (ops:Array Oper) (σ:Stamp) (recs:List Rec) (e0:Env) (h0:H) (ι0:Inj) (w0:World) (ns0:Nodes) (S:Nat→Bool) (ι:Inj) (a:Act) (w:World):Prop where
 closed:Closed ops S
 st:St B n ι (eS ops S recs e0) (hS b ops S recs h0) a w
 alloc:∀ i,i<ops.size→S i=false→z9g b ops (oAt ops i)=true→ι.at_ (i::σ)=none
 eff:∀ i,i<ops.size→S i=false→effB b ops (oAt ops i)=true→Fresh (i::σ) ι (nodesH (hS b ops S recs h0))
 went:Went σ B ι0 w0 ns0 ι w (nodesH (hS b ops S recs h0))

theorem z69 {i:Nat} (hi:i<ops.size):ops[i]?=some (oAt ops i):=by
 show _=some (ops.getD i default)
 rw [Array.getD_eq_getD_getElem?,Array.getElem?_eq_getElem hi];rfl
theorem z7d {listed:Array Bool} (hl:listed.size=ops.size) {i:Nat}:i∈Region.ready .any ops listed↔i<ops.size∧SL listed i=false∧∀ e∈(oAt ops i).after.toList,Region.binds .any e=true→SL listed e.on=true:=by
 unfold Region.ready
 simp only [List.mem_filter,List.mem_range,Bool.and_eq_true]
 constructor
 ·rintro ⟨h1,h2,h3⟩
  refine ⟨h1,?_,fun e he hb=>?_⟩
  ·simp only [SL]
   rw [Array.getD_eq_getD_getElem?,Array.getElem?_eq_getElem (by omega)] at h2 ⊢
   simpa using h2
  ·rw [z69 h1] at h3
   simp only [Option.map_some,Option.getD_some,Array.all_eq_true'] at h3
   have:=h3 e (Array.mem_toList_iff.1 he)
   rw [hb] at this
   simpa using this
 ·rintro ⟨h1,h2,h3⟩
  refine ⟨h1,?_,?_⟩
  ·simp only [SL] at h2
   rw [Array.getD_eq_getD_getElem?,Array.getElem?_eq_getElem (by omega)] at h2 ⊢
   simpa using h2
  ·rw [z69 h1]
   simp only [Option.map_some,Option.getD_some,Array.all_eq_true']
   intro e he
   cases hb:Region.binds .any e
   ·simp
   ·simpa using h3 e (Array.mem_toList_iff.2 he) hb
theorem SL_set {listed:Array Bool} {i:Nat} (hi:i<listed.size):SL (listed.setIfInBounds i true)=with_ (SL listed) i:=by
 funext j
 simp only [SL,with_]
 rw [Array.getD_eq_getD_getElem?,Array.getD_eq_getD_getElem?,Array.getElem?_setIfInBounds]
 by_cases h:i=j
 ·subst h;simp [hi]
 ·rw [if_neg h]
  have:(j==i)=false:=by simp;exact fun hh=>h hh.symm
  rw [this,Bool.or_false]

theorem Inv.next {ι0:Inj} {w0:World} {ns0:Nodes} {S:Nat→Bool} {ι ι':Inj} {a a':Act} {w w':World} {r:Rec} (hv:Inv b G B n ops σ recs e0 h0 ι0 w0 ns0 S ι a w) (hi:r.i<ops.size) (hanc:∀ j,(A ops r.i).testBit j=true→S j=true)
  (hst:St B n ι' (eS ops (with_ S r.i) recs e0) (hS b ops (with_ S r.i) recs h0) a' w') (hw:Went (r.i::σ) B ι w (nodesH (hS b ops S recs h0)) ι' w' (nodesH (hS b ops (with_ S r.i) recs h0))) :
  Inv b G B n ops σ recs e0 h0 ι0 w0 ns0 (with_ S r.i) ι' a' w':=by
 have off:∀ j,with_ S r.i j=false→S j=false∧j≠r.i:=fun j hj=>by
  simp only [with_,Bool.or_eq_false_iff] at hj
  exact ⟨hj.1,by simpa using hj.2⟩
 have on:∀ j,S j=true→with_ S r.i j=true:=fun j hj=>by simp [with_,hj]
 refine ⟨fun j hj=>?_,hst,fun j hj hn hp=>?_,fun j hj hn he=>?_,hv.went.trans (hw.up (zd _ _))⟩
 ·simp only [with_,Bool.or_eq_true,beq_iff_eq] at hj
  rcases hj with hj | rfl
  ·exact ⟨(hv.closed j hj).1,fun k hk=>on k ((hv.closed j hj).2 k hk)⟩
  ·exact ⟨hi,fun k hk=>on k (hanc k hk)⟩
 ·obtain ⟨h1,h2⟩:=off j hn
  rw [hw.grew.at_ (j::σ) (z48 h2 (List.suffix_refl _))]
  exact hv.alloc j hj h1 hp
 ·obtain ⟨h1,h2⟩:=off j hn
  exact (hv.eff j hj h1 he).other (fun h=>h2 h.symm) hw.grew

theorem any_ok (hrec:CallOk G B rec) (hs:Safe b ops) (ho:recs.map Rec.i=ordOf b ops) (hc:Chain b mk G rec ops σ recs e0 h0 eF hF) (hw:Watch b G ops (allocW b mk ops G σ 0 ops.toList) recs) (hw0:∀ q∈allocW b mk ops G σ 0 ops.toList,q.2 h0) {id:Nat} {dr:Bool} (hfit:fits n (.region id ops dr)=true)
  {ι0:Inj} {w0:World} {ns0:Nodes} {Q:Exit→Act→World→Prop} (hk:∀ a w ι,St B n ι eF hF a w→Went σ B ι0 w0 ns0 ι w (nodesH hF)→Q .normal a w) :
  ∀ (fuel:Nat) (listed:Array Bool) (a:Act) (w:World) (ι:Inj),listed.size=ops.size→((List.range ops.size).filter fun j=>!SL listed j).length≤fuel→Inv b G B n ops σ recs e0 h0 ι0 w0 ns0 (SL listed) ι a w→wpAny G.P .any ops Q fuel listed a w:=by
 -- all ran
 have fin:∀ (listed:Array Bool) (a:Act) (w:World) (ι:Inj),(∀ i∈ordOf b ops,SL listed i=true)→Inv b G B n ops σ recs e0 h0 ι0 w0 ns0 (SL listed) ι a w→Q .normal a w:=fun listed a w ι hall hv=>by
  have h1:=z76 (S:=SL listed) recs e0 h0 eF hF (fun x hx=>hall _ (ho▸List.mem_map.2 ⟨x,hx,rfl⟩)) hc
  have h2:=hv.st
  have h3:=hv.went
  rw [h1.1,h1.2] at h2
  rw [h1.2] at h3
  exact hk a w ι h2 h3
 have none_ready:∀ (listed:Array Bool),listed.size=ops.size→Region.ready .any ops listed=[]→∀ i∈ordOf b ops,SL listed i=true:=fun listed hl hr=>by
  rcases za6 (S:=SL listed) (ordOf b ops) with h | ⟨xs,i,ys,h1,h2,h3⟩
  ·exact h
  ·obtain ⟨g1,g2,g3,g4⟩:=hs.go _ _ _ h1
   have:i∈Region.ready .any ops listed:=(z7d hl).2 ⟨g3,h3,fun e he hb=>h2 _ (g1 _ (hs.edge i g3 e he hb))⟩
   rw [hr] at this;simp at this
 intro fuel
 induction fuel with
 | zero =>
  intro listed a w ι hl hcount hv
  have hall:∀ i,i<ops.size→SL listed i=true:=fun i hi=>by
   cases h:SL listed i
   ·have:i∈(List.range ops.size).filter fun j=>!SL listed j:=List.mem_filter.2 ⟨List.mem_range.2 hi,by rw [h];rfl⟩
    have:=List.length_pos_of_mem this;omega
   ·rfl
  have hr:Region.ready .any ops listed=[]:=by
   rw [List.eq_nil_iff_forall_not_mem]
   intro i hi
   obtain ⟨h1,h2,_⟩:=(z7d hl).1 hi
   rw [hall i h1] at h2;simp at h2
  exact ⟨hr,fin listed a w ι (none_ready listed hl hr) hv⟩
 | succ fuel ih =>
  intro listed a w ι hl hcount hv
  refine ⟨fun hr=>fin listed a w ι (none_ready listed hl hr) hv,fun i hi=>?_⟩
  obtain ⟨hlt,hn,hed⟩:=(z7d hl).1 hi
  have hanc:∀ j,(A ops i).testBit j=true→SL listed j=true:=fun j hj=>by
   obtain ⟨e,he,hb,h⟩:=hs.back i hlt j hj
   have h1:=hed e he hb
   rcases h with rfl | h
   ·exact h1
   ·exact (hv.closed _ h1).2 _ h
  obtain ⟨r,rfl,hf⟩:=found hs ho hc hw hv.closed hlt hn hanc
  have hoi:=z69 hlt
  have hd:∀ j,(oAt ops r.i).dst=some j→j<n:=fun j hj=>z40 hfit hoi hj
  have hset:=SL_set (listed:=listed) (i:=r.i) (by omega)
  have hcount':((List.range ops.size).filter fun j=>!SL (listed.setIfInBounds r.i true) j).length≤fuel:=by
   rw [hset]
   have:=zaj (p:=fun j=>!SL listed j) (q:=fun j=>!with_ (SL listed) r.i j) (i:=r.i) (l:=List.range ops.size) (fun j hj=>by
    simp only [with_,Bool.not_or,Bool.and_eq_true] at hj;exact hj.1) (List.mem_range.2 hlt) (by rw [hn];rfl) (by simp [with_])
   omega
  -- what follows
  have go:∀ (u:Value) (w':World) (ι':Inj) (h':H),hS b ops (with_ (SL listed) r.i) recs h0=h'→St B n ι' (put (eS ops (SL listed) recs e0) (oAt ops r.i).dst r.v) h' (a.put (oAt ops r.i).dst u) w' →
    Went (r.i::σ) B ι w (nodesH (hS b ops (SL listed) recs h0)) ι' w' (nodesH h')→wpAny G.P .any ops Q fuel (listed.setIfInBounds r.i true) (a.put (oAt ops r.i).dst u) w':=fun u w' ι' h' hh hst hw'=>by
   refine ih _ _ _ ι' (by simpa using hl) hcount' ?_
   rw [hset]
   refine hv.next hlt hanc ?_ ?_
   ·rw [hf.next,hh];exact hst
   ·rw [hh];exact hw'
  unfold wpOp
  rw [hoi]
  simp only
  have env':∀ t,t∈(oAt ops r.i).looksAt ops→r.e t=eS ops (SL listed) recs e0 t:=fun t ht=>(hf.env t ht).symm
  have skip:∀ h',hS b ops (with_ (SL listed) r.i) recs h0=h'→h'=hS b ops (SL listed) recs h0→r.v=udf→Region.wanted (oAt ops r.i) (yielded ops a.tmps)=false →
    (if Region.wanted (oAt ops r.i) (yielded ops a.tmps) then (oAt ops r.i).wp G.P a w (wpAny G.P .any ops Q fuel (listed.setIfInBounds r.i true)) Q∨((oAt ops r.i).asks G.P a w∧LetsOut Q) else wpAny G.P .any ops Q fuel (listed.setIfInBounds r.i true) (a.put (oAt ops r.i).dst undef) w):=fun h' hh1 hh2 hu hw'=>by
   simp only [hw',if_false,Bool.false_eq_true]
   refine go undef w ι h' hh1 ?_ ?_
   ·rw [hu,hh2];exact zcd hv.st hd
   ·rw [hh2];exact .refl _ _ _ _ _
  cases hp:isPure (oAt ops r.i).op
  ·cases hal:(isMk b ops (oAt ops r.i))
   ·-- an effect
    have heff:=zb2 hp hal
    obtain ⟨q1,q2⟩:=hf.eff heff
    have hval:effG G rec ops (r.i::σ) (eS ops (SL listed) recs e0) (hS b ops (SL listed) recs h0) (oAt ops r.i)=some (r.v,r.h'):=by
     have:=hf.valid
     unfold Valid at this
     rw [hp,hal] at this
     rw [q1,← zcs env']
     exact this
    unfold effG at hval
    split at hval
    ·rename_i hg
     simp only [z3r hg,if_true]
     exact .inl (eff_ok hrec hv.st (hv.eff _ hlt hn heff) hd hval fun u w' ι' k1 k2=>go u w' ι' r.h' q2 k1 k2)
    ·rename_i d want hg
     obtain ⟨j,o',hj,hod⟩:=z56 hg
     obtain ⟨b,hb,hv'⟩:=Option.bind_eq_some_iff.1 hval
     have hwt:=z6m hv.st hg hb (z40 hfit hj hod)
     cases b with
     | true =>
      simp only [if_true] at hv'
      simp only [hwt,if_true]
      exact .inl (eff_ok hrec hv.st (hv.eff _ hlt hn heff) hd hv' fun u w' ι' k1 k2=>go u w' ι' r.h' q2 k1 k2)
     | false =>
      simp only [Bool.false_eq_true,if_false,Option.some.injEq,Prod.mk.injEq] at hv'
      exact skip r.h' q2 hv'.2.symm hv'.1.symm hwt
    ·simp at hval
   ·-- what is made here
    have hal':isMk b ops (oAt ops r.i)=true:=hal
    have hg:(oAt ops r.i).guard=none:=zcq hal'
    have hquiet:=hf.quiet (z4g hp hal')
    have hat:=hv.alloc r.i hlt hn (by unfold z9g;rw [hp,hal'];rfl)
    have hgn:zi ops (oAt ops r.i)=some none:=by unfold zi;rw [hg]
    have hvalid:=hf.valid
    unfold Valid at hvalid
    rw [hp,hal'] at hvalid
    simp only at hvalid
    simp only [z3r hgn,if_true]
    have fin:∀ (d:Nat) (cells:List C) (vals:Array Value) (ety:TypeId) (u:Value),(oAt ops r.i).dst=some d→(r.i::σ,cells)∈nodesH (hS b ops (SL listed) recs h0)→RCs (ι.put (r.i::σ) ⟨w.heap.size,0,vals.size⟩) cells vals.toList→cells.length≤vals.size →
      (execOp a.eval (oAt ops r.i)).run G.P w=.ok (.value u) (w.alloc (.cells vals ety))→RV (ι.put (r.i::σ) ⟨w.heap.size,0,vals.size⟩) r.v u →
      (oAt ops r.i).wp G.P a w (wpAny G.P .any ops Q fuel (listed.setIfInBounds r.i true)) Q∨((oAt ops r.i).asks G.P a w∧LetsOut Q):=fun d cells vals ety u hdst hnode hrc hlen hrun hrv=>by
     have hle:=Inj.Le.put hat ⟨w.heap.size,0,vals.size⟩
     have hS2:=hv.st.sim.give (vals:=vals) (ety:=ety) hnode hat hv.st.big hrc hlen
     have hb:Below B w (w.alloc (.cells vals ety)):=(Below.refl _ _).alloc hv.st.big _
     refine .inl ?_
     simp only [Oper.wp,hrun]
     exact go _ _ (ι.put (r.i::σ) ⟨w.heap.size,0,vals.size⟩) _ hquiet (hv.st.put hd hle hS2 hrv hb) ⟨hle,⟨fun s hs=>Inj.put_ne _ (fun (h:s=r.i::σ)=>hs (by rw [h];exact List.suffix_refl _)) _,fun s hs=>.inl hs⟩,hb⟩
    cases hall:z2j (oAt ops r.i).op with
    | true =>
     obtain ⟨t,ht⟩:=z7a hall
     have hmem:=z91 (mk:=mk) (G:=G) (σ:=σ) ht hal' ops.toList 0 r.i (by simpa using hoi)
     rw [Nat.zero_add] at hmem
     cases hdst:(oAt ops r.i).dst with
     | none=>exact (hw0 _ (hmem.2 hdst)).elim
     | some d =>
      obtain ⟨z,hz,hslot⟩:=hf.watch _ (hmem.1 d hdst) (hw0 _ (hmem.1 d hdst))
      obtain ⟨inf,z0,hinf,hz0,rfl,hleaf⟩:=z1m hz
      have hval:r.v=.ref (newLoc r.h d (r.i::σ)) 0:=by
       have:=hvalid.1
       rw [hall,hdst] at this
       exact this
      refine fin d _ z0.cells t _ hdst (zdi hslot) (fun j c hj=>by
       simp only [List.getElem?_map] at hj
       cases hc0:z0.cells.toList[j]? with
       | none=>simp [hc0] at hj
       | some u =>
        simp only [hc0,Option.map_some,Option.some.injEq] at hj
        subst hj
        exact ⟨u,rfl,RC.sh (.v (.p _) (hleaf u (List.mem_of_getElem? hc0)))⟩) (by simp) (zde ht hinf hz0) ?_
      rw [hval]
      have:=RV.ref (ι:=ι.put (r.i::σ) ⟨w.heap.size,0,z0.cells.size⟩) (l:=newLoc r.h d (r.i::σ)) (off:=0) (by show _=some _;exact Inj.put_same _ _ _)
      exact this
    | false =>
     have hmem:=za4 (mk:=mk) (G:=G) (σ:=σ) hall hal' ops.toList 0 r.i (by simpa using hoi)
     rw [Nat.zero_add] at hmem
     cases hdst:(oAt ops r.i).dst with
     | none=>exact (hw0 _ (hmem.2 hdst)).elim
     | some d =>
      obtain ⟨m',hm',hslot⟩:=hf.watch _ (hmem.1 d hdst) (hw0 _ (hmem.1 d hdst))
      have hv1:=hvalid.1
      rw [hall] at hv1
      obtain ⟨m,hm,hmo,hval⟩:=hv1
      rw [hm] at hm'
      cases hm'
      rw [hdst] at hval
      rw [z93 (z37 env')] at hmo
      obtain ⟨vals,ety,u,g1,g2,g3,g4⟩:=zec (w:=w) hv.st.env hmo
      refine fin d _ vals ety u hdst (zd4 hslot) (g2 _) (by simpa using g3) g1 ?_
      rw [hval]
      exact g4 _ _ (by show _=some _;exact Inj.put_same _ _ _)
  ·-- pure
   have hquiet:=hf.quiet (z9z hp)
   have hval:pureG G.P ops (eS ops (SL listed) recs e0) (hS b ops (SL listed) recs h0) (oAt ops r.i)=some r.v:=by
    rw [← zc0 env'];exact hf.read hp
   unfold pureG at hval
   split at hval
   ·rename_i hg
    simp only [z3r hg,if_true]
    exact .inl (z7o (r.i::σ) hv.st hd hval fun u w' ι' k1 k2=>go u w' ι' _ hquiet k1 k2)
   ·rename_i d want hg
    obtain ⟨j,o',hj,hod⟩:=z56 hg
    obtain ⟨b,hb,hv'⟩:=Option.bind_eq_some_iff.1 hval
    have hwt:=z6m hv.st hg hb (z40 hfit hj hod)
    cases b with
    | true =>
     simp only [if_true] at hv'
     simp only [hwt,if_true]
     exact .inl (z7o (r.i::σ) hv.st hd hv' fun u w' ι' k1 k2=>go u w' ι' _ hquiet k1 k2)
    | false =>
     simp only [Bool.false_eq_true,if_false,Option.some.injEq] at hv'
     exact skip _ hquiet rfl hv'.symm hwt
   ·simp at hval
end
end Go.Ev
namespace Go.Ev
open Go.RowKit (Below)
set_option linter.unusedVariables false
set_option linter.unusedSimpArgs false

theorem zf0 {ι:Inj} {x:V} {u:Value} {b:Bool} (h:asB x=some b) (hx:RV ι x u):u=.bool b:=by
 unfold asB at h
 split at h
 ·cases hx;simp only [Option.some.injEq] at h;subst h;rfl
 ·simp at h
theorem St.drew {B n:Nat} {ι:Inj} {e:Env} {h:H} {a:Act} {w:World} (hs:St B n ι e h a w):St B n ι e h a { w with drawn:=w.drawn+1 }:=⟨hs.sim,hs.env,hs.size,hs.defers,hs.big⟩

section
variable {G:Cfg} {B n m:Nat} {rec:CallF} {loop:LoopF}

theorem z9q {α:Type} (hrec:CallOk G B rec) (hmix:G.P.follows .mixedOrders=true) {id:Nat} {ops:Array Oper} {σ:Stamp} {e:Env} {h:H} {k:Exit→Env→H→Option α} {r:α} {Q:Exit→Act→World→Prop} {a:Act} {w:World} {ι:Inj}
  (hfit:fits n (.region id ops true)=true) (hev:evC G rec loop (.region id ops true) σ e h k=some r) (hs:St B n ι e h a w) (hf:Fresh σ ι (nodesH h))
  (hk:∀ x e' h' a' w' ι',k x e' h'=some r→St B n ι' e' h' a' w'→Went σ B ι w (nodesH h) ι' w' (nodesH h')→Q x a' w'):(Code.region id ops true).wp G.P Q a w:=by
 simp only [evC] at hev
 split at hev
 ·rename_i hsafe
  have safe:=zei hsafe
  obtain ⟨h0,hpre,hev2⟩:=Option.bind_eq_some_iff.1 hev
  clear hev
  obtain ⟨hw0,hev3⟩:=z2e hev2
  clear hev2
  obtain ⟨recs,eF,hF,ho,hc,hkF,hw⟩:=z3s _ _ _ _ hev3
  obtain ⟨p1,p2⟩:=z5g ops.toList 0 h h0 hpre hs.sim fun j _=>hf.sub (zd j σ)
  have hw0':∀ q∈allocW (drB ops) (mkAt G ops e) ops G σ 0 ops.toList,q.2 h0:=fun q hq=>(hw0 q hq).resolve_left (by simp)
  refine wp_region_any hmix ?_
  have hSL:SL (Array.replicate ops.size false)=fun _=>false:=by
   funext j
   simp only [SL]
   rw [Array.getD_eq_getD_getElem?,Array.getElem?_replicate]
   split<;>rfl
  refine any_ok hrec safe ho hc hw hw0' hfit (ι0:=ι) (w0:=w) (ns0:=nodesH h) (fun a' w' ι' q1 q2=>hk .normal eF hF a' w' ι' hkF q1 q2) ops.size _ a _ ι (by simp) ?_ ?_
  ·exact Nat.le_trans (List.length_filter_le _ _) (by simp)
  ·rw [hSL]
   have e1:eS ops (fun _=>false) recs e=e:=z9n recs e fun _ _=>rfl
   have e2:hS (drB ops) ops (fun _=>false) recs h0=h0:=z7v recs h0 fun _ _ _=>rfl
   refine ⟨fun i hi=>by simp at hi,?_,fun i hi _ _=>(hf (i::σ) (zd i σ)).1,fun i hi _ he s hs'=>?_,?_⟩
   ·rw [e1,e2];exact ⟨p1,hs.env,hs.size,hs.defers,hs.big⟩
   ·rw [e2]
    obtain ⟨q1,q2⟩:=hf s ((zd i σ).trans hs')
    refine ⟨q1,fun hm=>?_⟩
    rcases p2 s hm with hm | ⟨j,o,_,rfl,hj,hpl⟩
    ·exact q2 hm
    ·by_cases hij:j=i
     ·subst hij
      have:o=oAt ops j:=by
       have h1:=z69 hi
       simp only [Nat.sub_zero,Array.getElem?_toList] at hj
       rw [hj] at h1
       exact Option.some.inj h1
      subst this
      rw [z4g hpl.2 hpl.1] at he;simp at he
     ·exact z48 hij (List.suffix_refl _) hs'
   ·rw [e2]
    refine ⟨.refl _,⟨fun s _=>rfl,fun s hm=>?_⟩,z84 (Below.refl _ _)⟩
    rcases p2 s hm with hm | ⟨j,o,_,rfl,_,_⟩
    ·exact .inl hm
    ·exact .inr (zd j σ)
 ·simp at hev

theorem evC_ok {α:Type} (hrec:CallOk G B rec) (hloop:LoopOk G B m loop) (hmix:G.P.follows .mixedOrders=true):∀ (c:Code) (σ:Stamp) (e:Env) (h:H) (k:Exit→Env→H→Option α) (r:α) (Q:Exit→Act→World→Prop) (a:Act) (w:World) (ι:Inj),
  evC G rec loop c σ e h k=some r→fits n c=true→St B n ι e h a w→Fresh σ ι (nodesH h) →
  (∀ x e' h' a' w' ι',k x e' h'=some r→St B n ι' e' h' a' w'→Went σ B ι w (nodesH h) ι' w' (nodesH h')→Q x a' w')→c.wp G.P Q a w:=by
 intro c
 induction c with
 | skip=>intro σ e h k r Q a w ι hev hfit hs hf hk;exact wp_skip (hk .normal e h a w ι hev hs (.refl _ _ _ _ _))
 | ret=>intro σ e h k r Q a w ι hev hfit hs hf hk;exact wp_ret (hk .ret e h a w ι hev hs (.refl _ _ _ _ _))
 | exit id=>intro σ e h k r Q a w ι hev hfit hs hf hk;exact wp_exit (hk (.exit id) e h a w ι hev hs (.refl _ _ _ _ _))
 | seq x y ihx ihy =>
  intro σ e h k r Q a w ι hev hfit hs hf hk
  simp only [fits,Bool.and_eq_true] at hfit
  simp only [evC] at hev
  refine wp_seq (ihx (0::σ) e h _ r _ a w ι hev hfit.1 hs (hf.sub (zd 0 σ)) fun x' e' h' a' w' ι' hk' hs' hw'=>?_)
  have hf':Fresh (1::σ) ι' (nodesH h'):=(hf.sub (zd 1 σ)).other (by omega) hw'.grew
  cases x' with
  | normal=>exact ihy (1::σ) e' h' _ r Q a' w' ι' hk' hfit.2 hs' hf' fun x2 e2 h2 a2 w2 ι2 q1 q2 q3=>hk x2 e2 h2 a2 w2 ι2 q1 q2 ((hw'.up (zd 0 σ)).trans (q3.up (zd 1 σ)))
  | _=>exact hk _ e' h' a' w' ι' hk' hs' (hw'.up (zd 0 σ))
 | cond c x y ihx ihy =>
  intro σ e h k r Q a w ι hev hfit hs hf hk
  simp only [fits,Bool.and_eq_true] at hfit
  simp only [evC] at hev
  obtain ⟨t,ht,hev'⟩:=Option.bind_eq_some_iff.1 hev
  have hc:=zf0 ht (opd_ok hs.env c)
  refine wp_cond hc ?_
  cases t with
  | true=>exact ihx σ e h k r Q a w ι hev' hfit.1 hs hf hk
  | false=>exact ihy σ e h k r Q a w ι hev' hfit.2 hs hf hk
 | block id c ih =>
  intro σ e h k r Q a w ι hev hfit hs hf hk
  simp only [fits] at hfit
  simp only [evC] at hev
  refine wp_block (ih σ e h _ r _ a w ι hev hfit hs hf fun x' e' h' a' w' ι' hk' hs' hw'=>?_)
  cases x' with
  | exit j =>
   simp only at hk'
   simp only [Exit.inBlock]
   split at hk'
   ·rename_i hj;rw [if_pos hj];exact hk _ e' h' a' w' ι' hk' hs' hw'
   ·rename_i hj;rw [if_neg hj];exact hk _ e' h' a' w' ι' hk' hs' hw'
  | _=>exact hk _ e' h' a' w' ι' hk' hs' hw'
 | loop c ih =>
  intro σ e h k r Q a w ι hev hfit hs hf hk
  simp only [fits] at hfit
  simp only [evC] at hev
  obtain ⟨⟨x,e',h'⟩,hl,hk'⟩:=Option.bind_eq_some_iff.1 hev
  exact wp_loop_rounds m (hloop n c σ e h x e' h' hl hfit ι a w hs hf Q fun a' w' ι' q1 q2=>hk x e' h' a' w' ι' hk' q1 q2)
 | region id ops dr =>
  intro σ e h k r Q a w ι hev hfit hs hf hk
  cases dr with
  | true=>exact z9q hrec hmix hfit hev hs hf hk
  | false =>
   simp only [evC] at hev
   refine wp_region ?_
   have:=zb0 hrec hfit ops.toList 0 e h a w ι (by simp) hev hs (fun j _=>hf.sub (zd j σ)) fun e' h' a' w' ι' q1 q2 q3=>hk .normal e' h' a' w' ι' q1 q2 q3
   simpa using this
 | _=>intro σ e h k r Q a w ι hev;simp [evC] at hev

theorem zed {P:Program} {ι:Inj} {h:H} {t:TypeId} {x v:V} {u:Value} (hx:RV ι x u) (hv:ldV P h t x=some v):∃ ad,u=.pointer (some ad):=by
 unfold ldV at hv
 split at hv
 ·simp at hv
 ·split at hv
  ·cases hx;exact ⟨_,rfl⟩
  ·cases hx;exact ⟨_,rfl⟩
  ·simp at hv
def resM (tmps:Array Value):ResultVar→Sem Value
 | .tmp t=>pure (tmps.getD t undef)
 | .cell ad t=>do loadVar t (← asAddr (tmps.getD ad undef))
theorem z6j {P:Program} {ι:Inj} {e:Env} {h:H} {a:Act} {w:World} (hS:SimN ι B w.heap (nodesH h)) (hE:RE ι e a):∀ (rs:List ResultVar) (vs:List V),z1i P e h rs=some vs →
  ∃ us:List Value,RVs ι vs us∧(rs.mapM (resM a.tmps)).run P w=.ok us w
 | [],vs,hv=>by
  simp only [z1i,Option.some.injEq] at hv
  subst hv
  exact ⟨[],.nil,by simp⟩
 | .tmp t::rs,vs,hv=>by
  simp only [z1i] at hv
  obtain ⟨vs',h1,rfl⟩:=Option.map_eq_some_iff.1 hv
  obtain ⟨us,k1,k2⟩:=z6j hS hE rs vs' h1
  exact ⟨a.tmps.getD t undef::us,.cons (hE t) k1,by
   have q:(resM a.tmps (.tmp t)).run P w=.ok (a.tmps.getD t undef) w:=rfl
   rw [List.mapM_cons];simp only [Sem.run_bind,q,k2,Result.andThen_ok,Sem.run_pure]⟩
 | .cell ad t::rs,vs,hv=>by
  simp only [z1i] at hv
  obtain ⟨x,hx,hv1⟩:=Option.bind_eq_some_iff.1 hv
  obtain ⟨vs',h1,rfl⟩:=Option.map_eq_some_iff.1 hv1
  obtain ⟨us,k1,k2⟩:=z6j hS hE rs vs' h1
  obtain ⟨u,q1,q2⟩:=ld_ok hS (hE ad) hx
  obtain ⟨p,hp⟩:=zed (hE ad) hx
  rw [hp] at q1
  have q1':(loadVar t p).run P w=.ok u w:=by simpa [Instr.loadAt,Instr.sureAddr] using q1
  exact ⟨u::us,.cons q2 k1,by
   have q:(resM a.tmps (.cell ad t)).run P w=.ok u w:=by
    unfold resM;simp only [Sem.run_bind,hp,asAddr,Sem.run_pure,Result.andThen_ok,q1']
   rw [List.mapM_cons];simp only [Sem.run_bind,q,k2,Result.andThen_ok,Sem.run_pure]⟩
theorem zeh {ι:Inj} {ex:Nodes} {h h':H} {x:V} {u:Value} {c:C} {σ:Stamp} {w:World} (hS:SimN ι B w.heap (ex++nodesH h)) (hf:Fresh σ ι (ex++nodesH h)) (hx:RV ι x u) (hv:expC σ h x=some (c,h')) :
  ∃ ι',ι.Le ι'∧(∀ h2 d j,RVs ι' (resVs h2 d j [c]) [u])∧SimN ι' B w.heap (ex++(nodesC c++nodesH h'))∧(∀ s,¬ σ <:+ s→ι'.at_ s=ι.at_ s)∧∀ s,s∈stamps (nodesC c++nodesH h')→s∈stamps (nodesH h)∨σ <:+ s:=by
 have keep:∀ {y:V},RV ι y u→c=.v y→h'=h→∃ ι',ι.Le ι'∧(∀ h2 d j,RVs ι' (resVs h2 d j [c]) [u])∧SimN ι' B w.heap (ex++(nodesC c++nodesH h'))∧(∀ s,¬ σ <:+ s→ι'.at_ s=ι.at_ s)∧∀ s,s∈stamps (nodesC c++nodesH h')→s∈stamps (nodesH h)∨σ <:+ s:=by
  intro y hy h1 h2
  subst h1;subst h2
  exact ⟨ι,.refl _,fun _ _ _=>.cons hy .nil,by simpa [nodesC] using hS,fun _ _=>rfl,fun s hs=>.inl (by simpa [nodesC] using hs)⟩
 unfold expC at hv
 split at hv
 ·rename_i r off
  split at hv
  ·split at hv
   ·rename_i s cs hat
    split at hv
    ·rename_i hoff
     subst hoff
     simp only [Option.some.injEq,Prod.mk.injEq] at hv
     obtain ⟨rfl,rfl⟩:=hv
     obtain ⟨k1,k2⟩:=z7x hS hat
     obtain ⟨cs',_,hnode⟩:=at_nd hat
     have hs:s=r.last:=by
      simp only [C.node] at hnode
      split at hnode
      ·rename_i h;exact h
      ·simp at hnode
     refine ⟨ι,.refl _,fun h2 d j=>?_,k1,fun _ _=>rfl,fun s hs=>.inl (k2 s hs)⟩
     cases hx with
     | ref hp=>exact .cons (.ref (by rw [← hs] at hp;exact hp)) .nil
    ·simp at hv
   ·simp at hv
  ·simp only [Option.some.injEq,Prod.mk.injEq] at hv
   exact keep hx hv.1.symm hv.2.symm
 ·rename_i r off len av esz
  split at hv
  ·split at hv
   ·rename_i s n0 e0 cs hat
    split at hv
    ·rename_i he
     subst he
     obtain ⟨ds,hr,hv1⟩:=Option.bind_eq_some_iff.1 hv
     obtain ⟨h1,h2,h3⟩:=z3a hr
     simp only [Option.some.injEq,Prod.mk.injEq] at hv1
     obtain ⟨rfl,rfl⟩:=hv1
     obtain ⟨k1,k2⟩:=z7x hS hat
     obtain ⟨cs',_,hnode⟩:=at_nd hat
     have hs:s=r.last:=by
      simp only [C.node] at hnode
      split at hnode
      ·rename_i h;exact h
      ·simp at hnode
     subst hs
     cases hx with
     | sl hp m1 m2 m3 m4 =>
      rename_i cap o p
      have k3:SimN ι B w.heap ((r.last,cs.map sh)::(ex++(z5 cs++nodesH (setAt h r .dead)))):=by
       refine k1.perm ?_
       simp only [nodesC,List.cons_append]
       exact List.perm_middle
      have hk2:∀ s,s∈stamps ((r.last,cs.map sh)::(z5 cs++nodesH (setAt h r .dead)))→s∈stamps (nodesH h):=fun s hs=>k2 s (by simpa [nodesC] using hs)
      have pt:Part (ex++(z5 ds++nodesH (setAt h r .dead))) (ex++(z5 cs++nodesH (setAt h r .dead))):=by
       refine Part.append_left _ (Part.append_right ?_ _)
       rw [h2];exact z4d cs _ _
      by_cases h0:off=0
      ·subst h0
       rw [if_pos rfl]
       have k4:SimN ι B w.heap ((r.last,ds.map sh)::(ex++(z5 cs++nodesH (setAt h r .dead)))):=by
        refine k3.same (by simp only [List.length_map];omega) fun us hus i c hc=>?_
        rw [h2] at hc
        have:=z58 hc
        rw [Nat.zero_add] at this
        exact hus i c this
       refine ⟨ι,.refl _,fun h2' d j=>.cons (.sl (p:=p) hp (Nat.le_refl _) (by omega) m3 m4) .nil,?_,fun _ _=>rfl,fun s hs=>.inl ?_⟩
       ·refine (k4.part (Part.cons _ pt)).perm ?_
        simp only [nodesC,List.cons_append]
        exact List.perm_middle.symm
       ·refine hk2 s ?_
        simp only [nodesC,stamps,List.map_cons,List.map_append,List.cons_append,List.mem_cons,List.mem_append] at hs ⊢
        rcases hs with h | h | h
        ·exact .inl h
        ·refine .inr (.inl ?_)
         have:=z16 (by rw [h2];exact z4d cs _ _:Part (z5 ds) (z5 cs)) (s:=s) (by simpa [stamps] using h)
         simpa [stamps] using this
        ·exact .inr (.inr h)
      ·rw [if_neg h0]
       have hsub:∀ s,s∈stamps (ex++(z5 cs++nodesH (setAt h r .dead)))→s∈stamps (ex++nodesH h):=fun s hs=>by
        simp only [stamps,List.map_append,List.mem_append] at hs ⊢
        rcases hs with h | h
        ·exact .inl h
        ·refine .inr ?_
         have:=hk2 s (by simp only [stamps,List.map_cons,List.map_append,List.mem_cons,List.mem_append];exact .inr h)
         simpa [stamps] using this
       have k4:=k3.restamp (s':=σ) (cells':=ds.map sh) (o:=off) hp hf.self.1 (fun hm=>hf.self.2 (hsub _ hm)) (fun i c hc=>by rw [h2] at hc;exact z58 hc) (by simp only [List.length_map];omega)
       have hle:=Inj.Le.put hf.self.1 ⟨p.blk,p.off+off,p.tot⟩
       refine ⟨_,hle,fun h2' d j=>.cons (.sl (p:=⟨p.blk,p.off+off,p.tot⟩) (Inj.put_same _ _ _) (Nat.le_refl _) (by omega) (fun hc=>by simpa using m3 hc) (fun hc=>by simpa using m4 hc)) .nil,?_,fun s hs=>Inj.put_ne _ (fun (h:s=σ)=>hs (by rw [h];exact List.suffix_refl _)) _,fun s hs=>?_⟩
       ·refine (k4.part (Part.cons _ pt)).perm ?_
        simp only [nodesC,List.cons_append]
        exact List.perm_middle.symm
       ·simp only [nodesC,stamps,List.map_cons,List.map_append,List.cons_append,List.mem_cons,List.mem_append] at hs
        rcases hs with h | h | h
        ·exact .inr (by rw [h];exact List.suffix_refl _)
        ·refine .inl (hk2 s ?_)
         have:=z16 (by rw [h2];exact z4d cs _ _:Part (z5 ds) (z5 cs)) (s:=s) (by simpa [stamps] using h)
         simp only [stamps,List.map_cons,List.map_append,List.mem_cons,List.mem_append]
         exact .inr (.inl (by simpa [stamps] using this))
        ·refine .inl (hk2 s ?_)
         simp only [stamps,List.map_cons,List.map_append,List.mem_cons,List.mem_append]
         exact .inr (.inr h)
    ·simp at hv
   ·simp at hv
  ·simp only [Option.some.injEq,Prod.mk.injEq] at hv
   exact keep hx hv.1.symm hv.2.symm
 ·rename_i xs
  obtain ⟨⟨ys,h1⟩,hfz,hv1⟩:=Option.map_eq_some_iff.1 hv
  simp only [Prod.mk.injEq] at hv1
  obtain ⟨rfl,rfl⟩:=hv1
  cases hx with
  | agg hxs =>
   obtain ⟨ι1,l1,a1,r1,s1,t1⟩:=z67 hS hxs hfz
   exact ⟨ι1,l1,fun _ _ _=>.cons (.agg r1) .nil,by simpa [nodesC] using s1,fun s _=>by rw [a1],fun s hs=>.inl (t1 s (by simpa [nodesC] using hs))⟩
 ·simp only [Option.some.injEq,Prod.mk.injEq] at hv
  exact keep hx hv.1.symm hv.2.symm
end
theorem zen {B:Nat} {ι:Inj} {ex:Nodes} {h h':H} {x:V} {u:Value} {c:C} {frz:Bool} {σ:Stamp} {w:World} (hS:SimN ι B w.heap (ex++nodesH h)) (hf:Fresh σ ι (ex++nodesH h)) (hx:RV ι x u) (hv:expF frz σ h x=some (c,h')) :
  ∃ ι',ι.Le ι'∧(∀ h2 d j,RVs ι' (resVs h2 d j [c]) [u])∧SimN ι' B w.heap (ex++(nodesC c++nodesH h'))∧(∀ s,¬ σ <:+ s→ι'.at_ s=ι.at_ s)∧∀ s,s∈stamps (nodesC c++nodesH h')→s∈stamps (nodesH h)∨σ <:+ s:=by
 unfold expF at hv
 split at hv
 ·rename_i r off len av esz
  obtain ⟨ι',l,a,r1,_,s1,t1⟩:=z7u hS hx hv
  refine ⟨ι',l,fun h2 d j=>?_,s1,fun s _=>by rw [a],fun s hs=>.inl (t1 s hs)⟩
  have hc:∃ y,c=.v y:=by
   unfold layC at hv
   simp only [Bool.false_eq_true,if_false] at hv
   split at hv
   ·split at hv
    ·split at hv
     ·obtain ⟨xs,_,hv1⟩:=Option.bind_eq_some_iff.1 hv
      obtain ⟨ys,_,hv2⟩:=Option.bind_eq_some_iff.1 hv1
      simp only [Option.some.injEq,Prod.mk.injEq] at hv2
      exact ⟨_,hv2.1.symm⟩
     ·simp at hv
    ·simp at hv
   ·simp only [Option.some.injEq,Prod.mk.injEq] at hv
    exact ⟨_,hv.1.symm⟩
  obtain ⟨y,rfl⟩:=hc
  cases r1 with
  | v r1 _=>exact .cons r1 .nil
 ·exact zeh hS hf hx hv
end Go.Ev
namespace Go.Ev
set_option linter.unusedVariables false
set_option linter.unusedSimpArgs false

def LeC (r r':CallF):Prop:=∀ f σ a h x,r f σ a h=some x→r' f σ a h=some x
def LeL (r r':LoopF):Prop:=∀ c σ e h x,r c σ e h=some x→r' c σ e h=some x
section
variable {G:Cfg} {rec rec':CallF} {loop loop':LoopF}
theorem zcz (hr:LeC rec rec') {σ:Stamp} {e:Env} {h:H} {c:Call} {d:Option Nat} {x:V×H} (hx:callE G rec σ e h c d=some x):callE G rec' σ e h c d=some x:=by
 unfold callE at hx ⊢
 split at hx<;>try exact hx
 split at hx
 ·obtain ⟨q,hq,hx⟩:=Option.bind_eq_some_iff.1 hx
  obtain ⟨y,hy,rfl⟩:=Option.map_eq_some_iff.1 hx
  rename_i hf
  simp only [hf,hq,Option.bind_some,hr _ _ _ _ _ hy,Option.map_some]
 ·simp at hx
theorem z9x (hr:LeC rec rec') {σ:Stamp} {e:Env} {h:H} {o:Oper} {x:V×H} (hx:effV G rec σ e h o=some x):effV G rec' σ e h o=some x:=by
 unfold effV at hx ⊢
 split at hx<;>try exact hx
 exact zcz hr hx
theorem z5c (hr:LeC rec rec') {ops:Array Oper} {σ:Stamp} {e:Env} {h:H} {o:Oper} {x:V×H} (hx:effG G rec ops σ e h o=some x):effG G rec' ops σ e h o=some x:=by
 unfold effG at hx ⊢
 split at hx
 ·exact z9x hr hx
 ·rename_i d want hg
  unfold gdE at hx ⊢
  obtain ⟨b,hb,hx'⟩:=Option.bind_eq_some_iff.1 hx
  rw [hb]
  cases b with
  | true=>exact z9x hr hx'
  | false=>exact hx'
 ·simp at hx
theorem z4e {α:Type} (hr:LeC rec rec') {all:Array Oper} {σ:Stamp} {k k':Env→H→Option α} {r:α} (hk:∀ e h,k e h=some r→k' e h=some r):∀ (os:List Oper) (i:Nat) (e:Env) (h:H),
  evOps G rec all σ k i os e h=some r→evOps G rec' all σ k' i os e h=some r
 | [],i,e,h,hx=>hk e h hx
 | o::os,i,e,h,hx=>by
  simp only [evOps] at hx ⊢
  split at hx
  ·obtain ⟨v,hv,hx'⟩:=Option.bind_eq_some_iff.1 hx
   simp only [hv,Option.bind_some]
   exact z4e hr hk os _ _ _ hx'
  ·obtain ⟨v,hv,hx'⟩:=Option.bind_eq_some_iff.1 hx
   simp only [z5c hr hv,Option.bind_some]
   exact z4e hr hk os _ _ _ hx'
theorem z3p {α:Type} {anc:Nat} {h:H} {x x':Option α} {r:α} (hk:x=some r→x'=some r):∀ {ws:List (Nat×(H→Prop))},needs anc ws h x=some r→needs anc ws h x'=some r
 | [],hx=>hk hx
 | q::ws,hx=>by
  unfold needs at hx ⊢
  split at hx
  ·exact z3p hk hx
  ·unfold need at hx ⊢
   split at hx
   ·rename_i hq
    rw [if_pos hq];exact z3p hk hx
   ·simp at hx
theorem z2k {b:Bool} {mk:Mk} {α:Type} (hr:LeC rec rec') {ops:Array Oper} {σ:Stamp} {k k':Env→H→Option α} {r:α} (hk:∀ e h,k e h=some r→k' e h=some r):∀ (l:List Nat) (ws:List (Nat×(H→Prop))) (e:Env) (h:H),
  evDraw b mk G rec ops σ k l ws e h=some r→evDraw b mk G rec' ops σ k' l ws e h=some r
 | [],ws,e,h,hx=>hk e h hx
 | i::l,ws,e,h,hx=>by
  simp only [evDraw] at hx ⊢
  split at hx
  ·obtain ⟨v,hv,hx'⟩:=Option.bind_eq_some_iff.1 hx
   simp only [hv,Option.bind_some]
   exact z2k hr hk l _ _ _ hx'
  ·split at hx
   ·exact z2k hr hk l _ _ _ hx
   ·rename_i ha
    obtain ⟨m,hm,hx'⟩:=Option.bind_eq_some_iff.1 hx
    simp only [ha,hm,Option.bind_some]
    unfold need at hx' ⊢
    split at hx'
    ·rename_i hq
     rw [if_pos hq];exact z2k hr hk l _ _ _ hx'
    ·simp at hx'
  ·obtain ⟨v,hv,hx'⟩:=Option.bind_eq_some_iff.1 hx
   simp only [z5c hr hv,Option.bind_some]
   exact z3p (z2k hr hk l _ _ _) hx'
theorem z8j {α:Type} (hr:LeC rec rec') (hl:LeL loop loop'):∀ (c:Code) (σ:Stamp) (e:Env) (h:H) (k k':Exit→Env→H→Option α) (r:α),(∀ x e h,k x e h=some r→k' x e h=some r) →
  evC G rec loop c σ e h k=some r→evC G rec' loop' c σ e h k'=some r:=by
 intro c
 induction c with
 | skip=>intro σ e h k k' r hk hx;exact hk _ _ _ hx
 | ret=>intro σ e h k k' r hk hx;exact hk _ _ _ hx
 | exit id=>intro σ e h k k' r hk hx;exact hk _ _ _ hx
 | seq a b iha ihb =>
  intro σ e h k k' r hk hx
  simp only [evC] at hx ⊢
  refine iha _ _ _ _ _ r (fun x e h hx=>?_) hx
  cases x with
  | normal=>exact ihb _ _ _ _ _ r hk hx
  | _=>exact hk _ _ _ hx
 | cond c a b iha ihb =>
  intro σ e h k k' r hk hx
  simp only [evC] at hx ⊢
  obtain ⟨t,ht,hx'⟩:=Option.bind_eq_some_iff.1 hx
  simp only [ht,Option.bind_some]
  cases t with
  | true=>exact iha _ _ _ _ _ r hk hx'
  | false=>exact ihb _ _ _ _ _ r hk hx'
 | block id c ih =>
  intro σ e h k k' r hk hx
  simp only [evC] at hx ⊢
  refine ih _ _ _ _ _ r (fun x e h hx=>?_) hx
  cases x with
  | exit j =>
   simp only at hx ⊢
   split at hx
   ·rename_i hj;rw [if_pos hj];exact hk _ _ _ hx
   ·rename_i hj;rw [if_neg hj];exact hk _ _ _ hx
  | _=>exact hk _ _ _ hx
 | loop c ih =>
  intro σ e h k k' r hk hx
  simp only [evC] at hx ⊢
  obtain ⟨y,hy,hx'⟩:=Option.bind_eq_some_iff.1 hx
  simp only [hl _ _ _ _ _ hy,Option.bind_some]
  exact hk _ _ _ hx'
 | region id ops dr =>
  intro σ e h k k' r hk hx
  cases dr with
  | false =>
   simp only [evC] at hx ⊢
   exact z4e hr (hk .normal) _ _ _ _ hx
  | true =>
   simp only [evC] at hx ⊢
   split at hx
   ·obtain ⟨y,hy,hx'⟩:=Option.bind_eq_some_iff.1 hx
    simp only [hy,Option.bind_some]
    exact z3p (z2k hr (hk .normal) _ _ _ _) hx'
   ·simp at hx
 | _=>intro σ e h k k' r hk hx;simp [evC] at hx
theorem zbp (hr:LeC rec rec') (hl:LeL loop loop'):LeC (evBody G rec loop) (evBody G rec' loop'):=by
 intro f σ a h x hx
 unfold evBody at hx ⊢
 split at hx
 ·rename_i fn h1
  split at hx
  ·rename_i c h2
   split at hx
   ·rename_i h3
    rw [if_pos h3]
    exact z8j hr hl _ _ _ _ _ _ _ (fun _ _ _ h=>h) hx
   ·simp at hx
  ·simp at hx
 ·simp at hx
theorem zau (hr:LeC rec rec') (hl:LeL loop loop'):LeL (z26 G rec loop) (z26 G rec' loop'):=by
 intro c σ e h x hx
 unfold z26 at hx ⊢
 refine z8j hr hl _ _ _ _ _ _ _ (fun y e h hy=>?_) hx
 cases y with
 | normal=>exact hl _ _ _ _ _ hy
 | _=>exact hy
end
section
variable {G:Cfg} {X:CallF}
theorem z6d (k:Nat) (f:FuncId) (σ:Stamp) (a:List V) (h:H):kCall G X (k+1) f σ a h=(match X f σ a h with | some r=>some r | none=>evBody G (kCall G X k) (kLoop G X k) f σ a h):=by rw [kCall];rfl
theorem z6a (k:Nat) (c:Code) (σ:Stamp) (e:Env) (h:H):kLoop G X (k+1) c σ e h=z26 G (kCall G X k) (kLoop G X k) c σ e h:=by rw [kLoop]
theorem k_succ:∀ k,LeC (kCall G X k) (kCall G X (k+1))∧LeL (kLoop G X k) (kLoop G X (k+1))
 | 0=>⟨fun f σ a h x hx=>by simp [kCall] at hx,fun c σ e h x hx=>by simp [kLoop] at hx⟩
 | k+1=>by
  obtain ⟨h1,h2⟩:=k_succ k
  refine ⟨fun f σ a h x hx=>?_,fun c σ e h x hx=>?_⟩
  ·rw [z6d] at hx ⊢
   split at hx
   ·exact hx
   ·exact zbp h1 h2 _ _ _ _ _ hx
  ·rw [z6a] at hx ⊢
   exact zau h1 h2 _ _ _ _ _ hx
theorem k_le {j k:Nat} (hjk:j≤k):LeC (kCall G X j) (kCall G X k)∧LeL (kLoop G X j) (kLoop G X k):=by
 induction hjk with
 | refl=>exact ⟨fun _ _ _ _ _ h=>h,fun _ _ _ _ _ h=>h⟩
 | step _ ih=>exact ⟨fun f σ a h x hx=>(k_succ _).1 _ _ _ _ _ (ih.1 _ _ _ _ _ hx),fun f σ a h x hx=>(k_succ _).2 _ _ _ _ _ (ih.2 _ _ _ _ _ hx)⟩
open Classical in
noncomputable def ev (G:Cfg) (X:CallF):CallF:=fun f σ a h=>if hx:∃ k r,kCall G X k f σ a h=some r then some (Classical.choose (Classical.choose_spec hx)) else none
open Classical in
noncomputable def evL (G:Cfg) (X:CallF):LoopF:=fun c σ e h=>if hx:∃ k r,kLoop G X k c σ e h=some r then some (Classical.choose (Classical.choose_spec hx)) else none
theorem z9t {f:FuncId} {σ:Stamp} {a:List V} {h:H} {x:List C×H}:ev G X f σ a h=some x↔∃ k,kCall G X k f σ a h=some x:=by
 constructor
 ·intro hx
  unfold ev at hx
  split at hx
  ·rename_i he
   simp only [Option.some.injEq] at hx
   refine ⟨Classical.choose he,?_⟩
   rw [← hx]
   exact Classical.choose_spec (Classical.choose_spec he)
  ·simp at hx
 ·rintro ⟨k,hk⟩
  unfold ev
  have he:∃ k r,kCall G X k f σ a h=some r:=⟨k,x,hk⟩
  rw [dif_pos he]
  have h1:=Classical.choose_spec (Classical.choose_spec he)
  have h2:=(k_le (G:=G) (X:=X) (Nat.le_max_left k (Classical.choose he))).1 _ _ _ _ _ hk
  have h3:=(k_le (G:=G) (X:=X) (Nat.le_max_right k (Classical.choose he))).1 _ _ _ _ _ h1
  rw [h2] at h3
  exact h3.symm
theorem z8h {c:Code} {σ:Stamp} {e:Env} {h:H} {x:Exit×Env×H}:evL G X c σ e h=some x↔∃ k,kLoop G X k c σ e h=some x:=by
 constructor
 ·intro hx
  unfold evL at hx
  split at hx
  ·rename_i he
   simp only [Option.some.injEq] at hx
   refine ⟨Classical.choose he,?_⟩
   rw [← hx]
   exact Classical.choose_spec (Classical.choose_spec he)
  ·simp at hx
 ·rintro ⟨k,hk⟩
  unfold evL
  have he:∃ k r,kLoop G X k c σ e h=some r:=⟨k,x,hk⟩
  rw [dif_pos he]
  have h1:=Classical.choose_spec (Classical.choose_spec he)
  have h2:=(k_le (G:=G) (X:=X) (Nat.le_max_left k (Classical.choose he))).2 _ _ _ _ _ hk
  have h3:=(k_le (G:=G) (X:=X) (Nat.le_max_right k (Classical.choose he))).2 _ _ _ _ _ h1
  rw [h2] at h3
  exact h3.symm

theorem zcu {σ:Stamp} {e:Env} {h:H} {c:Call} {d:Option Nat} {x:V×H} (hx:callE G (ev G X) σ e h c d=some x):∃ k,callE G (kCall G X k) σ e h c d=some x:=by
 unfold callE at hx
 split at hx
 ·rename_i h1;refine ⟨0,?_⟩;unfold callE;rw [h1];exact hx
 ·rename_i h1;refine ⟨0,?_⟩;unfold callE;rw [h1];exact hx
 ·rename_i h1;refine ⟨0,?_⟩;unfold callE;rw [h1];exact hx
 ·rename_i h1
  split at hx
  ·rename_i hf
   obtain ⟨q,hq,hx⟩:=Option.bind_eq_some_iff.1 hx
   obtain ⟨y,hy,rfl⟩:=Option.map_eq_some_iff.1 hx
   obtain ⟨k,hk⟩:=z9t.1 hy
   refine ⟨k,?_⟩
   unfold callE
   simp only [h1,hf,hq,Option.bind_some,hk,Option.map_some]
  ·simp at hx
 ·simp at hx
theorem z9w {σ:Stamp} {e:Env} {h:H} {o:Oper} {x:V×H} (hx:effV G (ev G X) σ e h o=some x):∃ k,effV G (kCall G X k) σ e h o=some x:=by
 unfold effV at hx
 split at hx
 ·rename_i h1 h2;refine ⟨0,?_⟩;unfold effV;simp only [h1,h2];exact hx
 ·rename_i h1 h2;refine ⟨0,?_⟩;unfold effV;simp only [h1,h2];exact hx
 ·rename_i h1 h2;refine ⟨0,?_⟩;unfold effV;simp only [h1,h2];exact hx
 ·rename_i h1;refine ⟨0,?_⟩;unfold effV;simp only [h1];exact hx
 ·rename_i h1
  obtain ⟨k,hk⟩:=zcu hx
  refine ⟨k,?_⟩;unfold effV;simp only [h1];exact hk
 ·simp at hx
theorem zal {ops:Array Oper} {σ:Stamp} {e:Env} {h:H} {o:Oper} {x:V×H} (hx:effG G (ev G X) ops σ e h o=some x):∃ k,effG G (kCall G X k) ops σ e h o=some x:=by
 unfold effG at hx
 split at hx
 ·rename_i h1
  obtain ⟨k,hk⟩:=z9w hx
  refine ⟨k,?_⟩;unfold effG;simp only [h1];exact hk
 ·rename_i d want h1
  unfold gdE at hx
  obtain ⟨b,hb,hx'⟩:=Option.bind_eq_some_iff.1 hx
  cases b with
  | true =>
   obtain ⟨k,hk⟩:=z9w hx'
   refine ⟨k,?_⟩;unfold effG gdE;simp only [h1,hb,Option.bind_some,if_true];exact hk
  | false =>
   refine ⟨0,?_⟩;unfold effG gdE;simp only [h1,hb,Option.bind_some];exact hx'
 ·simp at hx
section
variable {α:Type} {r:α}
theorem z65 {all:Array Oper} {σ:Stamp} {k:Env→H→Option α} {kk:Nat→Env→H→Option α} (hm:∀ i j e h,i≤j→kk i e h=some r→kk j e h=some r) (hk:∀ e h,k e h=some r→∃ i,kk i e h=some r):∀ (os:List Oper) (i:Nat) (e:Env) (h:H),
  evOps G (ev G X) all σ k i os e h=some r→∃ j,evOps G (kCall G X j) all σ (kk j) i os e h=some r
 | [],i,e,h,hx=>hk e h hx
 | o::os,i,e,h,hx=>by
  simp only [evOps] at hx ⊢
  split at hx
  ·obtain ⟨v,hv,hx'⟩:=Option.bind_eq_some_iff.1 hx
   simp only [hv,Option.bind_some]
   exact z65 hm hk os _ _ _ hx'
  ·obtain ⟨v,hv,hx'⟩:=Option.bind_eq_some_iff.1 hx
   obtain ⟨j1,h1⟩:=zal hv
   obtain ⟨j2,h2⟩:=z65 hm hk os _ _ _ hx'
   refine ⟨max j1 j2,?_⟩
   simp only [z5c (k_le (Nat.le_max_left j1 j2)).1 h1,Option.bind_some]
   exact z4e (k_le (Nat.le_max_right j1 j2)).1 (fun e h=>hm _ _ e h (Nat.le_max_right j1 j2)) os _ _ _ h2
theorem z94 {anc:Nat} {h:H} {x:Option α} {P:Nat→Option α} (hk:x=some r→∃ j,P j=some r) {ws:List (Nat×(H→Prop))} (hx:needs anc ws h x=some r):∃ j,needs anc ws h (P j)=some r:=by
 induction ws with
 | nil=>exact hk hx
 | cons q ws ih =>
  unfold needs at hx ⊢
  split at hx
  ·exact ih hx
  ·unfold need at hx ⊢
   split at hx
   ·rename_i hq
    obtain ⟨j,hj⟩:=ih hx
    exact ⟨j,by rw [if_pos hq];exact hj⟩
   ·simp at hx
theorem z34 {b:Bool} {mk:Mk} {ops:Array Oper} {σ:Stamp} {k:Env→H→Option α} {kk:Nat→Env→H→Option α} (hm:∀ i j e h,i≤j→kk i e h=some r→kk j e h=some r) (hk:∀ e h,k e h=some r→∃ i,kk i e h=some r):∀ (l:List Nat) (ws:List (Nat×(H→Prop))) (e:Env) (h:H),
  evDraw b mk G (ev G X) ops σ k l ws e h=some r→∃ j,evDraw b mk G (kCall G X j) ops σ (kk j) l ws e h=some r
 | [],ws,e,h,hx=>hk e h hx
 | i::l,ws,e,h,hx=>by
  simp only [evDraw] at hx ⊢
  split at hx
  ·obtain ⟨v,hv,hx'⟩:=Option.bind_eq_some_iff.1 hx
   simp only [hv,Option.bind_some]
   exact z34 hm hk l _ _ _ hx'
  ·split at hx
   ·exact z34 hm hk l _ _ _ hx
   ·rename_i ha
    obtain ⟨m,hm',hx'⟩:=Option.bind_eq_some_iff.1 hx
    simp only [ha,hm',Option.bind_some]
    unfold need at hx' ⊢
    split at hx'
    ·rename_i hq
     obtain ⟨j,hj⟩:=z34 hm hk l _ _ _ hx';exact ⟨j,by rw [if_pos hq];exact hj⟩
    ·simp at hx'
  ·obtain ⟨v,hv,hx'⟩:=Option.bind_eq_some_iff.1 hx
   obtain ⟨j1,h1⟩:=zal hv
   obtain ⟨j2,h2⟩:=z94 (z34 hm hk l _ _ _) hx'
   refine ⟨max j1 j2,?_⟩
   simp only [z5c (k_le (Nat.le_max_left j1 j2)).1 h1,Option.bind_some]
   exact z3p (z2k (k_le (Nat.le_max_right j1 j2)).1 (fun e h=>hm _ _ e h (Nat.le_max_right j1 j2)) l _ _ _) h2
theorem zay:∀ (c:Code) (σ:Stamp) (e:Env) (h:H) (k:Exit→Env→H→Option α) (kk:Nat→Exit→Env→H→Option α),(∀ i j x e h,i≤j→kk i x e h=some r→kk j x e h=some r)→(∀ x e h,k x e h=some r→∃ i,kk i x e h=some r) →
  evC G (ev G X) (evL G X) c σ e h k=some r→∃ j,evC G (kCall G X j) (kLoop G X j) c σ e h (kk j)=some r:=by
 intro c
 induction c with
 | skip=>intro σ e h k kk hm hk hx;exact hk _ _ _ hx
 | ret=>intro σ e h k kk hm hk hx;exact hk _ _ _ hx
 | exit id=>intro σ e h k kk hm hk hx;exact hk _ _ _ hx
 | seq a b iha ihb =>
  intro σ e h k kk hm hk hx
  simp only [evC] at hx ⊢
  refine iha _ _ _ _ (fun j x e h=>match x with | .normal=>evC G (kCall G X j) (kLoop G X j) b (1::σ) e h (kk j) | x=>kk j x e h) (fun i j x e h hij hx=>?_) (fun x e h hx=>?_) hx
  ·cases x with
   | normal=>exact z8j (k_le hij).1 (k_le hij).2 _ _ _ _ _ _ _ (fun x e h=>hm _ _ x e h hij) hx
   | _=>exact hm _ _ _ _ _ hij hx
  ·cases x with
   | normal=>exact ihb _ _ _ _ kk hm hk hx
   | _=>exact hk _ _ _ hx
 | cond c a b iha ihb =>
  intro σ e h k kk hm hk hx
  simp only [evC] at hx ⊢
  obtain ⟨t,ht,hx'⟩:=Option.bind_eq_some_iff.1 hx
  simp only [ht,Option.bind_some]
  cases t with
  | true=>exact iha _ _ _ _ kk hm hk hx'
  | false=>exact ihb _ _ _ _ kk hm hk hx'
 | block id c ih =>
  intro σ e h k kk hm hk hx
  simp only [evC] at hx ⊢
  refine ih _ _ _ _ (fun m x e h=>match x with | .exit j=>if j=id then kk m .normal e h else kk m (.exit j) e h | x=>kk m x e h) (fun i j x e h hij hx=>?_) (fun x e h hx=>?_) hx
  ·cases x with
   | exit l =>
    simp only at hx ⊢
    split at hx
    ·rename_i hj;rw [if_pos hj];exact hm _ _ _ _ _ hij hx
    ·rename_i hj;rw [if_neg hj];exact hm _ _ _ _ _ hij hx
   | _=>exact hm _ _ _ _ _ hij hx
  ·cases x with
   | exit l =>
    simp only at hx ⊢
    split at hx
    ·rename_i hj;obtain ⟨i,hi⟩:=hk _ _ _ hx;exact ⟨i,by rw [if_pos hj];exact hi⟩
    ·rename_i hj;obtain ⟨i,hi⟩:=hk _ _ _ hx;exact ⟨i,by rw [if_neg hj];exact hi⟩
   | _=>exact hk _ _ _ hx
 | loop c ih =>
  intro σ e h k kk hm hk hx
  simp only [evC] at hx ⊢
  obtain ⟨y,hy,hx'⟩:=Option.bind_eq_some_iff.1 hx
  obtain ⟨j1,h1⟩:=z8h.1 hy
  obtain ⟨j2,h2⟩:=hk _ _ _ hx'
  refine ⟨max j1 j2,?_⟩
  simp only [(k_le (G:=G) (X:=X) (Nat.le_max_left j1 j2)).2 _ _ _ _ _ h1,Option.bind_some]
  exact hm _ _ _ _ _ (Nat.le_max_right j1 j2) h2
 | region id ops dr =>
  intro σ e h k kk hm hk hx
  cases dr with
  | false =>
   simp only [evC] at hx ⊢
   exact z65 (kk:=fun j=>kk j .normal) (fun i j e h hij=>hm i j .normal e h hij) (hk .normal) _ _ _ _ hx
  | true =>
   simp only [evC] at hx ⊢
   split at hx
   ·obtain ⟨y,hy,hx'⟩:=Option.bind_eq_some_iff.1 hx
    simp only [hy,Option.bind_some]
    exact z94 (z34 (kk:=fun j=>kk j .normal) (fun i j e h hij=>hm i j .normal e h hij) (hk .normal) _ _ _ _) hx'
   ·simp at hx
 | _=>intro σ e h k kk hm hk hx;simp [evC] at hx
end
theorem zez {f:FuncId} {σ:Stamp} {a:List V} {h:H} {x:List C×H} (hX:X f σ a h=none) (hx:evBody G (ev G X) (evL G X) f σ a h=some x):ev G X f σ a h=some x:=by
 have:∃ j,evBody G (kCall G X j) (kLoop G X j) f σ a h=some x:=by
  unfold evBody at hx ⊢
  split at hx
  ·split at hx
   ·split at hx
    ·rename_i hcnd
     obtain ⟨j,hj⟩:=zay _ _ _ _ _ (fun _=>finC G (G.frz f) _ (1::σ)) (fun _ _ _ _ _ _ h=>h) (fun _ _ _ h=>⟨0,h⟩) hx
     exact ⟨j,by rw [if_pos hcnd];exact hj⟩
    ·simp at hx
   ·simp at hx
  ·simp at hx
 obtain ⟨j,hj⟩:=this
 exact z9t.2 ⟨j+1,by rw [z6d,hX];exact hj⟩
theorem zdk {c:Code} {σ:Stamp} {e:Env} {h:H} {x:Exit×Env×H} (hx:z26 G (ev G X) (evL G X) c σ e h=some x):evL G X c σ e h=some x:=by
 have:∃ j,z26 G (kCall G X j) (kLoop G X j) c σ e h=some x:=by
  unfold z26 at hx ⊢
  refine zay _ _ _ _ _ (fun j y e h=>match y with | .normal=>kLoop G X j c (1::σ) e h | y=>some (y,e,h)) (fun i j y e h hij hy=>?_) (fun y e h hy=>?_) hx
  ·cases y with
   | normal=>exact (k_le hij).2 _ _ _ _ _ hy
   | _=>exact hy
  ·cases y with
   | normal=>exact z8h.1 hy
   | _=>exact ⟨0,hy⟩
 obtain ⟨j,hj⟩:=this
 exact z8h.2 ⟨j+1,by rw [z6a];exact hj⟩
end
end Go.Ev
namespace Go.Ev
open Go.RowKit (Below)
set_option linter.unusedVariables false
set_option linter.unusedSimpArgs false

theorem zbo {B:Nat} {w:World} {σ:Stamp}:∀ {vs:List V} {j:Nat} {ι:Inj} {ex:Nodes} {h h':H} {us:List Value} {cs:List C} {frz:Bool},SimN ι B w.heap (ex++nodesH h)→(∀ i,j≤i→Fresh (i::σ) ι (ex++nodesH h))→RVs ι vs us→expCs frz σ j h vs=some (cs,h') →
  ∃ ι',ι.Le ι'∧(∀ h2 d j',RVs ι' (resVs h2 d j' cs) us)∧SimN ι' B w.heap (ex++(z5 cs++nodesH h'))∧(∀ s,¬ σ <:+ s→ι'.at_ s=ι.at_ s)∧∀ s,s∈stamps (z5 cs++nodesH h')→s∈stamps (nodesH h)∨σ <:+ s
 | [],j,ι,ex,h,h',us,cs,frz,hS,hf,hx,hv=>by
  simp only [expCs,Option.some.injEq,Prod.mk.injEq] at hv
  obtain ⟨rfl,rfl⟩:=hv
  cases hx
  exact ⟨ι,.refl _,fun _ _ _=>.nil,by simpa [z5] using hS,fun _ _=>rfl,fun s hs=>.inl (by simpa [z5] using hs)⟩
 | x::vs,j,ι,ex,h,h',us,cs,frz,hS,hf,hx,hv=>by
  simp only [expCs] at hv
  obtain ⟨⟨c,h1⟩,hc,hv1⟩:=Option.bind_eq_some_iff.1 hv
  obtain ⟨⟨ds,h2⟩,hd,hv2⟩:=Option.map_eq_some_iff.1 hv1
  simp only [Prod.mk.injEq] at hv2
  obtain ⟨rfl,rfl⟩:=hv2
  cases hx with
  | cons hx1 hx2 =>
   obtain ⟨ι1,l1,r1,s1,a1,t1⟩:=zen hS (hf j (Nat.le_refl _)) hx1 hc
   have up:∀ s,¬ σ <:+ s→¬ (j::σ) <:+ s:=fun s hs h=>hs ((zd j σ).trans h)
   obtain ⟨ι2,l2,r2,s2,a2,t2⟩:=zbo (ex:=ex++nodesC c) (j:=j+1) (by simpa [List.append_assoc] using s1) (fun i hi s hs=>by
    have hn:¬ (j::σ) <:+ s:=fun h=>z48 (i:=j) (j:=i) (by omega) h hs
    obtain ⟨q1,q2⟩:=hf i (by omega) s hs
    refine ⟨(a1 s hn).trans q1,fun hm=>?_⟩
    simp only [stamps,List.map_append,List.mem_append] at hm q2
    rcases hm with (hm | hm) | hm
    ·exact q2 (.inl hm)
    ·exact (t1 s (by simp only [stamps,List.map_append,List.mem_append];exact .inl hm)).elim (fun h=>q2 (.inr h)) hn
    ·exact (t1 s (by simp only [stamps,List.map_append,List.mem_append];exact .inr hm)).elim (fun h=>q2 (.inr h)) hn) (hx2.mono l1) hd
   refine ⟨ι2,l1.trans l2,fun h3 d j'=>?_,by simpa [z5,List.append_assoc] using s2,fun s hs=>(a2 s hs).trans (a1 s (up s hs)),fun s hs=>?_⟩
   ·have q:=r1 h3 d j'
    unfold resVs at q ⊢
    cases q with
    | cons q _=>exact .cons (q.mono l2) (r2 h3 d (j'+1))
   ·have down:∀ s,s∈stamps (nodesC c++nodesH h1)→s∈stamps (nodesH h)∨σ <:+ s:=fun s hs=>(t1 s hs).imp id fun h=>(zd j σ).trans h
    simp only [z5,stamps,List.map_append,List.mem_append] at hs
    rcases hs with (hs | hs) | hs
    ·exact down s (by simp only [stamps,List.map_append,List.mem_append];exact .inl hs)
    ·rcases t2 s (by simp only [stamps,List.map_append,List.mem_append];exact .inl hs) with h | h
     ·exact down s (by simp only [stamps,List.map_append,List.mem_append];exact .inr h)
     ·exact .inr h
    ·rcases t2 s (by simp only [stamps,List.map_append,List.mem_append];exact .inr hs) with h | h
     ·exact down s (by simp only [stamps,List.map_append,List.mem_append];exact .inr h)
     ·exact .inr h

def packU:List Value→Value | [u]=>u | us=>.tuple us.toArray
theorem zbr {P:Program} {fn:Func} {tmps:Array Value} {us:List Value} {w:World} (h:(fn.results.toList.mapM (resM tmps)).run P w=.ok us w) :
  (results fn tmps).run P w=.ok (packU us) w:=by
 have e:results fn tmps=(do let vs ← fn.results.mapM (resM tmps);pure (if h:vs.size=1 then vs[0] else .tuple vs)):=by
  unfold results resM
  rfl
 rw [e,Array.mapM_eq_mapM_toList]
 simp only [Sem.run_bind,Sem.run_map,h,Result.andThen_ok,Sem.run_pure]
 congr 1
 match us with
 | []=>rfl
 | [u]=>rfl
 | u::v::us=>simp [packU]
theorem tup_ok {ι:Inj} {xs:List V} {us:List Value} (h:RVs ι xs us):RV ι (tupV xs) (packU us):=by
 match xs,us,h with
 | [],[],_=>exact .tup .nil
 | [x],[u],.cons h _=>exact h
 | x::y::xs,u::v::us,h=>exact .tup (by simpa using h)
theorem zd1 (n:Nat):nodesL (List.replicate n [])=[]:=by
 unfold nodesL
 induction n with
 | zero=>rfl
 | succ n ih=>simp [List.replicate_succ,z5,ih]
theorem zbq (h:H):Part (nodesH h.tail) (nodesH h):=by
 cases h with
 | nil=>exact .refl _
 | cons L h=>simp only [List.tail_cons,nodesH,List.flatMap_cons];exact Part.right _ _

section
variable {G:Cfg} {B n m:Nat} {rec:CallF} {loop:LoopF}
theorem zdc (hrec:CallOk G B rec) (hloop:LoopOk G B m loop) (hmix:G.P.follows .mixedOrders=true):CallOk G B (evBody G rec loop):=by
 intro f σ args h cs h' hev ι w us hS hargs hf hB
 unfold evBody at hev
 split at hev
 ·rename_i fn hfn
  split at hev
  ·rename_i c hbody
   split at hev
   ·rename_i hcond
    obtain ⟨hlen,hfit,hname⟩:=hcond
    refine ⟨⟨fn,hfn,hname,by rw [hbody];rfl⟩,?_⟩
    have hsz:us.size=args.length:=by rw [← Array.length_toList];exact hargs.length
    have hns:nodesH (List.replicate fn.ntmps []::h)=nodesH h:=by
     show nodesL _++nodesH h=_
     rw [zd1,List.nil_append]
    refine calls_of_wp hfn hbody (evC_ok (n:=fn.ntmps) hrec hloop hmix c (0::σ) _ _ _ _ _ _ _ ι hev hfit ⟨?_,fun i=>?_,?_,rfl,hB⟩ ?_ fun x e' h1 a' w' ι1 hk hs1 hw1=>?_)
    ·rw [hns];exact hS
    ·simp only [envOf]
     rw [Array.getD_eq_getD_getElem?,Array.getElem?_append]
     rw [List.getD_eq_getElem?_getD]
     by_cases hi:i<us.size
     ·rw [if_pos hi]
      have hi':i<args.length:=by omega
      rw [List.getElem?_eq_getElem hi']
      obtain ⟨u,hu,hr⟩:=hargs.get (List.getElem?_eq_getElem hi')
      rw [Array.getElem?_toList] at hu
      rw [hu]
      exact hr
     ·rw [if_neg hi,List.getElem?_eq_none (by omega),Array.getElem?_replicate]
      have:RV ι udf undef:=.tup .nil
      split<;>exact this
    ·simp only [Array.size_append,Array.size_replicate];omega
    ·rw [hns];exact hf.sub (zd 0 σ)
    ·-- the end
     rw [hns] at hw1
     have fin:∀ (vs:List V),z1i G.P e' h1 fn.results.toList=some vs→(expCs (G.frz f) (1::σ) 0 h1 vs).map (fun (cs,h)=>(cs,h.tail))=some (cs,h') →
       a'.defers=[]∧∃ v,(results fn a'.tmps).run G.P w'=.ok v w'∧∃ v2 ι',Ending.returned v=.returned v2∧SimN ι' B w'.heap (z5 cs++nodesH h')∧RetOk ι' cs v2∧Went σ B ι w (nodesH h) ι' w' (z5 cs++nodesH h'):=fun vs hvs hex=>by
      obtain ⟨⟨cs2,h2⟩,hex2,hpair⟩:=Option.map_eq_some_iff.1 hex
      simp only [Prod.mk.injEq] at hpair
      obtain ⟨rfl,rfl⟩:=hpair
      obtain ⟨us1,r1,r2⟩:=z6j (P:=G.P) hs1.sim hs1.env fn.results.toList vs hvs
      have hf1:Fresh (1::σ) ι1 (nodesH h1):=(hf.sub (zd 1 σ)).other (by omega) hw1.grew
      obtain ⟨ι2,l2,q1,q2,q3,q4⟩:=zbo (ex:=[]) (by simpa using hs1.sim) (fun i _=>by simpa using hf1.sub (zd i (1::σ))) r1 hex2
      simp only [List.nil_append] at q2
      have pt:Part (z5 cs2++nodesH h2.tail) (z5 cs2++nodesH h2):=Part.append_left _ (zbq h2)
      refine ⟨hs1.defers,_,zbr r2,_,ι2,rfl,q2.part pt,⟨fun hh d=>tup_ok (q1 hh d 0)⟩,(hw1.up (zd 0 σ)).trans ⟨l2,⟨fun s hs=>q3 s fun h=>hs ((zd 1 σ).trans h),fun s hs=>(q4 s (z16 pt hs)).imp id fun h=>(zd 1 σ).trans h⟩,.refl _ _⟩⟩
     unfold finC at hk
     split at hk
     ·obtain ⟨vs,hvs,hex⟩:=Option.bind_eq_some_iff.1 hk
      exact fin vs hvs hex
     ·obtain ⟨vs,hvs,hex⟩:=Option.bind_eq_some_iff.1 hk
      exact fin vs hvs hex
     ·simp at hk
   ·simp at hev
  ·simp at hev
 ·simp at hev
theorem zcr (hrec:CallOk G B rec) (hloop:LoopOk G B m loop) (hmix:G.P.follows .mixedOrders=true):LoopOk G B (m+1) (z26 G rec loop):=by
 intro n c σ e h x e' h' hev hfit ι a w hs hf Q hq
 unfold z26 at hev
 rw [rounds_succ]
 refine evC_ok hrec hloop hmix c (0::σ) e h _ _ _ a w ι hev hfit hs (hf.sub (zd 0 σ)) fun x1 e1 h1 a1 w1 ι1 hk hs1 hw1=>?_
 have last:x1≠.normal→some (x1,e1,h1)=some (x,e',h')→Exit.then (Code.rounds G.P c Q m) Q x1 a1 w1:=fun hne hk=>by
  simp only [Option.some.injEq,Prod.mk.injEq] at hk
  obtain ⟨rfl,rfl,rfl⟩:=hk
  have:=hq a1 w1 ι1 hs1 (hw1.up (zd 0 σ))
  cases x1<;>first | exact this | exact absurd rfl hne
 cases x1 with
 | normal =>
  have hf1:Fresh (1::σ) ι1 (nodesH h1):=(hf.sub (zd 1 σ)).other (by omega) hw1.grew
  exact hloop n c (1::σ) e1 h1 x e' h' hk hfit ι1 a1 w1 hs1 hf1 Q fun a2 w2 ι2 q1 q2=>hq a2 w2 ι2 q1 ((hw1.up (zd 0 σ)).trans (q2.up (zd 1 σ)))
 | _=>exact last (by simp) hk

theorem k_ok {X:CallF} (hX:CallOk G B X) (hmix:G.P.follows .mixedOrders=true):∀ k,CallOk G B (kCall G X k)∧LoopOk G B k (kLoop G X k)
 | 0=>by
  refine ⟨fun f σ args h cs h' hev=>?_,fun n c σ e h x e' h' hev=>?_⟩
  ·simp [kCall] at hev
  ·simp [kLoop] at hev
 | k+1=>by
  obtain ⟨h1,h2⟩:=k_ok hX hmix k
  refine ⟨?_,?_⟩
  ·have:=zdc h1 h2 hmix
   intro f σ args h cs h' hev
   rw [z6d] at hev
   split at hev
   ·rename_i r hr
    simp only [Option.some.injEq] at hev
    subst hev
    exact hX f σ args h cs h' hr
   ·exact this f σ args h cs h' hev
  ·have:=zcr h1 h2 hmix
   intro n c σ e h x e' h' hev
   rw [z6a] at hev
   exact this n c σ e h x e' h' hev
theorem ev_ok {X:CallF} (hX:CallOk G B X) (hmix:G.P.follows .mixedOrders=true):CallOk G B (ev G X):=by
 intro f σ args h cs h' hev
 obtain ⟨k,hk⟩:=z9t.1 hev
 exact (k_ok hX hmix k).1 f σ args h cs h' hk
theorem calls_of_ev {X:CallF} (hX:∀ B,CallOk G B X) (hmix:G.P.follows .mixedOrders=true) {f:FuncId} {args:List Value} {v:Value} {w:World} {h':H} (hev:ev G X f [] (args.map .p) []=some ([.v (.p v)],h')) :
  Calls G.P f args.toArray w fun e w'=>e=.returned v∧Below w.heap.size w w':=by
 have ι:Inj:=⟨fun _=>none,fun _=>none,fun _=>false⟩
 have hS:SimN ⟨fun _=>none,fun _=>none,fun _=>false⟩ w.heap.size w.heap (nodesH []):=⟨by simp [nodesH,stamps],fun s cs hm=>by simp [nodesH] at hm,fun s s' hm=>by simp [nodesH] at hm,fun b f hf=>by simp at hf,fun s hm=>by simp [nodesH] at hm,fun b hb=>by simp at hb⟩
 have hrv:RVs ⟨fun _=>none,fun _=>none,fun _=>false⟩ (args.map .p) args.toArray.toList:=RVs.plain _
 obtain ⟨_,hc⟩:=ev_ok (hX w.heap.size) hmix f [] _ [] _ h' hev _ w args.toArray hS hrv (fun s _=>⟨rfl,by simp [nodesH]⟩) (Nat.le_refl _)
 refine hc.mono fun e w' he=>?_
 obtain ⟨v2,ι',rfl,_,hr,hw⟩:=he
 have:=hr.rv [] 0
 simp only [resVs,tupV] at this
 cases this
 exact ⟨rfl,hw.below⟩
theorem no_ext (B:Nat):CallOk G B (fun _ _ _ _=>none):=fun f σ args h cs h' hev=>by simp at hev
end
end Go.Ev
namespace Go.Ev
set_option linter.unusedVariables false

def mask (ts:List Nat):Nat:=ts.foldr (fun t m=>2^t ||| m) 0
def minus (a b:Nat):Nat:=a ^^^ (a &&& b)
theorem z4q {ts:List Nat} {i:Nat}:(mask ts).testBit i=true↔i∈ts:=by
 induction ts with
 | nil=>simp [mask]
 | cons t ts ih =>
  have:mask (t::ts)=2^t ||| mask ts:=rfl
  rw [this,Nat.testBit_or,Nat.testBit_two_pow,Bool.or_eq_true,ih,List.mem_cons]
  simp [eq_comm]
theorem z7f (a b i:Nat):(minus a b).testBit i=(a.testBit i&&!b.testBit i):=by
 unfold minus
 rw [Nat.testBit_xor,Nat.testBit_and]
 cases a.testBit i<;>cases b.testBit i<;>rfl
def Agr (m:Nat) (e e':Env):Prop:=∀ i,m.testBit i=true→e i=e' i
theorem Agr.refl (m:Nat) (e:Env):Agr m e e:=fun _ _=>rfl
def Sub (a b:Nat):Prop:=∀ i,a.testBit i=true→b.testBit i=true
theorem Agr.sub {a b:Nat} {e e':Env} (h:Agr b e e') (hs:Sub a b):Agr a e e':=fun i hi=>h i (hs i hi)
theorem z8d (a b:Nat):Sub a (a ||| b):=fun i h=>by rw [Nat.testBit_or,h];rfl
theorem z3y (a b:Nat):Sub b (a ||| b):=fun i h=>by rw [Nat.testBit_or,h,Bool.or_true]
theorem Sub.trans {a b c:Nat} (h:Sub a b) (k:Sub b c):Sub a c:=fun i x=>k i (h i x)
theorem zdb {a b:Nat} (h:(a ||| b==b)=true):Sub a b:=fun i hi=>by
 have h':a ||| b=b:=by simpa using h
 rw [← h',Nat.testBit_or,hi];rfl
theorem z62 {a b:Nat} (h:(a &&& b==0)=true) {i:Nat} (ha:a.testBit i=true):b.testBit i=false:=by
 have h':a &&& b=0:=by simpa using h
 have:=congrArg (Nat.testBit · i) h'
 simp only [Nat.testBit_and,Nat.zero_testBit,ha,Bool.true_and] at this
 exact this
def bitsOf (m:Nat):List Nat:=(List.range (Nat.log2 m+1)).filter fun i=>m.testBit i
def envL:List (Nat×V)→Env
 | [],_=>udf
 | (i,v)::l,j=>if j=i then v else envL l j
def envM (m:Nat) (e:Env):Env:=envL ((bitsOf m).map fun i=>(i,e i))
theorem z8v {m i:Nat}:i∈bitsOf m↔m.testBit i=true:=by
 unfold bitsOf
 rw [List.mem_filter]
 refine ⟨fun h=>by simpa using h.2,fun h=>⟨?_,by simpa using h⟩⟩
 rw [List.mem_range]
 have h1:2^i≤m:=Nat.ge_two_pow_of_testBit h
 have hm:m≠0:=fun e=>by rw [e] at h;simp at h
 have:=(Nat.le_log2 hm).2 h1
 omega
theorem zbh (f:Nat→V):∀ (l:List Nat) (j:Nat),j∈l→envL (l.map fun i=>(i,f i)) j=f j
 | [],j,h=>by simp at h
 | i::l,j,h=>by
  simp only [List.map_cons,envL]
  by_cases e:j=i
  ·rw [if_pos e,e]
  ·rw [if_neg e]
   rcases List.mem_cons.1 h with h | h
   ·exact absurd h e
   ·exact zbh f l j h
theorem z41 (m:Nat) (e:Env):Agr m (envM m e) e:=fun i hi=>zbh e _ i (z8v.2 hi)
theorem z9m {m:Nat} {e e':Env} (h:Agr m e e'):envM m e=envM m e':=by
 unfold envM
 congr 1
 exact List.map_congr_left fun i hi=>by rw [h i (z8v.1 hi)]

def dstM (o:Oper):Nat:=match o.dst with | some d=>2^d | none=>0
def dstsM:List Oper→Nat
 | []=>0
 | o::os=>dstM o ||| dstsM os
def opdM:Operand→Nat | .tmp t=>2^t | _=>0
def readM (ops:Array Oper) (o:Oper):Nat:=mask (o.looksAt ops)
def za (ops:Array Oper):List Oper→Nat→Nat
 | [],m=>m
 | o::os,m=>minus (za ops os m) (dstM o) ||| readM ops o
structure Lv where
 norm:Nat
 ret:Nat
 ex:List (Nat×Nat)
def lookN:List (Nat×Nat)→Nat→Nat
 | [],_=>0
 | (i,m)::l,j=>if j=i then m else lookN l j
def Lv.at (l:Lv):Exit→Nat
 | .normal=>l.norm
 | .ret=>l.ret
 | .exit j=>lookN l.ex j
 | _=>0
def zci (ops:Array Oper):List Oper:=(ordOf (drB ops) ops).map fun i=>ops.getD i default
def earlyM (ops:List Oper):Nat→Operand→Nat
 | 0,_=>0
 | n+1,.tmp t=>(match ops.find? (fun o=>o.dst==some t) with
  | none=>2^t
  | some o=>(match o.op with
   | .move x | .assign x=>earlyM ops n x
   | _=>0))
 | _,_=>0
def makesM (ops:List Oper):List Oper→Nat
 | []=>0
 | o::os=>(match o.op with
  | .box _ x=>earlyM ops 4 x
  | .makeSlice _ n c=>earlyM ops 4 n ||| earlyM ops 4 c
  | _=>0) ||| makesM ops os
def liveC:Code→Lv→Nat
 | .skip,l=>l.norm
 | .ret,l=>l.ret
 | .exit j,l=>lookN l.ex j
 | .seq a b,l=>liveC a { l with norm:=liveC b l }
 | .cond c a b,l=>opdM c ||| (liveC a l ||| liveC b l)
 | .block id c,l=>liveC c { l with ex:=(id,l.norm)::l.ex }
 | .loop c,l =>
  let x1:=liveC c { l with norm:=0 }
  let x2:=liveC c { l with norm:=x1 }
  let x3:=liveC c { l with norm:=x2 }
  x3
 | .region _ ops false,l=>za ops ops.toList l.norm
 | .region _ ops true,l=>za ops (zci ops) l.norm ||| makesM ops.toList ops.toList
 | _,_=>0
def liveL (c:Code) (l:Lv):Nat:=liveC (.loop c) l

inductive Ty where
 | i (k:IntKind)
 | b
 | s
 | o
def castI (k:IntKind):V→Option Int
 | .p (.int k' n)=>if k'=k then some n else none
 | _=>none
def castS:V→Option ByteArray
 | .p (.string s)=>some s
 | _=>none
def typed {α:Type} (t:Ty) (v:V) (k:V→Option α):Option α :=
 match t with
 | .i kd=>(castI kd v).bind fun n=>k (.p (.int kd n))
 | .b=>(asB v).bind fun b=>k (.p (.bool b))
 | .s=>(castS v).bind fun s=>k (.p (.string s))
 | .o=>k v
def tyOf (P:Program) (t:TypeId):Ty :=
 match P.underlying t with
 | some (.int k)=>.i k
 | some .bool=>.b
 | some .string=>.s
 | _=>.o
def hasTy:Op→Bool
 | .load .. | .binOp .. | .unOp .. | .convert .. | .index .. | .field .. | .extract .. | .call _=>true
 | _=>false
def tyO (P:Program) (o:Oper):Ty:=match o.dst,hasTy o.op with | some _,true=>tyOf P o.type | _,_=>.o
theorem zu {v:V} {b:Bool} (h:asB v=some b):v=.p (.bool b):=by
 unfold asB at h
 split at h
 ·simp only [Option.some.injEq] at h;subst h;rfl
 ·simp at h
theorem zct {k:IntKind} {v:V} {n:Int} (h:castI k v=some n):v=.p (.int k n):=by
 unfold castI at h
 split at h
 ·split at h
  ·rename_i e;subst e;simp only [Option.some.injEq] at h;subst h;rfl
  ·simp at h
 ·simp at h
theorem zcm {v:V} {s:ByteArray} (h:castS v=some s):v=.p (.string s):=by
 unfold castS at h
 split at h
 ·simp only [Option.some.injEq] at h;subst h;rfl
 ·simp at h
theorem z30 {α:Type} {t:Ty} {v:V} {k:V→Option α} {r:α} (h:typed t v k=some r):k v=some r:=by
 unfold typed at h
 split at h
 ·obtain ⟨n,hn,h'⟩:=Option.bind_eq_some_iff.1 h;rw [zct hn];exact h'
 ·obtain ⟨n,hn,h'⟩:=Option.bind_eq_some_iff.1 h;rw [zu hn];exact h'
 ·obtain ⟨n,hn,h'⟩:=Option.bind_eq_some_iff.1 h;rw [zcm hn];exact h'
 ·exact h

def z2u (d:Nat):List Oper→Option (List Oper×Oper×Operand×Operand×List Oper)
 | []=>none
 | o::os =>
  match o.op with
  | .pick (.tmp t) a b=>if t=d then some ([],o,a,b,os) else (z2u d os).map fun q=>(o::q.1,q.2)
  | _=>(z2u d os).map fun q=>(o::q.1,q.2)
def skips (all:Array Oper) (d:Nat) (w:Bool):Nat→List Oper→Bool
 | _,[]=>true
 | m,o::os=>(match zi all o with
   | some (some (t,u))=>(t==d&&u==w)||m.testBit t
   | _=>false)&&o.dst != some d&&skips all d w (m ||| dstM o) os
def z27:List Oper→Bool
 | []=>true
 | o::os=>isPure o.op&&z27 os
def opened (asm:List (Nat×Bool)):Option (Option (Nat×Bool))→Option (Option (Nat×Bool))
 | some (some q)=>if asm.contains q then some none else some (some q)
 | x=>x
def free (asm:List (Nat×Bool)) (o:Oper):Bool:=asm.all fun q=>o.dst != some q.1
noncomputable def cvOps (G:Cfg) (rec:CallF) (all:Array Oper) (σ:Stamp):Nat→List (Nat×Bool)→Nat→Nat→List Oper→Env→H→(α:Type)→(Env→H→Option α)→Option α
 | 0,_,_,_,_,_,_,_,_=>none
 | n+1,asm,m,i,os,e,h,α,k =>
  match os with
  | []=>k e h
  | o::os =>
   match free asm o,opened asm (zi all o) with
   | true,some none =>
    match isPure o.op with
    | true=>(pureV G.P e h o.op).bind fun v=>typed (tyO G.P o) v fun v=>cvOps G rec all σ n asm m (i+1) os (put e o.dst v) h α k
    | false=>(effV G rec (i::σ) e h o).bind fun r=>typed (tyO G.P o) r.1 fun v=>cvOps G rec all σ n asm m (i+1) os (put e o.dst v) r.2 α k
   | true,some (some (d,w)) =>
    match z2u d (o::os) with
    | none=>none
    | some (grp,pk,a,b,rest) =>
     match skips all d w 0 grp&&free asm pk&&grp.all (free asm)&&(match opened asm (zi all pk) with | some none=>true | _=>false) &&
       (dstsM grp &&& (minus (za all rest m) (dstM pk) ||| opdM (if w then b else a))==0) with
     | false=>none
     | true =>
      match z27 grp,tyOf G.P pk.type with
      | true,.b =>
       ((asB (e d)).bind fun c=>match w with
        | true=>(match c with
         | true=>cvOps G rec all σ n ((d,w)::asm) (opdM a) i grp e h Bool fun e1 _=>asB (opd e1 a)
         | false=>asB (opd e b))
        | false=>(match c with
         | true=>asB (opd e a)
         | false=>cvOps G rec all σ n ((d,w)::asm) (opdM b) i grp e h Bool fun e1 _=>asB (opd e1 b))).bind fun v =>
       cvOps G rec all σ n asm m (i+grp.length+1) rest (put e pk.dst (.p (.bool v))) h α k
      | _,_ =>
       ((asB (e d)).bind fun c=>match w with
        | true=>(match c with
         | true=>cvOps G rec all σ n ((d,w)::asm) (opdM a) i grp e h (V×H) fun e1 h1=>some (opd e1 a,h1)
         | false=>some (opd e b,h))
        | false=>(match c with
         | true=>some (opd e a,h)
         | false=>cvOps G rec all σ n ((d,w)::asm) (opdM b) i grp e h (V×H) fun e1 h1=>some (opd e1 b,h1))).bind fun q =>
       typed (tyOf G.P pk.type) q.1 fun v=>cvOps G rec all σ n asm m (i+grp.length+1) rest (put e pk.dst v) q.2 α k
   | _,_=>none
end Go.Ev
namespace Go.Ev
set_option linter.unusedVariables false

theorem Agr.alike {ops:Array Oper} {o:Oper} {e e':Env} (h:Agr (readM ops o) e e'):∀ t,t∈o.looksAt ops→e t=e' t:=fun t ht=>h t (z4q.2 ht)
theorem z5z {e e':Env} {x:Operand} (h:Agr (opdM x) e e'):opd e x=opd e' x :=
 z59 fun t ht=>h t (by subst ht;simp [opdM])
theorem zeq {e e':Env} {x:Operand} (h:Agr (opdM x) e e'):asB (opd e x)=asB (opd e' x):=by rw [z5z h]
theorem zp {e:Env} {d:Option Nat} {v:V} {j:Nat} (h:d≠some j):put e d v j=e j:=by
 cases d with
 | none=>rfl
 | some d=>simp only [put,upd];rw [if_neg];intro hj;exact h (by rw [hj])
theorem put_same {e:Env} {d:Option Nat} {v:V} {j:Nat} (h:d=some j):put e d v j=v:=by
 subst h;simp [put,upd]
theorem z3c {o:Oper} {j:Nat}:(dstM o).testBit j=true↔o.dst=some j:=by
 unfold dstM
 cases o.dst with
 | none=>simp
 | some d=>simp [Nat.testBit_two_pow]
theorem z3d {o:Oper} {j:Nat} (h:(dstM o).testBit j=false):o.dst≠some j:=fun hd=>by
 rw [z3c.2 hd] at h;simp at h
theorem Agr.put {m:Nat} {e e':Env} {o:Oper} {v:V} (h:Agr (minus m (dstM o)) e e'):Agr m (put e o.dst v) (put e' o.dst v):=fun j hj=>by
 by_cases hd:o.dst=some j
 ·rw [put_same hd,put_same hd]
 ·rw [zp hd,zp hd]
  refine h j ?_
  rw [z7f,hj]
  cases hb:(dstM o).testBit j with
  | false=>rfl
  | true=>exact absurd (z3c.1 hb) hd
theorem z14 (ops:Array Oper):∀ (xs ys:List Oper) (m:Nat),za ops (xs++ys) m=za ops xs (za ops ys m)
 | [],ys,m=>rfl
 | x::xs,ys,m=>by simp only [List.cons_append,za,z14 ops xs ys m]
theorem z4p (ops:Array Oper):∀ (xs:List Oper) {m m':Nat},Sub m m'→Sub (za ops xs m) (za ops xs m')
 | [],m,m',h=>h
 | x::xs,m,m',h=>fun i hi=>by
  simp only [za,Nat.testBit_or,z7f,Bool.or_eq_true,Bool.and_eq_true] at hi ⊢
  exact hi.imp (fun q=>⟨z4p ops xs h i q.1,q.2⟩) id
theorem z10 {o:Oper} {os:List Oper} {j:Nat}:(dstsM (o::os)).testBit j=false↔(dstM o).testBit j=false∧(dstsM os).testBit j=false:=by
 simp only [dstsM,Nat.testBit_or,Bool.or_eq_false_iff]
theorem z7j {xs ys:List Oper} {j:Nat}:(dstsM (xs++ys)).testBit j=false↔(dstsM xs).testBit j=false∧(dstsM ys).testBit j=false:=by
 induction xs with
 | nil=>simp [dstsM]
 | cons x xs ih=>simp only [List.cons_append,z10,ih,and_assoc]
theorem z28 (ops:Array Oper):∀ (xs:List Oper) {m i:Nat},m.testBit i=true→(dstsM xs).testBit i=false→(za ops xs m).testBit i=true
 | [],m,i,h,_=>h
 | x::xs,m,i,h,hd=>by
  rw [z10] at hd
  simp only [za,Nat.testBit_or,z7f,z28 ops xs h hd.2,hd.1,Bool.not_false,Bool.and_true,Bool.true_or]
theorem z5a {ops:Array Oper} {o:Oper} {os:List Oper} {m:Nat} {e e':Env} (h:Agr (za ops (o::os) m) e e'):Agr (readM ops o) e e':=h.sub (z3y _ _)
theorem z2x {ops:Array Oper} {o:Oper} {os:List Oper} {m:Nat} {e e':Env} (h:Agr (za ops (o::os) m) e e') {v:V}:Agr (za ops os m) (put e o.dst v) (put e' o.dst v):=(h.sub (z8d _ _)).put

def Holds (asm:List (Nat×Bool)) (e:Env):Prop:=∀ q∈asm,e q.1=.p (.bool q.2)
theorem Holds.put {asm:List (Nat×Bool)} {e:Env} {o:Oper} {v:V} (h:Holds asm e) (hf:free asm o=true):Holds asm (put e o.dst v):=fun q hq=>by
 have:=List.all_eq_true.1 hf q hq
 rw [zp (by simpa using this)]
 exact h q hq
theorem zea {x:Option V} {w:Bool}:gd (.p (.bool w)) w x=x:=by simp [gd,gdB]
theorem zdn {x:Option (V×H)} {w:Bool} {h:H}:gdE (.p (.bool w)) w h x=x:=by simp [gdE,gdB]
section
variable {G:Cfg} {rec:CallF} {all:Array Oper} {σ:Stamp}
theorem z8a {asm:List (Nat×Bool)} {g:Option (Option (Nat×Bool))} (h:opened asm g=some none):g=some none∨∃ q,q∈asm∧g=some (some q):=by
 unfold opened at h
 split at h
 ·split at h
  ·rename_i q hc;exact .inr ⟨q,by simpa using hc,rfl⟩
  ·simp at h
 ·exact .inl h
theorem z2g {asm:List (Nat×Bool)} {e:Env} {h:H} {o:Oper} (hg:opened asm (zi all o)=some none) (ha:Holds asm e):pureG G.P all e h o=pureV G.P e h o.op:=by
 unfold pureG
 rcases z8a hg with h1 | ⟨⟨d,w⟩,hq,h1⟩
 ·rw [h1]
 ·rw [h1];simp only [ha _ hq];exact zea
theorem zab {asm:List (Nat×Bool)} {e:Env} {h:H} {τ:Stamp} {o:Oper} (hg:opened asm (zi all o)=some none) (ha:Holds asm e):effG G rec all τ e h o=effV G rec τ e h o:=by
 unfold effG
 rcases z8a hg with h1 | ⟨⟨d,w⟩,hq,h1⟩
 ·rw [h1]
 ·rw [h1];simp only [ha _ hq];exact zdn
theorem z5v {d:Nat}:∀ {os grp:List Oper} {pk:Oper} {a b:Operand} {rest:List Oper},z2u d os=some (grp,pk,a,b,rest)→os=grp++pk::rest∧pk.op=.pick (.tmp d) a b
 | [],_,_,_,_,_,h=>by simp [z2u] at h
 | o::os,grp,pk,a,b,rest,h=>by
  have step:(z2u d os).map (fun q=>(o::q.1,q.2))=some (grp,pk,a,b,rest)→o::os=grp++pk::rest∧pk.op=.pick (.tmp d) a b:=fun h=>by
   obtain ⟨⟨g1,p1,a1,b1,r1⟩,hq,he⟩:=Option.map_eq_some_iff.1 h
   simp only [Prod.mk.injEq] at he
   obtain ⟨rfl,rfl,rfl,rfl,rfl⟩:=he
   obtain ⟨h1,h2⟩:=z5v hq
   exact ⟨by rw [h1];rfl,h2⟩
  unfold z2u at h
  split at h
  ·rename_i t a' b' hop
   split at h
   ·rename_i ht
    simp only [Option.some.injEq,Prod.mk.injEq] at h
    obtain ⟨rfl,rfl,rfl,rfl,rfl⟩:=h
    subst ht
    exact ⟨rfl,hop⟩
   ·exact step h
  ·exact step h
def Runs (G:Cfg) (rec:CallF) (all:Array Oper) (σ:Stamp) (i:Nat) (os:List Oper) (e:Env) (h:H) (e1:Env) (h1:H):Prop :=
 (∀ j,(dstsM os).testBit j=false→e1 j=e j)∧∀ (β:Type) (k:Env→H→Option β) (rest:List Oper),evOps G rec all σ k i (os++rest) e h=evOps G rec all σ k (i+os.length) rest e1 h1
theorem Runs.nil (i:Nat) (e:Env) (h:H):Runs G rec all σ i [] e h e h:=⟨fun _ _=>rfl,fun _ _ _=>rfl⟩
theorem Runs.cons {i:Nat} {o:Oper} {os:List Oper} {e e1:Env} {h h0 h1:H} {v:V} (hp:match isPure o.op with | true=>pureG G.P all e h o=some v∧h0=h | false=>effG G rec all (i::σ) e h o=some (v,h0)) (hr:Runs G rec all σ (i+1) os (put e o.dst v) h0 e1 h1) :
  Runs G rec all σ i (o::os) e h e1 h1:=by
 refine ⟨fun j hj=>?_,fun β k rest=>?_⟩
 ·rw [z10] at hj
  rw [hr.1 j hj.2,zp (z3d hj.1)]
 ·simp only [List.cons_append,evOps,List.length_cons]
  rw [show i+(os.length+1)=i+1+os.length by omega]
  cases hpu:isPure o.op with
  | true =>
   rw [hpu] at hp
   obtain ⟨h2,rfl⟩:=hp
   simp only [h2,Option.bind_some]
   exact hr.2 β k rest
  | false =>
   rw [hpu] at hp
   simp only [hp,Option.bind_some]
   exact hr.2 β k rest
theorem Runs.append {i:Nat} {xs ys:List Oper} {e e1 e2:Env} {h h1 h2:H} (hx:Runs G rec all σ i xs e h e1 h1) (hy:Runs G rec all σ (i+xs.length) ys e1 h1 e2 h2):Runs G rec all σ i (xs++ys) e h e2 h2:=by
 refine ⟨fun j hj=>?_,fun β k rest=>?_⟩
 ·rw [z7j] at hj
  rw [hy.1 j hj.2,hx.1 j hj.1]
 ·rw [List.append_assoc,hx.2,hy.2,List.length_append,Nat.add_assoc]
theorem za2 {d:Nat} {w:Bool}:∀ {grp:List Oper} {m i:Nat} {e:Env} {h:H},skips all d w m grp=true→e d=.p (.bool !w)→(∀ j,m.testBit j=true→e j=udf)→∃ e1,Runs G rec all σ i grp e h e1 h∧e1 d=e d
 | [],m,i,e,h,_,_,_=>⟨e,Runs.nil i e h,rfl⟩
 | o::os,m,i,e,h,hs,hd,hm=>by
  simp only [skips,Bool.and_eq_true] at hs
  obtain ⟨⟨h1,h2⟩,h3⟩:=hs
  have hne:o.dst≠some d:=by simpa using h2
  have hpu:match isPure o.op with | true=>pureG G.P all e h o=some udf∧h=h | false=>effG G rec all (i::σ) e h o=some (udf,h):=by
   have hg:∃ t u,zi all o=some (some (t,u))∧gdB (e t) u=some false:=by
    split at h1
    ·rename_i t u hgo
     refine ⟨t,u,hgo,?_⟩
     simp only [Bool.or_eq_true,Bool.and_eq_true,beq_iff_eq] at h1
     rcases h1 with ⟨rfl,rfl⟩ | h1
     ·rw [hd];simp [gdB]
     ·rw [hm t h1];rfl
    ·simp at h1
   obtain ⟨t,u,hgo,hgb⟩:=hg
   cases isPure o.op with
   | true=>exact ⟨by simp only [pureG,hgo,gd,hgb,Option.bind_some,Bool.false_eq_true,if_false],rfl⟩
   | false=>simp only [effG,hgo,gdE,hgb,Option.bind_some,Bool.false_eq_true,if_false]
  obtain ⟨e1,k1,k2⟩:=za2 (i:=i+1) (e:=put e o.dst udf) (h:=h) h3 (by rw [zp hne];exact hd) (fun j hj=>by
   rw [Nat.testBit_or,Bool.or_eq_true] at hj
   by_cases hj2:o.dst=some j
   ·exact put_same hj2
   ·rw [zp hj2]
    rcases hj with hj | hj
    ·exact hm j hj
    ·exact absurd (z3c.1 hj) hj2)
  exact ⟨e1,Runs.cons hpu k1,by rw [k2,zp hne]⟩
theorem z7l {d:Nat} {w:Bool}:∀ {grp:List Oper} {m:Nat},skips all d w m grp=true→(dstsM grp).testBit d=false
 | [],m,_=>by simp [dstsM]
 | o::os,m,hs=>by
  simp only [skips,Bool.and_eq_true] at hs
  rw [z10]
  refine ⟨?_,z7l hs.2⟩
  cases hb:(dstM o).testBit d with
  | false=>rfl
  | true=>have:=z3c.1 hb;have h2:=hs.1.2;rw [this] at h2;simp at h2
theorem zaw {asm:List (Nat×Bool)} {grp:List Oper} {e e1:Env} {i:Nat} {h h1:H} (hf:grp.all (free asm)=true) (hr:Runs G rec all σ i grp e h e1 h1) (ha:Holds asm e):Holds asm e1:=fun q hq=>by
 rw [hr.1]
 ·exact ha q hq
 ·clear hr ha
  induction grp with
  | nil=>simp [dstsM]
  | cons o os ih =>
   simp only [List.all_cons,Bool.and_eq_true] at hf
   rw [z10]
   refine ⟨?_,ih hf.2⟩
   cases hb:(dstM o).testBit q.1 with
   | false=>rfl
   | true =>
    have h1:=z3c.1 hb
    have h2:=List.all_eq_true.1 hf.1 q hq
    rw [h1] at h2;simp at h2
end
end Go.Ev
namespace Go.Ev
set_option linter.unusedVariables false
section
variable {G:Cfg} {rec:CallF} {all:Array Oper} {σ:Stamp}
theorem z45 {o:Oper} {c a b:Operand} (h:o.op=.pick c a b):isPure o.op=true:=by rw [h];rfl
theorem zbz {asm:List (Nat×Bool)} {d i:Nat} {w:Bool} {grp rest:List Oper} {pk:Oper} {a b:Operand} {m:Nat} {e e' e1 e1':Env} {h h1:H} (hpk:pk.op=.pick (.tmp d) a b)
  (ha:Holds asm e') (hd:e' d=.p (.bool w)) (he:Agr (za all (grp++pk::rest) m) e e') (hfr:free asm pk=true) (hfa:grp.all (free asm)=true) (hop:opened asm (zi all pk)=some none)
  (hz:(dstsM grp &&& (minus (za all rest m) (dstM pk) ||| opdM (if w then b else a))==0)=true) (hnd:(dstsM grp).testBit d=false)
  (hr:Runs G rec all σ i grp e' h e1' h1) (hag:Agr (opdM (if w then a else b)) e1 e1') :
  Runs G rec all σ i (grp++[pk]) e' h (put e1' pk.dst (opd e1 (if w then a else b))) h1∧Holds asm (put e1' pk.dst (opd e1 (if w then a else b)))∧Agr (za all rest m) (put e pk.dst (opd e1 (if w then a else b))) (put e1' pk.dst (opd e1 (if w then a else b))):=by
 have ha1:=zaw hfa hr ha
 have hv:pureG G.P all e1' h1 pk=some (opd e1 (if w then a else b)):=by
  rw [z2g hop ha1,hpk]
  have h1:opd e1' (.tmp d)=.p (.bool w):=by show e1' d=_;rw [hr.1 d hnd,hd]
  simp only [pureV,pickV,h1,asB,Option.map_some,Option.some.injEq]
  rw [z5z hag]
  cases w<;>rfl
 refine ⟨hr.append (Runs.cons (h0:=h1) (v:=opd e1 (if w then a else b)) ?_ (Runs.nil _ _ _)),ha1.put hfr,?_⟩
 ·rw [z45 hpk];exact ⟨hv,rfl⟩
 ·refine Agr.put fun j hj=>?_
  have h1:(dstsM grp).testBit j=false:=by
   cases hb:(dstsM grp).testBit j with
   | false=>rfl
   | true=>have:=z62 hz hb;rw [Nat.testBit_or,hj] at this;simp at this
  rw [hr.1 j h1]
  refine he j ?_
  rw [z14]
  refine z28 all grp ?_ h1
  simp only [za,Nat.testBit_or,hj,Bool.true_or]
theorem zc4 {asm:List (Nat×Bool)} {d i:Nat} {w:Bool} {grp rest:List Oper} {pk:Oper} {a b:Operand} {m:Nat} {e e':Env} {h:H} (hpk:pk.op=.pick (.tmp d) a b)
  (ha:Holds asm e') (hd:e' d=.p (.bool !w)) (he:Agr (za all (grp++pk::rest) m) e e') (hfr:free asm pk=true) (hfa:grp.all (free asm)=true) (hop:opened asm (zi all pk)=some none)
  (hz:(dstsM grp &&& (minus (za all rest m) (dstM pk) ||| opdM (if w then b else a))==0)=true) (hs:skips all d w 0 grp=true) :
  ∃ e1',Runs G rec all σ i (grp++[pk]) e' h (put e1' pk.dst (opd e (if w then b else a))) h∧Holds asm (put e1' pk.dst (opd e (if w then b else a)))∧Agr (za all rest m) (put e pk.dst (opd e (if w then b else a))) (put e1' pk.dst (opd e (if w then b else a))):=by
 obtain ⟨e1',hr,hdd⟩:=za2 (G:=G) (rec:=rec) (σ:=σ) (i:=i) (h:=h) hs hd (fun j hj=>by simp at hj)
 have ha1:=zaw hfa hr ha
 have hnot:∀ j,(minus (za all rest m) (dstM pk) ||| opdM (if w then b else a)).testBit j=true→(dstsM grp).testBit j=false:=fun j hj=>by
  cases hb:(dstsM grp).testBit j with
  | false=>rfl
  | true=>have:=z62 hz hb;rw [hj] at this;simp at this
 have hread:Sub (opdM (if w then b else a)) (readM all pk):=fun j hj=>by
  refine z4q.2 ?_
  unfold Oper.looksAt
  refine List.mem_append_left _ (List.mem_filterMap.2 ⟨(if w then b else a),?_,?_⟩)
  ·rw [hpk];cases w<;>simp [Op.operands]
  ·generalize (if w then b else a)=x at hj
   cases x<;>simp [opdM,Nat.testBit_two_pow] at hj
   subst hj;rfl
 have hag:Agr (opdM (if w then b else a)) e e1':=fun j hj=>by
  have hb:=hnot j (by rw [Nat.testBit_or,hj,Bool.or_true])
  rw [hr.1 j hb]
  refine he j ?_
  rw [z14]
  refine z28 all grp ?_ hb
  simp only [za,Nat.testBit_or,hread j hj,Bool.or_true]
 have hv:pureG G.P all e1' h pk=some (opd e (if w then b else a)):=by
  rw [z2g hop ha1,hpk]
  have h1:opd e1' (.tmp d)=.p (.bool !w):=by show e1' d=_;rw [hdd,hd]
  simp only [pureV,pickV,h1,asB,Option.map_some,Option.some.injEq]
  rw [z5z hag]
  cases w<;>rfl
 refine ⟨e1',hr.append (Runs.cons (h0:=h) (v:=opd e (if w then b else a)) ?_ (Runs.nil _ _ _)),ha1.put hfr,?_⟩
 ·rw [z45 hpk];exact ⟨hv,rfl⟩
 ·refine Agr.put fun j hj=>?_
  have h1:=hnot j (by rw [Nat.testBit_or,hj,Bool.true_or])
  rw [hr.1 j h1]
  refine he j ?_
  rw [z14]
  refine z28 all grp ?_ h1
  simp only [za,Nat.testBit_or,hj,Bool.true_or]
theorem z2v:∀ (n:Nat) (asm:List (Nat×Bool)) (m i:Nat) (os:List Oper) (e e':Env) (h:H) (α:Type) (k:Env→H→Option α) (r:α),cvOps G rec all σ n asm m i os e h α k=some r→Holds asm e'→Agr (za all os m) e e' →
  ∃ e1 e1' h1,k e1 h1=some r∧Agr m e1 e1'∧Runs G rec all σ i os e' h e1' h1
 | 0,asm,m,i,os,e,e',h,α,k,r,hx,_,_=>by simp [cvOps] at hx
 | n+1,asm,m,i,[],e,e',h,α,k,r,hx,ha,he=>by
  simp only [cvOps] at hx
  exact ⟨e,e',h,hx,he,Runs.nil i e' h⟩
 | n+1,asm,m,i,o::os,e,e',h,α,k,r,hx,ha,he=>by
  simp only [cvOps] at hx
  split at hx
  ·-- it runs
   rename_i hfr hop
   have hal:=z37 (z5a he).alike
   cases hpu:isPure o.op with
   | true =>
    simp only [hpu] at hx
    obtain ⟨v,hv,hx1⟩:=Option.bind_eq_some_iff.1 hx
    have hx2:=z30 hx1
    obtain ⟨e1,e1',h1,q1,q2,q3⟩:=z2v n asm m (i+1) os _ (put e' o.dst v) h α k r hx2 (ha.put hfr) (z2x he)
    refine ⟨e1,e1',h1,q1,q2,Runs.cons (h0:=h) (v:=v) ?_ q3⟩
    rw [hpu]
    exact ⟨by rw [z2g hop ha,← z43 hal];exact hv,rfl⟩
   | false =>
    simp only [hpu] at hx
    obtain ⟨⟨v,h0⟩,hv,hx1⟩:=Option.bind_eq_some_iff.1 hx
    have hx2:=z30 hx1
    obtain ⟨e1,e1',h1,q1,q2,q3⟩:=z2v n asm m (i+1) os _ (put e' o.dst v) h0 α k r hx2 (ha.put hfr) (z2x he)
    refine ⟨e1,e1',h1,q1,q2,Runs.cons (h0:=h0) (v:=v) ?_ q3⟩
    rw [hpu]
    show effG G rec all (i::σ) e' h o=_
    rw [zab hop ha,← z6l hal];exact hv
  ·-- a choice
   rename_i d w hfr hop
   split at hx
   ·simp at hx
   ·rename_i grp pk a b rest hsp
    obtain ⟨hos,hpk⟩:=z5v hsp
    rw [hos] at he
    split at hx
    ·simp at hx
    ·rename_i hchk
     simp only [Bool.and_eq_true] at hchk
     obtain ⟨⟨⟨⟨c1,c2⟩,c3⟩,c4⟩,c5⟩:=hchk
     have c4':opened asm (zi all pk)=some none:=by
      split at c4
      ·assumption
      ·simp at c4
     have hnd:=z7l c1
     have hdl:e d=e' d:=by
      have hg:zi all o=some (some (d,w)):=by
       unfold opened at hop
       split at hop
       ·rename_i q hgq
        split at hop
        ·simp at hop
        ·rw [hgq];exact hop
       ·exact hop
      have he2:Agr (za all (o::os) m) e e':=by rw [hos];exact he
      exact z44 (z5a he2).alike hg
     have hgrp:∀ (x:Operand),(∃ c,pk.op=.pick c x b∨pk.op=.pick c a x)→Agr (za all grp (opdM x)) e e':=fun x hx=>by
      refine he.sub ?_
      rw [z14]
      refine z4p all grp fun j hj=>?_
      simp only [za,Nat.testBit_or,Bool.or_eq_true]
      refine .inr (z4q.2 ?_)
      unfold Oper.looksAt
      refine List.mem_append_left _ (List.mem_filterMap.2 ⟨x,?_,?_⟩)
      ·obtain ⟨c,hx | hx⟩:=hx<;>rw [hx]<;>simp [Op.operands]
      ·cases x<;>simp [opdM,Nat.testBit_two_pow] at hj
       subst hj;rfl
     have h1:=hgrp a ⟨_,.inl hpk⟩
     have h2:=hgrp b ⟨_,.inr hpk⟩
     have hw2:∀ v,e d=.p (.bool v)→e' d=.p (.bool v):=fun v hv=>by rw [← hdl];exact hv
     -- what follows the choice
     have go:∀ (v:V) (h0:H) (e0':Env),Runs G rec all σ i (grp++[pk]) e' h e0' h0→Holds asm e0'→Agr (za all rest m) (put e pk.dst v) e0'→cvOps G rec all σ n asm m (i+grp.length+1) rest (put e pk.dst v) h0 α k=some r →
       ∃ e1 e1' h1,k e1 h1=some r∧Agr m e1 e1'∧Runs G rec all σ i (o::os) e' h e1' h1:=fun v h0 e0' g1 g2 g3 g4=>by
      obtain ⟨e1,e1',h1,q1,q2,q3⟩:=z2v n asm m (i+grp.length+1) rest _ e0' h0 α k r g4 g2 g3
      refine ⟨e1,e1',h1,q1,q2,?_⟩
      rw [hos,show grp++pk::rest=(grp++[pk])++rest by simp]
      refine g1.append ?_
      rw [List.length_append,List.length_singleton,← Nat.add_assoc]
      exact q3
     have pass:∀ (x:Operand) (h0:H) (e1 e1':Env),x=(if w then a else b)→e d=.p (.bool w)→Agr (opdM x) e1 e1'→Runs G rec all σ i grp e' h e1' h0→cvOps G rec all σ n asm m (i+grp.length+1) rest (put e pk.dst (opd e1 x)) h0 α k=some r →
       ∃ e1 e1' h1,k e1 h1=some r∧Agr m e1 e1'∧Runs G rec all σ i (o::os) e' h e1' h1:=fun x h0 e1 e1' hx hd q2 q3 g=>by
      subst hx
      obtain ⟨p1,p2,p3⟩:=zbz (rest:=rest) (m:=m) hpk ha (hw2 _ hd) he c2 c3 c4' c5 hnd q3 q2
      exact go _ _ _ p1 p2 p3 g
     have byp:∀ (x:Operand),x=(if w then b else a)→e d=.p (.bool !w)→cvOps G rec all σ n asm m (i+grp.length+1) rest (put e pk.dst (opd e x)) h α k=some r →
       ∃ e1 e1' h1,k e1 h1=some r∧Agr m e1 e1'∧Runs G rec all σ i (o::os) e' h e1' h1:=fun x hx hd g=>by
      subst hx
      obtain ⟨e1',p1,p2,p3⟩:=zc4 (G:=G) (rec:=rec) (σ:=σ) (i:=i) (h:=h) (rest:=rest) (m:=m) hpk ha (hw2 _ hd) he c2 c3 c4' c5 c1
      exact go _ _ _ p1 p2 p3 g
     have hH:e d=.p (.bool w)→Holds ((d,w)::asm) e':=fun hd q hq=>by
      rcases List.mem_cons.1 hq with rfl | hq
      ·exact hw2 _ hd
      ·exact ha q hq
     split at hx
     ·-- of a truth alone
      rename_i hpure hty
      obtain ⟨v,hv,hx1⟩:=Option.bind_eq_some_iff.1 hx
      obtain ⟨c,hc,hv1⟩:=Option.bind_eq_some_iff.1 hv
      have hd:=zu hc
      have noeff:∀ {e1':Env} {h0:H},Runs G rec all σ i grp e' h e1' h0→h0=h:=fun {e1' h0} hr=>by
       have key:∀ (os:List Oper) (i:Nat) (e:Env),z27 os=true→Runs G rec all σ i os e h e1' h0→h0=h:=by
        intro os
        induction os with
        | nil =>
         intro i e _ hr
         have:=hr.2 H (fun _ h=>some h) []
         simp only [List.append_nil,evOps,Option.some.injEq] at this
         exact this.symm
        | cons o os ih =>
         intro i e hp hr
         simp only [z27,Bool.and_eq_true] at hp
         cases hq:pureG G.P all e h o with
         | none =>
          have:=hr.2 Unit (fun _ _=>some ()) []
          simp only [List.append_nil,evOps,hp.1,hq,Option.bind_none] at this
          simp at this
         | some v =>
          refine ih (i+1) (put e o.dst v) hp.2 ⟨?_,?_⟩
          ·intro j hj
           by_cases hjo:(dstM o).testBit j=true
           ·have:=hr.2 V (fun e _=>some (e j)) []
            have key2:∀ (os:List Oper) (i:Nat) (e:Env),z27 os=true→(dstsM os).testBit j=false→∀ r,evOps G rec all σ (fun e _=>some (e j)) i os e h=some r→r=e j:=by
             intro os
             induction os with
             | nil=>intro i e _ _ r hr;simp only [evOps,Option.some.injEq] at hr;exact hr.symm
             | cons o2 os2 ih2 =>
              intro i e hp2 hj2 r hr2
              simp only [z27,Bool.and_eq_true] at hp2
              rw [z10] at hj2
              simp only [evOps,hp2.1] at hr2
              obtain ⟨v2,_,hr3⟩:=Option.bind_eq_some_iff.1 hr2
              rw [ih2 _ _ hp2.2 hj2.2 r hr3,zp (z3d hj2.1)]
            simp only [List.append_nil,evOps,hp.1,hq,Option.bind_some] at this
            exact key2 os (i+1) _ hp.2 hj _ this
           ·have hjo':(dstM o).testBit j=false:=by simpa using hjo
            rw [hr.1 j (z10.2 ⟨hjo',hj⟩),zp (z3d hjo')]
          ·intro β k rest
           have:=hr.2 β k rest
           simp only [List.cons_append,evOps,hp.1,hq,Option.bind_some,List.length_cons] at this
           rw [show i+1+os.length=i+(os.length+1) by omega]
           exact this
       exact key grp i e' hpure hr
      cases w<;>cases c<;>simp only at hv1
      ·-- w=false,c=false: taken
       obtain ⟨e1,e1',h0,q1,q2,q3⟩:=z2v n _ _ i grp e e' h Bool _ v hv1 (hH hd) h2
       have hb:=zu q1
       obtain rfl:=noeff q3
       exact pass b _ e1 e1' rfl hd q2 q3 (by rw [hb];exact hx1)
      ·have hb:=zu hv1
       exact byp a rfl hd (by rw [hb];exact hx1)
      ·have hb:=zu hv1
       exact byp b rfl hd (by rw [hb];exact hx1)
      ·obtain ⟨e1,e1',h0,q1,q2,q3⟩:=z2v n _ _ i grp e e' h Bool _ v hv1 (hH hd) h1
       have hb:=zu q1
       obtain rfl:=noeff q3
       exact pass a _ e1 e1' rfl hd q2 q3 (by rw [hb];exact hx1)
     ·obtain ⟨⟨v,h0⟩,hv,hx1⟩:=Option.bind_eq_some_iff.1 hx
      have hx2:=z30 hx1
      obtain ⟨c,hc,hv1⟩:=Option.bind_eq_some_iff.1 hv
      have hd:=zu hc
      cases w<;>cases c<;>simp only at hv1
      ·obtain ⟨e1,e1',h0',q1,q2,q3⟩:=z2v n _ _ i grp e e' h (V×H) _ _ hv1 (hH hd) h2
       simp only [Option.some.injEq,Prod.mk.injEq] at q1
       obtain ⟨rfl,rfl⟩:=q1
       exact pass b _ e1 e1' rfl hd q2 q3 hx2
      ·simp only [Option.some.injEq,Prod.mk.injEq] at hv1
       obtain ⟨rfl,rfl⟩:=hv1
       exact byp a rfl hd hx2
      ·simp only [Option.some.injEq,Prod.mk.injEq] at hv1
       obtain ⟨rfl,rfl⟩:=hv1
       exact byp b rfl hd hx2
      ·obtain ⟨e1,e1',h0',q1,q2,q3⟩:=z2v n _ _ i grp e e' h (V×H) _ _ hv1 (hH hd) h1
       simp only [Option.some.injEq,Prod.mk.injEq] at q1
       obtain ⟨rfl,rfl⟩:=q1
       exact pass a _ e1 e1' rfl hd q2 q3 hx2
  ·simp at hx
end
end Go.Ev
namespace Go.Ev
set_option linter.unusedVariables false

abbrev Ws:=List (Nat×(H→Prop))
def opsAt (ops:Array Oper) (l:List Nat):List Oper:=l.map fun i=>ops.getD i default
def z2d (ops:Array Oper) (d:Nat):List Nat→Option (List Nat×Nat×Operand×Operand×List Nat)
 | []=>none
 | i::is =>
  match (ops.getD i default).op with
  | .pick (.tmp t) a b=>if t=d then some ([],i,a,b,is) else (z2d ops d is).map fun q=>(i::q.1,q.2)
  | _=>(z2d ops d is).map fun q=>(i::q.1,q.2)
def maskI (ops:Array Oper):List Nat→Nat
 | []=>0
 | i::is=>(match usesH (ops.getD i default).op with | true=>2^i | false=>0) ||| maskI ops is
def waits (ops:Array Oper) (s:Nat):List Nat→Bool
 | []=>true
 | i::is=>!s.testBit i&&((isPure (ops.getD i default).op||s &&& anc ops i==s)&&waits ops s is)
noncomputable def nAll {α:Type} (ops:Array Oper):List Nat→Ws→H→Option α→Option α
 | [],_,_,x=>x
 | i::is,ws,h,x=>match isPure (ops.getD i default).op with
  | true=>nAll ops is ws h x
  | false=>needs (anc ops i) ws h (nAll ops is ws h x)
def noPick (ops:Array Oper):List Nat→Bool
 | []=>true
 | i::is=>(match (ops.getD i default).op with | .pick ..=>false | _=>true)&&noPick ops is
def chkD (ops:Array Oper) (asm:List (Nat×Bool)) (m d:Nat) (w:Bool) (grp:List Nat) (pk:Nat) (a b:Operand) (rest:List Nat):Bool :=
 skips ops d w 0 (opsAt ops grp)&&free asm (ops.getD pk default)&&(opsAt ops grp).all (free asm)&&(match opened asm (zi ops (ops.getD pk default)) with | some none=>true | _=>false) &&
  (dstsM (opsAt ops grp) &&& (minus (za ops (opsAt ops rest) m) (dstM (ops.getD pk default)) ||| opdM (if w then b else a))==0)
noncomputable def cvDr (bm:Bool) (mk:Mk) (G:Cfg) (rec:CallF) (ops:Array Oper) (σ:Stamp):Nat→List (Nat×Bool)→Nat→List Nat→Ws→Env→H→(α:Type)→(Ws→Env→H→Option α)→Option α
 | 0,_,_,_,_,_,_,_,_=>none
 | n+1,asm,m,l,ws,e,h,α,k =>
  match l with
  | []=>k ws e h
  | i::l =>
   match free asm (ops.getD i default),opened asm (zi ops (ops.getD i default)) with
   | true,some none =>
    match isPure (ops.getD i default).op,isMk bm ops (ops.getD i default) with
    | true,_=>(pureV G.P e h (ops.getD i default).op).bind fun v=>typed (tyO G.P (ops.getD i default)) v fun v =>
      cvDr bm mk G rec ops σ n asm m l (match usesH (ops.getD i default).op with | true=>(i,fun h'=>pureV G.P e h' (ops.getD i default).op=some v)::ws | false=>ws) (put e (ops.getD i default).dst v) h α k
    | false,true=>(match z2j (ops.getD i default).op with
     | true=>cvDr bm mk G rec ops σ n asm m l ws (put e (ops.getD i default).dst (match (ops.getD i default).dst with | some d=>.ref (newLoc h d (i::σ)) 0 | none=>udf)) h α k
     | false=>(mk i).bind fun q=>need (mkOf G (ops.getD i default).op (opd e)=some q) (cvDr bm mk G rec ops σ n asm m l ws (put e (ops.getD i default).dst (match (ops.getD i default).dst with | some d=>mkV' (newLoc h d (i::σ)) q | none=>udf)) h α k))
    | false,false=>(effV G rec (i::σ) e h (ops.getD i default)).bind fun r=>typed (tyO G.P (ops.getD i default)) r.1 fun v =>
      needs (anc ops i) ws r.2 (cvDr bm mk G rec ops σ n asm m l ws (put e (ops.getD i default).dst v) r.2 α k)
   | true,some (some (d,w)) =>
    match z2d ops d (i::l) with
    | none=>none
    | some (grp,pk,a,b,rest) =>
     match chkD ops asm m d w grp pk a b rest,waits ops (maskI ops grp) rest with
     | true,true =>
      match z27 (opsAt ops grp),tyOf G.P (ops.getD pk default).type with
      | true,.b =>
       ((asB (e d)).bind fun c=>match w with
        | true=>(match c with
         | true=>cvDr bm mk G rec ops σ n ((d,w)::asm) (opdM a) grp ws e h Bool fun _ e1 _=>asB (opd e1 a)
         | false=>nAll ops grp ws h (asB (opd e b)))
        | false=>(match c with
         | true=>nAll ops grp ws h (asB (opd e a))
         | false=>cvDr bm mk G rec ops σ n ((d,w)::asm) (opdM b) grp ws e h Bool fun _ e1 _=>asB (opd e1 b))).bind fun v =>
       cvDr bm mk G rec ops σ n asm m rest ws (put e (ops.getD pk default).dst (.p (.bool v))) h α k
      | _,_ =>
       ((asB (e d)).bind fun c=>match w with
        | true=>(match c with
         | true=>cvDr bm mk G rec ops σ n ((d,w)::asm) (opdM a) grp ws e h (V×H) fun _ e1 h1=>some (opd e1 a,h1)
         | false=>nAll ops grp ws h (some (opd e b,h)))
        | false=>(match c with
         | true=>nAll ops grp ws h (some (opd e a,h))
         | false=>cvDr bm mk G rec ops σ n ((d,w)::asm) (opdM b) grp ws e h (V×H) fun _ e1 h1=>some (opd e1 b,h1))).bind fun q =>
       typed (tyOf G.P (ops.getD pk default).type) q.1 fun v=>cvDr bm mk G rec ops σ n asm m rest ws (put e (ops.getD pk default).dst v) q.2 α k
     | true,false =>
      match z27 (opsAt ops grp)&&noPick ops grp,tyOf G.P (ops.getD pk default).type with
      | true,.b =>
       (asB (e d)).bind fun c=>match w with
        | true=>(match c with
         | true=>cvDr bm mk G rec ops σ n ((d,w)::asm) (opdM a) grp ws e h α fun ws1 e1 _=>(asB (opd e1 a)).bind fun v=>cvDr bm mk G rec ops σ n asm m rest ws1 (put e (ops.getD pk default).dst (.p (.bool v))) h α k
         | false=>nAll ops grp ws h ((asB (opd e b)).bind fun v=>cvDr bm mk G rec ops σ n asm m rest ws (put e (ops.getD pk default).dst (.p (.bool v))) h α k))
        | false=>(match c with
         | true=>nAll ops grp ws h ((asB (opd e a)).bind fun v=>cvDr bm mk G rec ops σ n asm m rest ws (put e (ops.getD pk default).dst (.p (.bool v))) h α k)
         | false=>cvDr bm mk G rec ops σ n ((d,w)::asm) (opdM b) grp ws e h α fun ws1 e1 _=>(asB (opd e1 b)).bind fun v=>cvDr bm mk G rec ops σ n asm m rest ws1 (put e (ops.getD pk default).dst (.p (.bool v))) h α k)
      | _,_=>none
     | false,_=>none
   | _,_=>none

section
variable {bm:Bool} {mk:Mk} {G:Cfg} {rec:CallF} {ops:Array Oper} {σ:Stamp}
theorem z5o {α:Type} {a:Nat} {h:H} {x:Option α}:∀ {ws:Ws},(∀ q∈ws,a.testBit q.1=true∨q.2 h)→needs a ws h x=x
 | [],_=>rfl
 | q::ws,hq=>by
  simp only [needs]
  have ih:=z5o (x:=x) (ws:=ws) fun q hq'=>hq q (List.mem_cons_of_mem _ hq')
  cases hb:a.testBit q.1 with
  | true=>exact ih
  | false =>
   have:=(hq q (List.mem_cons_self ..)).resolve_left (by rw [hb];simp)
   simp only [need,if_pos this,ih]
def keep (s:Nat) (ws:Ws):Ws:=ws.filter fun q=>!s.testBit q.1
theorem za8 {s:Nat}:∀ {l:List Nat},waits ops s l=true→∀ i∈l,s.testBit i=false∧(isPure (ops.getD i default).op=false→Sub s (anc ops i))
 | [],_,i,h=>by simp at h
 | x::l,hw,i,h=>by
  simp only [waits,Bool.and_eq_true,Bool.not_eq_true',Bool.or_eq_true] at hw
  rcases List.mem_cons.1 h with rfl | h
  ·exact ⟨hw.1,fun hp=>by
    have:=hw.2.1.resolve_left (by rw [hp];simp)
    exact fun j hj=>z9o this hj⟩
  ·exact za8 hw.2.2 i h
theorem z99:∀ {l:List Nat},noPick ops l=true→∀ i∈l,∀ c a b,(ops.getD i default).op≠.pick c a b
 | [],_,i,h=>by simp at h
 | x::l,hn,i,h=>by
  simp only [noPick,Bool.and_eq_true] at hn
  rcases List.mem_cons.1 h with rfl | h
  ·intro c a b he
   rw [he] at hn;simp at hn
  ·exact z99 hn.2 i h
abbrev Waits (ops:Array Oper) (s:Nat) (l:List Nat):Prop:=∀ i∈l,s.testBit i=false∧(isPure (ops.getD i default).op=false→Sub s (anc ops i))
theorem Waits.or {s t:Nat} {l:List Nat} (h:Waits ops s l) (k:Waits ops t l):Waits ops (s ||| t) l:=fun i hi=>⟨by rw [Nat.testBit_or,(h i hi).1,(k i hi).1];rfl,fun hp j hj=>by
 rw [Nat.testBit_or,Bool.or_eq_true] at hj
 exact hj.elim ((h i hi).2 hp j) ((k i hi).2 hp j)⟩
theorem z2c {α:Type} {ws:Ws} {h:H} {x:Option α} {r:α}:∀ {l:List Nat},nAll ops l ws h x=some r→x=some r∧∀ i∈l,isPure (ops.getD i default).op=false→∀ q∈ws,(anc ops i).testBit q.1=true∨q.2 h
 | [],hx=>⟨hx,fun i hi=>by simp at hi⟩
 | i::l,hx=>by
  simp only [nAll] at hx
  cases hp:isPure (ops.getD i default).op with
  | true =>
   simp only [hp] at hx
   obtain ⟨h1,h2⟩:=z2c hx
   exact ⟨h1,fun j hj hpj=>by
    rcases List.mem_cons.1 hj with rfl | hj
    ·rw [hp] at hpj;simp at hpj
    ·exact h2 j hj hpj⟩
  | false =>
   simp only [hp] at hx
   obtain ⟨h3,h4⟩:=z2e hx
   obtain ⟨h1,h2⟩:=z2c h4
   exact ⟨h1,fun j hj hpj=>by
    rcases List.mem_cons.1 hj with rfl | hj
    ·exact h3
    ·exact h2 j hj hpj⟩
theorem z5d {d:Nat}:∀ {l grp:List Nat} {pk:Nat} {a b:Operand} {rest:List Nat},z2d ops d l=some (grp,pk,a,b,rest)→l=grp++pk::rest∧(ops.getD pk default).op=.pick (.tmp d) a b
 | [],_,_,_,_,_,h=>by simp [z2d] at h
 | o::os,grp,pk,a,b,rest,h=>by
  have step:(z2d ops d os).map (fun q=>(o::q.1,q.2))=some (grp,pk,a,b,rest)→o::os=grp++pk::rest∧(ops.getD pk default).op=.pick (.tmp d) a b:=fun h=>by
   obtain ⟨⟨g1,p1,a1,b1,r1⟩,hq,he⟩:=Option.map_eq_some_iff.1 h
   simp only [Prod.mk.injEq] at he
   obtain ⟨rfl,rfl,rfl,rfl,rfl⟩:=he
   obtain ⟨h1,h2⟩:=z5d hq
   exact ⟨by rw [h1];rfl,h2⟩
  unfold z2d at h
  split at h
  ·rename_i t a' b' hop
   split at h
   ·rename_i ht
    simp only [Option.some.injEq,Prod.mk.injEq] at h
    obtain ⟨rfl,rfl,rfl,rfl,rfl⟩:=h
    subst ht
    exact ⟨rfl,hop⟩
   ·exact step h
  ·exact step h
structure RunsD (bm:Bool) (mk:Mk) (G:Cfg) (rec:CallF) (ops:Array Oper) (σ:Stamp) (l:List Nat) (ws:Ws) (e:Env) (h:H) (ws1:Ws) (e1:Env) (h1:H):Prop where
 off:∀ j,(dstsM (opsAt ops l)).testBit j=false→e1 j=e j
 run:∀ (β:Type) (k:Env→H→Option β) (rest:List Nat),evDraw bm mk G rec ops σ k (l++rest) ws e h=evDraw bm mk G rec ops σ k rest ws1 e1 h1
 more:∃ ex:Ws,ws1=ex++ws∧∀ q∈ex,q.1∈l∧usesH (ops.getD q.1 default).op=true
theorem RunsD.nil (ws:Ws) (e:Env) (h:H):RunsD bm mk G rec ops σ [] ws e h ws e h:=⟨fun _ _=>rfl,fun _ _ _=>rfl,[],rfl,by simp⟩
theorem RunsD.append {xs ys:List Nat} {ws ws1 ws2:Ws} {e e1 e2:Env} {h h1 h2:H} (hx:RunsD bm mk G rec ops σ xs ws e h ws1 e1 h1) (hy:RunsD bm mk G rec ops σ ys ws1 e1 h1 ws2 e2 h2):RunsD bm mk G rec ops σ (xs++ys) ws e h ws2 e2 h2:=by
 refine ⟨fun j hj=>?_,fun β k rest=>?_,?_⟩
 ·rw [opsAt,List.map_append,z7j] at hj
  rw [hy.off j hj.2,hx.off j hj.1]
 ·rw [List.append_assoc,hx.run,hy.run]
 ·obtain ⟨e1,q1,q2⟩:=hx.more
  obtain ⟨e2,q3,q4⟩:=hy.more
  exact ⟨e2++e1,by rw [q3,q1,List.append_assoc],fun q hq=>by
   rcases List.mem_append.1 hq with hq | hq
   ·exact ⟨List.mem_append_right _ (q4 q hq).1,(q4 q hq).2⟩
   ·exact ⟨List.mem_append_left _ (q2 q hq).1,(q2 q hq).2⟩⟩
theorem RunsD.pure {i:Nat} {l:List Nat} {ws ws1:Ws} {e e1:Env} {h h1:H} {v:V} (hp:isPure (ops.getD i default).op=true) (hv:pureG G.P ops e h (ops.getD i default)=some v)
  (hr:RunsD bm mk G rec ops σ l (match usesH (ops.getD i default).op with | true=>(i,fun h'=>pureG G.P ops e h' (ops.getD i default)=some v)::ws | false=>ws) (put e (ops.getD i default).dst v) h ws1 e1 h1):RunsD bm mk G rec ops σ (i::l) ws e h ws1 e1 h1:=by
 refine ⟨fun j hj=>?_,fun β k rest=>?_,?_⟩
 ·rw [opsAt,List.map_cons,z10] at hj
  rw [hr.off j hj.2,zp (z3d hj.1)]
 ·simp only [List.cons_append,evDraw,hp,hv,Option.bind_some]
  exact hr.run β k rest
 ·obtain ⟨ex,q1,q2⟩:=hr.more
  cases hu:usesH (ops.getD i default).op with
  | true =>
   rw [hu] at q1
   exact ⟨ex++[(i,fun h'=>pureG G.P ops e h' (ops.getD i default)=some v)],by rw [q1];simp,fun q hq=>by
    rcases List.mem_append.1 hq with hq | hq
    ·exact ⟨List.mem_cons_of_mem _ (q2 q hq).1,(q2 q hq).2⟩
    ·simp only [List.mem_singleton] at hq;subst hq;exact ⟨List.mem_cons_self ..,hu⟩⟩
  | false =>
   rw [hu] at q1
   exact ⟨ex,q1,fun q hq=>⟨List.mem_cons_of_mem _ (q2 q hq).1,(q2 q hq).2⟩⟩
theorem RunsD.eff {i:Nat} {l:List Nat} {ws ws1:Ws} {e e1:Env} {h h0 h1:H} {v:V} (hp:isPure (ops.getD i default).op=false) (ha:(isMk bm ops (ops.getD i default))=false)
  (hv:effG G rec ops (i::σ) e h (ops.getD i default)=some (v,h0)) (hw:∀ q∈ws,(anc ops i).testBit q.1=true∨q.2 h0) (hr:RunsD bm mk G rec ops σ l ws (put e (ops.getD i default).dst v) h0 ws1 e1 h1):RunsD bm mk G rec ops σ (i::l) ws e h ws1 e1 h1:=by
 refine ⟨fun j hj=>?_,fun β k rest=>?_,?_⟩
 ·rw [opsAt,List.map_cons,z10] at hj
  rw [hr.off j hj.2,zp (z3d hj.1)]
 ·simp only [List.cons_append,evDraw,hp,ha,hv,Option.bind_some]
  rw [z5o hw]
  exact hr.run β k rest
 ·obtain ⟨ex,q1,q2⟩:=hr.more
  exact ⟨ex,q1,fun q hq=>⟨List.mem_cons_of_mem _ (q2 q hq).1,(q2 q hq).2⟩⟩
theorem RunsD.alloc {i:Nat} {l:List Nat} {ws ws1:Ws} {e e1:Env} {h h1:H} (hp:isPure (ops.getD i default).op=false) (ha:(isMk bm ops (ops.getD i default))=true) (hal:z2j (ops.getD i default).op=true)
  (hr:RunsD bm mk G rec ops σ l ws (put e (ops.getD i default).dst (match (ops.getD i default).dst with | some d=>.ref (newLoc h d (i::σ)) 0 | none=>udf)) h ws1 e1 h1):RunsD bm mk G rec ops σ (i::l) ws e h ws1 e1 h1:=by
 refine ⟨fun j hj=>?_,fun β k rest=>?_,?_⟩
 ·rw [opsAt,List.map_cons,z10] at hj
  rw [hr.off j hj.2,zp (z3d hj.1)]
 ·simp only [List.cons_append,evDraw,hp,ha,hal]
  exact hr.run β k rest
 ·obtain ⟨ex,q1,q2⟩:=hr.more
  exact ⟨ex,q1,fun q hq=>⟨List.mem_cons_of_mem _ (q2 q hq).1,(q2 q hq).2⟩⟩
theorem RunsD.make {i:Nat} {l:List Nat} {ws ws1:Ws} {e e1:Env} {h h1:H} {q:Made} (hp:isPure (ops.getD i default).op=false) (ha:(isMk bm ops (ops.getD i default))=true) (hal:z2j (ops.getD i default).op=false) (hm:mk i=some q) (hq:mkOf G (ops.getD i default).op (opd e)=some q)
  (hr:RunsD bm mk G rec ops σ l ws (put e (ops.getD i default).dst (match (ops.getD i default).dst with | some d=>mkV' (newLoc h d (i::σ)) q | none=>udf)) h ws1 e1 h1):RunsD bm mk G rec ops σ (i::l) ws e h ws1 e1 h1:=by
 refine ⟨fun j hj=>?_,fun β k rest=>?_,?_⟩
 ·rw [opsAt,List.map_cons,z10] at hj
  rw [hr.off j hj.2,zp (z3d hj.1)]
 ·simp only [List.cons_append,evDraw,hp,ha,hal,hm,Option.bind_some]
  rw [show ∀ x:Option β,need (mkOf G (ops.getD i default).op (opd e)=some q) x=x from fun x=>by unfold need;rw [if_pos hq]]
  exact hr.run β k rest
 ·obtain ⟨ex,q1,q2⟩:=hr.more
  exact ⟨ex,q1,fun q hq=>⟨List.mem_cons_of_mem _ (q2 q hq).1,(q2 q hq).2⟩⟩
theorem z98 {d:Nat} {w:Bool}:∀ {grp:List Nat} {m:Nat} {ws:Ws} {e:Env} {h:H},skips ops d w m (opsAt ops grp)=true→e d=.p (.bool !w)→(∀ j,m.testBit j=true→e j=udf) →
  (∀ i∈grp,isPure (ops.getD i default).op=false→∀ q∈ws,(anc ops i).testBit q.1=true∨q.2 h)→∃ e1 ws1,RunsD bm mk G rec ops σ grp ws e h ws1 e1 h∧e1 d=e d∧∃ ex:Ws,ws1=ex++ws∧∀ q∈ex,∀ h',q.2 h'
 | [],m,ws,e,h,_,_,_,_=>⟨e,ws,RunsD.nil ws e h,rfl,[],rfl,by simp⟩
 | i::is,m,ws,e,h,hs,hd,hm,hw=>by
  simp only [opsAt,List.map_cons,skips,Bool.and_eq_true] at hs
  obtain ⟨⟨h1,h2⟩,h3⟩:=hs
  have hne:(ops.getD i default).dst≠some d:=by simpa using h2
  have hg:∃ t u,zi ops (ops.getD i default)=some (some (t,u))∧gdB (e t) u=some false:=by
   split at h1
   ·rename_i t u hgo
    refine ⟨t,u,hgo,?_⟩
    simp only [Bool.or_eq_true,Bool.and_eq_true,beq_iff_eq] at h1
    rcases h1 with ⟨rfl,rfl⟩ | h1
    ·rw [hd];simp [gdB]
    ·rw [hm t h1];rfl
   ·simp at h1
  obtain ⟨t,u,hgo,hgb⟩:=hg
  have hgs:(ops.getD i default).guard.isNone=false:=by
   unfold zi at hgo
   split at hgo
   ·simp at hgo
   ·rename_i hq;rw [hq];rfl
  have next:=fun (ws':Ws) (hws:∀ j∈is,isPure (ops.getD j default).op=false→∀ q∈ws',(anc ops j).testBit q.1=true∨q.2 h)=>z98 (ws:=ws') (e:=put e (ops.getD i default).dst udf) (h:=h) h3 (by rw [zp hne];exact hd) (fun j hj=>by
   rw [Nat.testBit_or,Bool.or_eq_true] at hj
   by_cases hj2:(ops.getD i default).dst=some j
   ·exact put_same hj2
   ·rw [zp hj2]
    rcases hj with hj | hj
    ·exact hm j hj
    ·exact absurd (z3c.1 hj) hj2) hws
  cases hpu:isPure (ops.getD i default).op with
  | true =>
   have hv:∀ h',pureG G.P ops e h' (ops.getD i default)=some udf:=fun h'=>by simp only [pureG,hgo,gd,hgb,Option.bind_some,Bool.false_eq_true,if_false]
   obtain ⟨e1,ws1,k1,k2,ex,k3,k4⟩:=next (match usesH (ops.getD i default).op with | true=>(i,fun h'=>pureG G.P ops e h' (ops.getD i default)=some udf)::ws | false=>ws) (fun j hj hp q hq=>by
    cases hu:usesH (ops.getD i default).op with
    | true =>
     simp only [hu] at hq
     rcases List.mem_cons.1 hq with rfl | hq
     ·exact .inr (hv h)
     ·exact hw j (List.mem_cons_of_mem _ hj) hp q hq
    | false =>
     simp only [hu] at hq
     exact hw j (List.mem_cons_of_mem _ hj) hp q hq)
   refine ⟨e1,ws1,RunsD.pure hpu (hv h) k1,by rw [k2,zp hne],?_⟩
   cases hu:usesH (ops.getD i default).op with
   | true =>
    simp only [hu] at k3
    exact ⟨ex++[(i,fun h'=>pureG G.P ops e h' (ops.getD i default)=some udf)],by rw [k3];simp,fun q hq h'=>by
     rcases List.mem_append.1 hq with hq | hq
     ·exact k4 q hq h'
     ·simp only [List.mem_singleton] at hq;subst hq;exact hv h'⟩
   | false =>
    simp only [hu] at k3
    exact ⟨ex,k3,k4⟩
  | false =>
   have hv:effG G rec ops (i::σ) e h (ops.getD i default)=some (udf,h):=by simp only [effG,hgo,gdE,hgb,Option.bind_some,Bool.false_eq_true,if_false]
   obtain ⟨e1,ws1,k1,k2,k3⟩:=next ws (fun j hj hp q hq=>hw j (List.mem_cons_of_mem _ hj) hp q hq)
   exact ⟨e1,ws1,RunsD.eff hpu (by unfold isMk;rw [hgs,Bool.and_false]) hv (fun q hq=>hw i (List.mem_cons_self ..) hpu q hq) k1,by rw [k2,zp hne],k3⟩
theorem za3 {asm:List (Nat×Bool)} {grp:List Nat} {ws ws1:Ws} {e e1:Env} {h h1:H} (hf:(opsAt ops grp).all (free asm)=true) (hr:RunsD bm mk G rec ops σ grp ws e h ws1 e1 h1) (ha:Holds asm e):Holds asm e1:=fun q hq=>by
 rw [hr.off]
 ·exact ha q hq
 ·have key:∀ (os:List Oper),os.all (free asm)=true→(dstsM os).testBit q.1=false:=by
   intro os
   induction os with
   | nil=>intro _;simp [dstsM]
   | cons o os ih =>
    intro hf
    simp only [List.all_cons,Bool.and_eq_true] at hf
    rw [z10]
    refine ⟨?_,ih hf.2⟩
    cases hb:(dstM o).testBit q.1 with
    | false=>rfl
    | true =>
     have h1:=z3c.1 hb
     have h2:=List.all_eq_true.1 hf.1 q hq
     rw [h1] at h2;simp at h2
  exact key _ hf
end
end Go.Ev
namespace Go.Ev
set_option linter.unusedVariables false
section
variable {bm:Bool} {mk:Mk} {G:Cfg} {rec:CallF} {ops:Array Oper} {σ:Stamp}
theorem z4m:∀ (l:List Nat) (ws:Ws) (e:Env) (h h':H),z27 (opsAt ops l)=true→evDraw bm mk G rec ops σ (fun _ h=>some h) l ws e h=some h'→h'=h
 | [],_,_,_,_,_,hx=>by simp only [evDraw,Option.some.injEq] at hx;exact hx.symm
 | i::l,ws,e,h,h',hp,hx=>by
  simp only [opsAt,List.map_cons,z27,Bool.and_eq_true] at hp
  simp only [evDraw,hp.1] at hx
  obtain ⟨v,_,hx'⟩:=Option.bind_eq_some_iff.1 hx
  exact z4m l _ _ _ _ hp.2 hx'
theorem RunsD.heap {l:List Nat} {ws ws1:Ws} {e e1:Env} {h h1:H} (hr:RunsD bm mk G rec ops σ l ws e h ws1 e1 h1) (hp:z27 (opsAt ops l)=true):h1=h:=by
 have:=hr.run H (fun _ h=>some h) []
 rw [List.append_nil] at this
 exact z4m l ws e h h1 hp (by rw [this];rfl)
theorem z4o (xs ys:List Nat):opsAt ops (xs++ys)=opsAt ops xs++opsAt ops ys:=List.map_append
theorem zac {i:Nat} (hu:usesH (ops.getD i default).op=true):∀ {l:List Nat},i∈l→(maskI ops l).testBit i=true
 | [],h=>by simp at h
 | x::l,h=>by
  simp only [maskI,Nat.testBit_or,Bool.or_eq_true]
  rcases List.mem_cons.1 h with rfl | h
  ·refine .inl ?_
   rw [hu];simp
  ·exact .inr (zac hu h)
def Cov (ops:Array Oper) (l:List Nat) (wc we:Ws):Prop:=∀ j∈l,isPure (ops.getD j default).op=false→∀ h,(∀ q∈wc,(anc ops j).testBit q.1=true∨q.2 h)→∀ q∈we,(anc ops j).testBit q.1=true∨q.2 h
theorem Cov.push {l:List Nat} {wc we:Ws} (hc:Cov ops l wc we) (p:Nat×(H→Prop)):Cov ops l (p::wc) (p::we):=fun j hj hp h hq q hm=>by
 rcases List.mem_cons.1 hm with rfl | hm
 ·exact hq _ (List.mem_cons_self ..)
 ·exact hc j hj hp h (fun q hq'=>hq q (List.mem_cons_of_mem _ hq')) q hm
theorem zbl {asm:List (Nat×Bool)} {d:Nat} {w:Bool} {grp rest:List Nat} {pk:Nat} {a b:Operand} {m:Nat} {ws ws1:Ws} {e e' e1 e1':Env} {h h1:H} (hpk:(ops.getD pk default).op=.pick (.tmp d) a b)
  (ha:Holds asm e') (hd:e' d=.p (.bool w)) (he:Agr (za ops (opsAt ops (grp++pk::rest)) m) e e') (hfr:free asm (ops.getD pk default)=true) (hfa:(opsAt ops grp).all (free asm)=true) (hop:opened asm (zi ops (ops.getD pk default))=some none)
  (hz:(dstsM (opsAt ops grp) &&& (minus (za ops (opsAt ops rest) m) (dstM (ops.getD pk default)) ||| opdM (if w then b else a))==0)=true) (hnd:(dstsM (opsAt ops grp)).testBit d=false)
  (hr:RunsD bm mk G rec ops σ grp ws e' h ws1 e1' h1) (hag:Agr (opdM (if w then a else b)) e1 e1') :
  RunsD bm mk G rec ops σ (grp++[pk]) ws e' h ws1 (put e1' (ops.getD pk default).dst (opd e1 (if w then a else b))) h1∧Holds asm (put e1' (ops.getD pk default).dst (opd e1 (if w then a else b)))∧Agr (za ops (opsAt ops rest) m) (put e (ops.getD pk default).dst (opd e1 (if w then a else b))) (put e1' (ops.getD pk default).dst (opd e1 (if w then a else b))):=by
 have ha1:=za3 hfa hr ha
 have hv:pureG G.P ops e1' h1 (ops.getD pk default)=some (opd e1 (if w then a else b)):=by
  rw [z2g hop ha1,hpk]
  have h1:opd e1' (.tmp d)=.p (.bool w):=by show e1' d=_;rw [hr.off d hnd,hd]
  simp only [pureV,pickV,h1,asB,Option.map_some,Option.some.injEq]
  rw [z5z hag]
  cases w<;>rfl
 have hu:usesH (ops.getD pk default).op=false:=by rw [hpk];rfl
 refine ⟨hr.append (RunsD.pure (z45 hpk) hv ?_),ha1.put hfr,?_⟩
 ·rw [hu];exact RunsD.nil _ _ _
 ·refine Agr.put fun j hj=>?_
  have h1:(dstsM (opsAt ops grp)).testBit j=false:=by
   cases hb:(dstsM (opsAt ops grp)).testBit j with
   | false=>rfl
   | true=>have:=z62 hz hb;rw [Nat.testBit_or,hj] at this;simp at this
  rw [hr.off j h1]
  refine he j ?_
  rw [z4o,z14]
  refine z28 ops _ ?_ h1
  simp only [opsAt,List.map_cons,za,Nat.testBit_or] at hj ⊢
  rw [hj,Bool.true_or]
theorem zb9 {asm:List (Nat×Bool)} {d:Nat} {w:Bool} {grp rest:List Nat} {pk:Nat} {a b:Operand} {m:Nat} {ws:Ws} {e e':Env} {h:H} (hpk:(ops.getD pk default).op=.pick (.tmp d) a b)
  (ha:Holds asm e') (hd:e' d=.p (.bool !w)) (he:Agr (za ops (opsAt ops (grp++pk::rest)) m) e e') (hfr:free asm (ops.getD pk default)=true) (hfa:(opsAt ops grp).all (free asm)=true) (hop:opened asm (zi ops (ops.getD pk default))=some none)
  (hz:(dstsM (opsAt ops grp) &&& (minus (za ops (opsAt ops rest) m) (dstM (ops.getD pk default)) ||| opdM (if w then b else a))==0)=true) (hs:skips ops d w 0 (opsAt ops grp)=true)
  (hw:∀ i∈grp,isPure (ops.getD i default).op=false→∀ q∈ws,(anc ops i).testBit q.1=true∨q.2 h) :
  ∃ e1' ws1,RunsD bm mk G rec ops σ (grp++[pk]) ws e' h ws1 (put e1' (ops.getD pk default).dst (opd e (if w then b else a))) h∧((∃ ex:Ws,ws1=ex++ws∧∀ q∈ex,q.1∈grp∧usesH (ops.getD q.1 default).op=true)∧∃ ex:Ws,ws1=ex++ws∧∀ q∈ex,∀ h',q.2 h')∧Holds asm (put e1' (ops.getD pk default).dst (opd e (if w then b else a)))∧Agr (za ops (opsAt ops rest) m) (put e (ops.getD pk default).dst (opd e (if w then b else a))) (put e1' (ops.getD pk default).dst (opd e (if w then b else a))):=by
 obtain ⟨e1',ws1,hr,hdd,hex⟩:=z98 (bm:=bm) (mk:=mk) (G:=G) (rec:=rec) (σ:=σ) (ws:=ws) (h:=h) hs hd (fun j hj=>by simp at hj) hw
 have ha1:=za3 hfa hr ha
 have hnot:∀ j,(minus (za ops (opsAt ops rest) m) (dstM (ops.getD pk default)) ||| opdM (if w then b else a)).testBit j=true→(dstsM (opsAt ops grp)).testBit j=false:=fun j hj=>by
  cases hb:(dstsM (opsAt ops grp)).testBit j with
  | false=>rfl
  | true=>have:=z62 hz hb;rw [hj] at this;simp at this
 have hread:Sub (opdM (if w then b else a)) (readM ops (ops.getD pk default)):=fun j hj=>by
  refine z4q.2 ?_
  unfold Oper.looksAt
  refine List.mem_append_left _ (List.mem_filterMap.2 ⟨(if w then b else a),?_,?_⟩)
  ·rw [hpk];cases w<;>simp [Op.operands]
  ·generalize (if w then b else a)=x at hj
   cases x<;>simp [opdM,Nat.testBit_two_pow] at hj
   subst hj;rfl
 have hlive:∀ j,(za ops (opsAt ops (pk::rest)) m).testBit j=true→(dstsM (opsAt ops grp)).testBit j=false→e j=e1' j:=fun j hj hb=>by
  rw [hr.off j hb]
  refine he j ?_
  rw [z4o,z14]
  exact z28 ops _ hj hb
 have hag:Agr (opdM (if w then b else a)) e e1':=fun j hj=>hlive j (by
  simp only [opsAt,List.map_cons,za,Nat.testBit_or,Bool.or_eq_true]
  exact .inr (hread j hj)) (hnot j (by rw [Nat.testBit_or,hj,Bool.or_true]))
 have hv:pureG G.P ops e1' h (ops.getD pk default)=some (opd e (if w then b else a)):=by
  rw [z2g hop ha1,hpk]
  have h1:opd e1' (.tmp d)=.p (.bool !w):=by show e1' d=_;rw [hdd,hd]
  simp only [pureV,pickV,h1,asB,Option.map_some,Option.some.injEq]
  rw [z5z hag]
  cases w<;>rfl
 have hu:usesH (ops.getD pk default).op=false:=by rw [hpk];rfl
 refine ⟨e1',ws1,hr.append (RunsD.pure (z45 hpk) hv ?_),⟨hr.more,hex⟩,ha1.put hfr,?_⟩
 ·rw [hu];exact RunsD.nil _ _ _
 ·refine Agr.put fun j hj=>hlive j ?_ (hnot j (by rw [Nat.testBit_or,hj,Bool.true_or]))
  simp only [opsAt,List.map_cons,za,Nat.testBit_or] at hj ⊢
  rw [hj,Bool.true_or]
theorem z1p:∀ (n:Nat) (asm:List (Nat×Bool)) (m:Nat) (l:List Nat) (wc we:Ws) (e e':Env) (h:H) (α:Type) (k:Ws→Env→H→Option α) (r:α),cvDr bm mk G rec ops σ n asm m l wc e h α k=some r→Cov ops l wc we→Holds asm e'→Agr (za ops (opsAt ops l) m) e e' →
  ∃ e1 e1' h1 wc1 we1,k wc1 e1 h1=some r∧Agr m e1 e1'∧RunsD bm mk G rec ops σ l we e' h we1 e1' h1∧(noPick ops l=true→∀ l2,Cov ops l2 wc we→Cov ops l2 wc1 we1)
 | 0,asm,m,l,wc,we,e,e',h,α,k,r,hx,_,_,_=>by simp [cvDr] at hx
 | n+1,asm,m,[],wc,we,e,e',h,α,k,r,hx,hW,ha,he=>by
  simp only [cvDr] at hx
  exact ⟨e,e',h,wc,we,hx,he,RunsD.nil we e' h,fun _ _ hc=>hc⟩
 | n+1,asm,m,i::l,wc,we,e,e',h,α,k,r,hx,hW,ha,he=>by
  simp only [cvDr] at hx
  have hWl:Cov ops l wc we:=fun j hj=>hW j (List.mem_cons_of_mem _ hj)
  split at hx
  ·-- it runs
   rename_i hfr hop
   have he2:Agr (za ops (ops.getD i default::opsAt ops l) m) e e':=he
   have hal:=z37 (z5a he2).alike
   have hnp:noPick ops (i::l)=true→noPick ops l=true:=fun hn=>by
    simp only [noPick,Bool.and_eq_true] at hn;exact hn.2
   cases hpu:isPure (ops.getD i default).op with
   | true =>
    simp only [hpu] at hx
    obtain ⟨v,hv,hx1⟩:=Option.bind_eq_some_iff.1 hx
    have hx2:=z30 hx1
    have hfun:(fun h'=>pureV G.P e h' (ops.getD i default).op=some v)=fun h'=>pureG G.P ops e' h' (ops.getD i default)=some v:=by
     funext h';rw [z2g hop ha,← z43 hal]
    have hv':pureG G.P ops e' h (ops.getD i default)=some v:=by rw [z2g hop ha,← z43 hal];exact hv
    cases hu:usesH (ops.getD i default).op with
    | true =>
     simp only [hu] at hx2
     rw [hfun] at hx2
     obtain ⟨e1,e1',h1,wc1,we1,q1,q2,q3,q4⟩:=z1p n asm m l _ ((i,fun h'=>pureG G.P ops e' h' (ops.getD i default)=some v)::we) _ (put e' (ops.getD i default).dst v) h α k r hx2 (hWl.push _) (ha.put hfr) (z2x he2)
     exact ⟨e1,e1',h1,wc1,we1,q1,q2,RunsD.pure hpu hv' (by rw [hu];exact q3),fun hn l2 hc=>q4 (hnp hn) l2 (hc.push _)⟩
    | false =>
     simp only [hu] at hx2
     obtain ⟨e1,e1',h1,wc1,we1,q1,q2,q3,q4⟩:=z1p n asm m l _ we _ (put e' (ops.getD i default).dst v) h α k r hx2 hWl (ha.put hfr) (z2x he2)
     exact ⟨e1,e1',h1,wc1,we1,q1,q2,RunsD.pure hpu hv' (by rw [hu];exact q3),fun hn=>q4 (hnp hn)⟩
   | false =>
    cases hal2:(isMk bm ops (ops.getD i default)) with
    | true =>
     simp only [hpu,hal2] at hx
     split at hx
     ·rename_i hal3
      obtain ⟨e1,e1',h1,wc1,we1,q1,q2,q3,q4⟩:=z1p n asm m l wc we _ (put e' (ops.getD i default).dst (match (ops.getD i default).dst with | some d=>.ref (newLoc h d (i::σ)) 0 | none=>udf)) h α k r hx hWl (ha.put hfr) (z2x he2)
      exact ⟨e1,e1',h1,wc1,we1,q1,q2,RunsD.alloc hpu hal2 hal3 q3,fun hn=>q4 (hnp hn)⟩
     ·rename_i hal3
      obtain ⟨q,hq,hx1⟩:=Option.bind_eq_some_iff.1 hx
      obtain ⟨hq2,hx2⟩:=z7b hx1
      obtain ⟨e1,e1',h1,wc1,we1,q1,q2,q3,q4⟩:=z1p n asm m l wc we _ (put e' (ops.getD i default).dst (match (ops.getD i default).dst with | some d=>mkV' (newLoc h d (i::σ)) q | none=>udf)) h α k r hx2 hWl (ha.put hfr) (z2x he2)
      exact ⟨e1,e1',h1,wc1,we1,q1,q2,RunsD.make hpu hal2 hal3 hq (by rw [← z93 hal];exact hq2) q3,fun hn=>q4 (hnp hn)⟩
    | false =>
     simp only [hpu,hal2] at hx
     obtain ⟨⟨v,h0⟩,hv,hx1⟩:=Option.bind_eq_some_iff.1 hx
     have hx2:=z30 hx1
     obtain ⟨hn,hx3⟩:=z2e hx2
     obtain ⟨e1,e1',h1,wc1,we1,q1,q2,q3,q4⟩:=z1p n asm m l wc we _ (put e' (ops.getD i default).dst v) h0 α k r hx3 hWl (ha.put hfr) (z2x he2)
     exact ⟨e1,e1',h1,wc1,we1,q1,q2,RunsD.eff hpu hal2 (by rw [zab hop ha,← z6l hal];exact hv) (hW i (List.mem_cons_self ..) hpu h0 hn) q3,fun hn=>q4 (hnp hn)⟩
  ·-- a choice
   rename_i d w hfr hop
   split at hx
   ·simp at hx
   ·rename_i grp pk a b rest hsp
    obtain ⟨hos,hpk⟩:=z5d hsp
    rw [hos] at he hW
    have hnot:noPick ops (i::l)=true→False:=fun hn=>z99 hn pk (by rw [hos];simp) _ _ _ hpk
    by_cases hchk:chkD ops asm m d w grp pk a b rest=true
    ·rw [hchk] at hx
     simp only [chkD,Bool.and_eq_true] at hchk
     obtain ⟨⟨⟨⟨c1,c2⟩,c3⟩,c4⟩,c5⟩:=hchk
     have c4':opened asm (zi ops (ops.getD pk default))=some none:=by
      split at c4
      ·assumption
      ·simp at c4
     have hnd:=z7l c1
     have hdl:e d=e' d:=by
      have hg:zi ops (ops.getD i default)=some (some (d,w)):=by
       unfold opened at hop
       split at hop
       ·rename_i q hgq
        split at hop
        ·simp at hop
        ·rw [hgq];exact hop
       ·exact hop
      have he2:Agr (za ops (ops.getD i default::opsAt ops l) m) e e':=by
       have:ops.getD i default::opsAt ops l=opsAt ops (grp++pk::rest):=by rw [← hos];rfl
       rw [this];exact he
      exact z44 (z5a he2).alike hg
     have hWg:Cov ops grp wc we:=fun j hj=>hW j (List.mem_append_left _ hj)
     have hWr:Cov ops rest wc we:=fun j hj=>hW j (List.mem_append_right _ (List.mem_cons_of_mem _ hj))
     have hgrp:∀ (x:Operand),(∃ c,(ops.getD pk default).op=.pick c x b∨(ops.getD pk default).op=.pick c a x)→Agr (za ops (opsAt ops grp) (opdM x)) e e':=fun x hx=>by
      refine he.sub ?_
      rw [z4o,z14]
      refine z4p ops _ fun j hj=>?_
      simp only [opsAt,List.map_cons,za,Nat.testBit_or,Bool.or_eq_true]
      refine .inr (z4q.2 ?_)
      unfold Oper.looksAt
      refine List.mem_append_left _ (List.mem_filterMap.2 ⟨x,?_,?_⟩)
      ·obtain ⟨c,hx | hx⟩:=hx<;>rw [hx]<;>simp [Op.operands]
      ·cases x<;>simp [opdM,Nat.testBit_two_pow] at hj
       subst hj;rfl
     have h1:=hgrp a ⟨_,.inl hpk⟩
     have h2:=hgrp b ⟨_,.inr hpk⟩
     have hw2:∀ v,e d=.p (.bool v)→e' d=.p (.bool v):=fun v hv=>by rw [← hdl];exact hv
     have hH:e d=.p (.bool w)→Holds ((d,w)::asm) e':=fun hd q hq=>by
      rcases List.mem_cons.1 hq with rfl | hq
      ·exact hw2 _ hd
      ·exact ha q hq
     -- what follows the choice
     have go:∀ (v:V) (h0:H) (e0':Env) (wc0 we0:Ws),RunsD bm mk G rec ops σ (grp++[pk]) we e' h we0 e0' h0→Holds asm e0'→Agr (za ops (opsAt ops rest) m) (put e (ops.getD pk default).dst v) e0'→cvDr bm mk G rec ops σ n asm m rest wc0 (put e (ops.getD pk default).dst v) h0 α k=some r →
       Cov ops rest wc0 we0→∃ e1 e1' h1 wc1 we1,k wc1 e1 h1=some r∧Agr m e1 e1'∧RunsD bm mk G rec ops σ (i::l) we e' h we1 e1' h1∧(noPick ops (i::l)=true→∀ l2,Cov ops l2 wc we→Cov ops l2 wc1 we1):=fun v h0 e0' wc0 we0 g1 g2 g3 g4 hC=>by
      obtain ⟨e1,e1',h1,wc1,we1,q1,q2,q3,_⟩:=z1p n asm m rest wc0 we0 _ e0' h0 α k r g4 hC g2 g3
      refine ⟨e1,e1',h1,wc1,we1,q1,q2,?_,fun hn=>(hnot hn).elim⟩
      rw [hos,show grp++pk::rest=(grp++[pk])++rest by simp]
      exact g1.append q3
     have pass:∀ (x:Operand) (h0:H) (wc0 we0:Ws) (e1 e1':Env),x=(if w then a else b)→e d=.p (.bool w)→Agr (opdM x) e1 e1'→RunsD bm mk G rec ops σ grp we e' h we0 e1' h0→Cov ops rest wc0 we0→cvDr bm mk G rec ops σ n asm m rest wc0 (put e (ops.getD pk default).dst (opd e1 x)) h0 α k=some r →
       ∃ e1 e1' h1 wc1 we1,k wc1 e1 h1=some r∧Agr m e1 e1'∧RunsD bm mk G rec ops σ (i::l) we e' h we1 e1' h1∧(noPick ops (i::l)=true→∀ l2,Cov ops l2 wc we→Cov ops l2 wc1 we1):=fun x h0 wc0 we0 e1 e1' hx hd q2 q3 hC g=>by
      subst hx
      obtain ⟨p1,p2,p3⟩:=zbl (rest:=rest) (m:=m) hpk ha (hw2 _ hd) he c2 c3 c4' c5 hnd q3 q2
      exact go _ _ _ _ _ p1 p2 p3 g hC
     have cov1:waits ops (maskI ops grp) rest=true→∀ {we0:Ws},(∃ ex:Ws,we0=ex++we∧∀ q∈ex,q.1∈grp∧usesH (ops.getD q.1 default).op=true)→Cov ops rest wc we0:=fun c6 we0 ⟨ex,hex,hin⟩ j hj hp h hq q hm=>by
      rw [hex] at hm
      rcases List.mem_append.1 hm with hm | hm
      ·exact .inl ((za8 c6 j hj).2 hp _ (zac (hin q hm).2 (hin q hm).1))
      ·exact hWr j hj hp h hq q hm
     have byp:∀ (x:Operand),x=(if w then b else a)→e d=.p (.bool !w)→(∀ i∈grp,isPure (ops.getD i default).op=false→∀ q∈wc,(anc ops i).testBit q.1=true∨q.2 h)→cvDr bm mk G rec ops σ n asm m rest wc (put e (ops.getD pk default).dst (opd e x)) h α k=some r →
       ∃ e1 e1' h1 wc1 we1,k wc1 e1 h1=some r∧Agr m e1 e1'∧RunsD bm mk G rec ops σ (i::l) we e' h we1 e1' h1∧(noPick ops (i::l)=true→∀ l2,Cov ops l2 wc we→Cov ops l2 wc1 we1):=fun x hx hd hall g=>by
      subst hx
      obtain ⟨e1',ws1,p1,⟨_,ex,hex,hin⟩,p2,p3⟩:=zb9 (G:=G) (rec:=rec) (σ:=σ) (ws:=we) (h:=h) (rest:=rest) (m:=m) hpk ha (hw2 _ hd) he c2 c3 c4' c5 c1 (fun j hj hp=>hWg j hj hp h (hall j hj hp))
      refine go _ _ _ _ _ p1 p2 p3 g fun j hj hp h hq q hm=>?_
      rw [hex] at hm
      rcases List.mem_append.1 hm with hm | hm
      ·exact .inr (hin q hm h)
      ·exact hWr j hj hp h hq q hm
     cases c6:waits ops (maskI ops grp) rest with
     | true =>
      rw [c6] at hx
      simp only at hx
      split at hx
      ·-- of a truth alone
       rename_i hpure hty
       obtain ⟨v,hv,hx1⟩:=Option.bind_eq_some_iff.1 hx
       obtain ⟨c,hc,hv1⟩:=Option.bind_eq_some_iff.1 hv
       have hd:=zu hc
       cases w<;>cases c<;>simp only at hv1
       ·obtain ⟨e1,e1',h0,wc0,we0,q1,q2,q3,_⟩:=z1p n _ _ grp wc we e e' h Bool _ v hv1 hWg (hH hd) h2
        have hb:=zu q1
        obtain rfl:=q3.heap hpure
        exact pass b _ _ _ e1 e1' rfl hd q2 q3 (cov1 c6 q3.more) (by rw [hb];exact hx1)
       ·obtain ⟨hv2,hall⟩:=z2c hv1
        have hb:=zu hv2
        exact byp a rfl hd hall (by rw [hb];exact hx1)
       ·obtain ⟨hv2,hall⟩:=z2c hv1
        have hb:=zu hv2
        exact byp b rfl hd hall (by rw [hb];exact hx1)
       ·obtain ⟨e1,e1',h0,wc0,we0,q1,q2,q3,_⟩:=z1p n _ _ grp wc we e e' h Bool _ v hv1 hWg (hH hd) h1
        have hb:=zu q1
        obtain rfl:=q3.heap hpure
        exact pass a _ _ _ e1 e1' rfl hd q2 q3 (cov1 c6 q3.more) (by rw [hb];exact hx1)
      ·obtain ⟨⟨v,h0⟩,hv,hx1⟩:=Option.bind_eq_some_iff.1 hx
       have hx2:=z30 hx1
       obtain ⟨c,hc,hv1⟩:=Option.bind_eq_some_iff.1 hv
       have hd:=zu hc
       cases w<;>cases c<;>simp only at hv1
       ·obtain ⟨e1,e1',h0',wc0,we0,q1,q2,q3,_⟩:=z1p n _ _ grp wc we e e' h (V×H) _ _ hv1 hWg (hH hd) h2
        simp only [Option.some.injEq,Prod.mk.injEq] at q1
        obtain ⟨rfl,rfl⟩:=q1
        exact pass b _ _ _ e1 e1' rfl hd q2 q3 (cov1 c6 q3.more) hx2
       ·obtain ⟨hv2,hall⟩:=z2c hv1
        simp only [Option.some.injEq,Prod.mk.injEq] at hv2
        obtain ⟨rfl,rfl⟩:=hv2
        exact byp a rfl hd hall hx2
       ·obtain ⟨hv2,hall⟩:=z2c hv1
        simp only [Option.some.injEq,Prod.mk.injEq] at hv2
        obtain ⟨rfl,rfl⟩:=hv2
        exact byp b rfl hd hall hx2
       ·obtain ⟨e1,e1',h0',wc0,we0,q1,q2,q3,_⟩:=z1p n _ _ grp wc we e e' h (V×H) _ _ hv1 hWg (hH hd) h1
        simp only [Option.some.injEq,Prod.mk.injEq] at q1
        obtain ⟨rfl,rfl⟩:=q1
        exact pass a _ _ _ e1 e1' rfl hd q2 q3 (cov1 c6 q3.more) hx2
     | false =>
      rw [c6] at hx
      simp only at hx
      split at hx
      ·-- what was read in the group is looked at behind it
       rename_i hpn hty
       simp only [Bool.and_eq_true] at hpn
       obtain ⟨c,hc,hv1⟩:=Option.bind_eq_some_iff.1 hx
       have hd:=zu hc
       cases w<;>cases c<;>simp only at hv1
       ·obtain ⟨e1,e1',h0,wc0,we0,q1,q2,q3,q4⟩:=z1p n _ _ grp wc we e e' h α _ r hv1 hWg (hH hd) h2
        obtain ⟨v,hv,hx1⟩:=Option.bind_eq_some_iff.1 q1
        have hb:=zu hv
        obtain rfl:=q3.heap hpn.1
        exact pass b _ _ _ e1 e1' rfl hd q2 q3 (q4 hpn.2 _ hWr) (by rw [hb];exact hx1)
       ·obtain ⟨hv2,hall⟩:=z2c hv1
        obtain ⟨v,hv,hx1⟩:=Option.bind_eq_some_iff.1 hv2
        have hb:=zu hv
        exact byp a rfl hd hall (by rw [hb];exact hx1)
       ·obtain ⟨hv2,hall⟩:=z2c hv1
        obtain ⟨v,hv,hx1⟩:=Option.bind_eq_some_iff.1 hv2
        have hb:=zu hv
        exact byp b rfl hd hall (by rw [hb];exact hx1)
       ·obtain ⟨e1,e1',h0,wc0,we0,q1,q2,q3,q4⟩:=z1p n _ _ grp wc we e e' h α _ r hv1 hWg (hH hd) h1
        obtain ⟨v,hv,hx1⟩:=Option.bind_eq_some_iff.1 q1
        have hb:=zu hv
        obtain rfl:=q3.heap hpn.1
        exact pass a _ _ _ e1 e1' rfl hd q2 q3 (q4 hpn.2 _ hWr) (by rw [hb];exact hx1)
      ·simp at hx
    ·rw [Bool.not_eq_true] at hchk
     rw [hchk] at hx
     simp at hx
  ·simp at hx
end
end Go.Ev
namespace Go.Ev
set_option linter.unusedVariables false

abbrev LoopV:=Code→Lv→Stamp→Env→H→Option (Exit×Env×H)
noncomputable def cvC {α:Type} (G:Cfg) (rec:CallF) (loop:LoopV):Code→Lv→Stamp→Env→H→(Exit→Env→H→Option α)→Option α
 | .skip,_,_,e,h,k=>k .normal e h
 | .ret,_,_,e,h,k=>k .ret e h
 | .exit id,_,_,e,h,k=>k (.exit id) e h
 | .seq a b,l,σ,e,h,k=>cvC G rec loop a { l with norm:=liveC b l } (0::σ) e h fun x e h=>match x with
   | .normal=>cvC G rec loop b l (1::σ) e h k
   | x=>k x e h
 | .cond c a b,l,σ,e,h,k=>(asB (opd e c)).bind fun t=>match t with
   | true=>cvC G rec loop a l σ e h k
   | false=>cvC G rec loop b l σ e h k
 | .block id c,l,σ,e,h,k=>cvC G rec loop c { l with ex:=(id,l.norm)::l.ex } σ e h fun x e h=>match x with
   | .exit j=>if j=id then k .normal e h else k (.exit j) e h
   | x=>k x e h
 | .loop c,l,σ,e,h,k=>(loop c l σ (envM (liveL c l) e) h).bind fun r=>k r.1 r.2.1 r.2.2
 | .region _ ops false,l,σ,e,h,k=>cvOps G rec ops σ (ops.size+1) [] l.norm 0 ops.toList e h α (k .normal)
 | .region _ ops true,l,σ,e,h,k =>
  match z51 (drB ops) ops with
  | true=>(z1h (drB ops) (mkAt G ops e) ops G σ 0 ops.toList h).bind fun h=>needs 0 (allocW (drB ops) (mkAt G ops e) ops G σ 0 ops.toList) h (cvDr (drB ops) (mkAt G ops e) G rec ops σ (ops.size+1) [] l.norm (ordOf (drB ops) ops) (allocW (drB ops) (mkAt G ops e) ops G σ 0 ops.toList) e h α (fun _=>k .normal))
  | false=>none
 | _,_,_,_,_,_=>none
noncomputable def z1o (G:Cfg) (rec:CallF) (loop:LoopV) (c:Code) (l:Lv) (σ:Stamp) (e:Env) (h:H):Option (Exit×Env×H) :=
 match liveC c { l with norm:=liveL c l } ||| liveL c l==liveL c l with
 | true=>cvC G rec loop c { l with norm:=liveL c l } (0::σ) e h fun x e h=>match x with
  | .normal=>loop c l (1::σ) (envM (liveL c l) e) h
  | x=>some (x,envM (l.at x) e,h)
 | false=>none
def resM':List ResultVar→Nat
 | []=>0
 | .tmp t::rs=>2^t ||| resM' rs
 | .cell a _::rs=>2^a ||| resM' rs
noncomputable def cvBody (G:Cfg) (rec:CallF) (loop:LoopV) (f:FuncId) (σ:Stamp) (args:List V) (h:H):Option (List C×H) :=
 match G.P.funcs[f]? with
 | some fn=>(match fn.body with
  | some c => (match decide (args.length ≤ fn.ntmps) && (fits fn.ntmps c && !(fn.name == "runtime.NumGoroutine")) with
   | true=>cvC G rec loop c ⟨resM' fn.results.toList,resM' fn.results.toList,[]⟩ (0::σ) (envOf args) (List.replicate fn.ntmps []::h) (finC G (G.frz f) fn (1::σ))
   | false=>none)
  | none=>none)
 | none=>none

theorem z2w {P:Program} {ops:List Oper} {e e':Env}:∀ (n:Nat) (x:Operand),Agr (earlyM ops n x) e e'→earlyV P ops e n x=earlyV P ops e' n x
 | 0,_,_=>rfl
 | n+1,.const v,_=>rfl
 | n+1,.global v,_=>rfl
 | n+1,.func v,_=>rfl
 | n+1,.tmp t,h=>by
  simp only [earlyM] at h
  simp only [earlyV]
  split at h
  ·rename_i hf
   simp only [hf]
   exact h t (by rw [Nat.testBit_two_pow];simp)
  ·rename_i o hf
   simp only [hf]
   split at h
   ·rename_i y ho;simp only [ho];exact z2w n y h
   ·rename_i y ho;simp only [ho];exact z2w n y h
   ·rename_i h1 h2;cases ho:o.op<;>first | rfl | exact absurd ho (h1 _) | exact absurd ho (h2 _)
theorem zaa {ops:List Oper} {o:Oper}:∀ {os:List Oper},o∈os→∀ i,(makesM ops [o]).testBit i=true→(makesM ops os).testBit i=true
 | x::os,h,i,hi=>by
  simp only [makesM,Nat.testBit_or,Bool.or_eq_true] at hi ⊢
  rcases List.mem_cons.1 h with rfl | h
  ·rcases hi with hi | hi
   ·exact .inl hi
   ·simp at hi
  ·refine .inr (zaa h i ?_)
   simp only [makesM,Nat.testBit_or,Bool.or_eq_true];exact hi
theorem zcy {G:Cfg} {ops:Array Oper} {e e':Env} (h:Agr (makesM ops.toList ops.toList) e e'):mkAt G ops e=mkAt G ops e':=by
 funext i
 have key:∀ o:Oper,Agr (makesM ops.toList [o]) e e'→mkOf G o.op (earlyV G.P ops.toList e 4)=mkOf G o.op (earlyV G.P ops.toList e' 4):=fun o ho=>by
  cases hop:o.op<;>try rfl
  ·rename_i t x
   simp only [mkOf]
   rw [z2w 4 x (fun i hi=>ho i (by simp only [makesM,hop,Nat.testBit_or,hi,Bool.true_or]))]
  ·rename_i t n c
   simp only [mkOf]
   rw [z2w 4 n (fun i hi=>ho i (by simp only [makesM,hop,Nat.testBit_or,hi,Bool.true_or])),z2w 4 c (fun i hi=>ho i (by simp only [makesM,hop,Nat.testBit_or,hi,Bool.true_or,Bool.or_true]))]
 unfold mkAt
 by_cases hi:i<ops.size
 ·refine key _ fun j hj=>h j (zaa (o:=ops.getD i default) ?_ j hj)
  rw [Array.getD_eq_getD_getElem?,Array.getElem?_eq_getElem hi]
  exact Array.mem_toList_iff.2 (Array.getElem_mem hi)
 ·rw [show ops.getD i default=default by rw [Array.getD_eq_getD_getElem?,Array.getElem?_eq_none (by omega)];rfl]
  rfl

def z47 (loop:LoopV) (L:LoopF):Prop :=
 ∀ c l σ e h x e1 h1,loop c l σ e h=some (x,e1,h1)→∀ e',Agr (liveL c l) e e'→∃ e1',L c σ e' h=some (x,e1',h1)∧Agr (l.at x) e1 e1'
section
variable {G:Cfg} {rec:CallF} {loop:LoopV} {L:LoopF}
theorem cvC_ok (hl:z47 loop L):∀ (c:Code) (l:Lv) (σ:Stamp) (e e':Env) (h:H) (α β:Type) (k:Exit→Env→H→Option α) (k':Exit→Env→H→Option β) (r:α) (Q:β→Prop),Agr (liveC c l) e e' →
  (∀ x e e' h,Agr (l.at x) e e'→k x e h=some r→∃ s,k' x e' h=some s∧Q s)→cvC G rec loop c l σ e h k=some r→∃ s,evC G rec L c σ e' h k'=some s∧Q s:=by
 intro c
 induction c with
 | skip=>intro l σ e e' h α β k k' r Q ha hk hx;exact hk _ _ _ _ ha hx
 | ret=>intro l σ e e' h α β k k' r Q ha hk hx;exact hk _ _ _ _ ha hx
 | exit id=>intro l σ e e' h α β k k' r Q ha hk hx;exact hk _ _ _ _ ha hx
 | seq a b iha ihb =>
  intro l σ e e' h α β k k' r Q ha hk hx
  simp only [cvC,evC] at hx ⊢
  refine iha _ _ _ e' _ _ _ _ _ r Q ha (fun x e e' h hag hx=>?_) hx
  cases x with
  | normal=>exact ihb _ _ _ _ _ _ _ _ _ r Q hag hk hx
  | _=>exact hk _ _ _ _ hag hx
 | cond c a b iha ihb =>
  intro l σ e e' h α β k k' r Q ha hk hx
  simp only [cvC,evC] at hx ⊢
  simp only [liveC] at ha
  obtain ⟨t,ht,hx'⟩:=Option.bind_eq_some_iff.1 hx
  rw [← zeq (ha.sub (z8d _ _)),ht,Option.bind_some]
  cases t with
  | true=>exact iha _ _ _ _ _ _ _ _ _ r Q (ha.sub ((z8d _ _).trans (z3y _ _))) hk hx'
  | false=>exact ihb _ _ _ _ _ _ _ _ _ r Q (ha.sub ((z3y _ _).trans (z3y _ _))) hk hx'
 | block id c ih =>
  intro l σ e e' h α β k k' r Q ha hk hx
  simp only [cvC,evC] at hx ⊢
  refine ih _ _ _ _ _ _ _ _ _ r Q ha (fun x e e' h hag hx=>?_) hx
  cases x with
  | exit j =>
   simp only [Lv.at,lookN] at hx hag ⊢
   split at hx
   ·rename_i hj;rw [if_pos hj] at hag ⊢;exact hk _ _ _ _ hag hx
   ·rename_i hj;rw [if_neg hj] at hag ⊢;exact hk _ _ _ _ hag hx
  | _=>exact hk _ _ _ _ hag hx
 | loop c ih =>
  intro l σ e e' h α β k k' r Q ha hk hx
  simp only [cvC,evC] at hx ⊢
  obtain ⟨⟨x,e1,h1⟩,hy,hx'⟩:=Option.bind_eq_some_iff.1 hx
  have hag:Agr (liveL c l) (envM (liveL c l) e) e':=fun i hi=>by rw [z41 _ e i hi];exact ha i hi
  obtain ⟨e1',q1,q2⟩:=hl _ _ _ _ _ _ _ _ hy e' hag
  rw [q1,Option.bind_some]
  exact hk _ _ _ _ q2 hx'
 | region id ops dr =>
  intro l σ e e' h α β k k' r Q ha hk hx
  cases dr with
  | false =>
   simp only [cvC,evC] at hx ⊢
   obtain ⟨e1,e1',h1,q1,q2,q3⟩:=z2v _ _ _ _ _ _ e' _ _ _ r hx (fun q hq=>by simp at hq) ha
   have:=q3.2 β (k' .normal) []
   simp only [List.append_nil,evOps] at this
   rw [this]
   exact hk .normal _ _ _ q2 q1
  | true =>
   have ha1:Agr (za ops (zci ops) l.norm) e e':=ha.sub fun i hi=>by simp only [liveC,Nat.testBit_or,hi,Bool.true_or]
   have hmk:mkAt G ops e'=mkAt G ops e:=(zcy (ha.sub fun i hi=>by simp only [liveC,Nat.testBit_or,hi,Bool.or_true])).symm
   simp only [cvC,evC] at hx ⊢
   rw [hmk]
   split at hx
   ·rename_i hsd
    obtain ⟨y,hy,hx'⟩:=Option.bind_eq_some_iff.1 hx
    simp only [hsd,hy,Option.bind_some]
    obtain ⟨hn,hx2⟩:=z2e hx'
    obtain ⟨e1,e1',h1,wc1,we1,q1,q2,q3,_⟩:=z1p _ _ _ _ _ (allocW (drB ops) (mkAt G ops e) ops G σ 0 ops.toList) _ e' _ _ _ r hx2 (fun _ _ _ _ hq=>hq) (fun q hq=>by simp at hq) ha1
    rw [z5o hn]
    have:=q3.run β (k' .normal) []
    rw [List.append_nil] at this
    rw [this]
    exact hk .normal _ _ _ q2 q1
   ·simp at hx
 | _=>intro l σ e e' h α β k k' r Q ha hk hx;simp [cvC] at hx
theorem zco (hl:z47 loop L) {c:Code} {l:Lv} {σ:Stamp} {e e':Env} {h:H} {x:Exit} {e1:Env} {h1:H} (hx:z1o G rec loop c l σ e h=some (x,e1,h1)) (ha:Agr (liveL c l) e e') :
  ∃ e1',z26 G rec L c σ e' h=some (x,e1',h1)∧Agr (l.at x) e1 e1':=by
 unfold z1o at hx
 split at hx
 ·rename_i hsub
  obtain ⟨⟨x',e1',h1'⟩,q1,rfl,rfl,q2⟩:=cvC_ok (G:=G) (rec:=rec) hl c { l with norm:=liveL c l } (0::σ) e e' h (Exit×Env×H) (Exit×Env×H) _
   (fun x e h=>match x with | .normal=>L c (1::σ) e h | x=>some (x,e,h)) (x,e1,h1) (fun y=>y.1=x∧y.2.2=h1∧Agr (l.at x) e1 y.2.1) (ha.sub (zdb hsub)) (fun x0 e0 e0' h0 hag hx0=>by
    cases x0 with
    | normal =>
     have hag2:Agr (liveL c l) (envM (liveL c l) e0) e0':=fun i hi=>by rw [z41 _ e0 i hi];exact hag i hi
     obtain ⟨e2',q1,q2⟩:=hl _ _ _ _ _ _ _ _ hx0 e0' hag2
     exact ⟨_,q1,rfl,rfl,q2⟩
    | _ =>
     simp only [Option.some.injEq,Prod.mk.injEq] at hx0
     obtain ⟨rfl,rfl,rfl⟩:=hx0
     exact ⟨_,rfl,rfl,rfl,fun i hi=>by rw [z41 _ e0 i hi];exact hag i hi⟩) hx
  exact ⟨e1',q1,q2⟩
 ·simp at hx
theorem z68 {P:Program} {h:H}:∀ (rs:List ResultVar) {e e':Env},Agr (resM' rs) e e'→z1i P e h rs=z1i P e' h rs
 | [],e,e',_=>rfl
 | .tmp t::rs,e,e',ha=>by
  simp only [resM'] at ha
  have h1:e t=e' t:=ha t (by rw [Nat.testBit_or,Nat.testBit_two_pow];simp)
  simp only [z1i,h1,z68 rs (ha.sub (z3y _ _))]
 | .cell a t::rs,e,e',ha=>by
  simp only [resM'] at ha
  have h1:e a=e' a:=ha a (by rw [Nat.testBit_or,Nat.testBit_two_pow];simp)
  simp only [z1i,h1,z68 rs (ha.sub (z3y _ _))]
theorem zdg (hl:z47 loop L) {f:FuncId} {σ:Stamp} {args:List V} {h:H} {r:List C×H} (hx:cvBody G rec loop f σ args h=some r):evBody G rec L f σ args h=some r:=by
 unfold cvBody at hx
 unfold evBody
 split at hx
 ·rename_i fn hfn
  split at hx
  ·rename_i c hc
   split at hx
   ·rename_i hcond
    simp only [Bool.and_eq_true,decide_eq_true_eq,Bool.not_eq_true'] at hcond
    simp only [hfn,hc]
    rw [if_pos hcond]
    obtain ⟨s,q1,rfl⟩:=cvC_ok (G:=G) (rec:=rec) hl c _ (0::σ) _ _ _ _ (List C×H) _ (finC G (G.frz f) fn (1::σ)) r (fun s=>s=r) (Agr.refl _ _) (fun x e e' h hag hx0=>by
     refine ⟨r,?_,rfl⟩
     rw [← hx0]
     unfold finC
     cases x with
     | normal=>simp only [Lv.at] at hag;simp only [z68 _ hag]
     | ret=>simp only [Lv.at] at hag;simp only [z68 _ hag]
     | _=>rfl) hx
    exact q1
   ·simp at hx
  ·simp at hx
 ·simp at hx
end

open Classical in
noncomputable def cvL (G:Cfg) (X:CallF):LoopV:=fun c l σ e h =>
 match evL G X c σ e h with
 | some (x,e1,h1)=>if ∀ e',Agr (liveL c l) e e'→∃ e1',evL G X c σ e' h=some (x,e1',h1)∧Agr (l.at x) e1 e1' then some (x,envM (l.at x) e1,h1) else none
 | none=>none
section
variable {G:Cfg} {X:CallF}
theorem z7i:z47 (cvL G X) (evL G X):=by
 intro c l σ e h x e1 h1 hx e' ha
 unfold cvL at hx
 split at hx
 ·rename_i x0 e0 h0 hev
  split at hx
  ·rename_i hall
   simp only [Option.some.injEq,Prod.mk.injEq] at hx
   obtain ⟨rfl,rfl,rfl⟩:=hx
   obtain ⟨e1',q1,q2⟩:=hall e' ha
   exact ⟨e1',q1,fun i hi=>by rw [z41 _ e0 i hi];exact q2 i hi⟩
  ·simp at hx
 ·simp at hx
theorem zap {c:Code} {l:Lv} {σ:Stamp} {e:Env} {h:H} {x:Exit} {e1:Env} {h1:H} (hl:∀ c l σ e h x e1 h1,cvL G X c l σ e h=some (x,e1,h1)→e1=envM (l.at x) e1) (hx:z1o G (ev G X) (cvL G X) c l σ e h=some (x,e1,h1)):e1=envM (l.at x) e1:=by
 unfold z1o at hx
 split at hx
 ·have hs:z47 (fun c l σ e h=>cvL G X c l σ e h) (evL G X):=z7i
  obtain ⟨s,_,hs2⟩:=cvC_ok (G:=G) (rec:=ev G X) hs c { l with norm:=liveL c l } (0::σ) e e h (Exit×Env×H) Unit _
   (fun _ _ _=>some ()) (x,e1,h1) (fun _=>e1=envM (l.at x) e1) (Agr.refl _ _) (fun x0 e0 e0' h0 hag hx0=>by
    refine ⟨(),rfl,?_⟩
    cases x0 with
    | normal=>exact hl _ _ _ _ _ _ _ _ hx0
    | _ =>
     simp only [Option.some.injEq,Prod.mk.injEq] at hx0
     obtain ⟨rfl,rfl,rfl⟩:=hx0
     exact (z9m (z41 _ _)).symm) hx
  exact hs2
 ·simp at hx
theorem zdj (c:Code) (l:Lv) (σ:Stamp) (e:Env) (h:H) (x:Exit) (e1:Env) (h1:H) (hx:cvL G X c l σ e h=some (x,e1,h1)):e1=envM (l.at x) e1:=by
 unfold cvL at hx
 split at hx
 ·split at hx
  ·simp only [Option.some.injEq,Prod.mk.injEq] at hx
   obtain ⟨rfl,rfl,rfl⟩:=hx
   exact (z9m (z41 _ _)).symm
  ·simp at hx
 ·simp at hx
theorem zd7 {c:Code} {l:Lv} {σ:Stamp} {e:Env} {h:H} {r:Exit×Env×H} (hx:z1o G (ev G X) (cvL G X) c l σ e h=some r):cvL G X c l σ e h=some r:=by
 obtain ⟨x,e1,h1⟩:=r
 have hc:=zap zdj hx
 have all:∀ e',Agr (liveL c l) e e'→∃ e1',evL G X c σ e' h=some (x,e1',h1)∧Agr (l.at x) e1 e1':=fun e' ha=>by
  obtain ⟨e1',q1,q2⟩:=zco z7i hx ha
  exact ⟨e1',zdk q1,q2⟩
 obtain ⟨e2,q1,q2⟩:=all e (Agr.refl _ _)
 unfold cvL
 rw [q1]
 simp only
 rw [if_pos]
 ·rw [hc,z9m q2]
 ·intro e' ha
  obtain ⟨e3,q3,q4⟩:=all e' ha
  exact ⟨e3,q3,fun i hi=>by rw [← q2 i hi];exact q4 i hi⟩
theorem ev_cv {f:FuncId} {σ:Stamp} {a:List V} {h:H} {x:List C×H} (hX:X f σ a h=none) (hx:cvBody G (ev G X) (cvL G X) f σ a h=some x):ev G X f σ a h=some x:=zez hX (zdg z7i hx)
end
end Go.Ev
namespace Go.Ev
set_option linter.unusedVariables false
def bodyOf (fn:Func):Code:=fn.body.getD .skip
def codeAt:Code→List Nat→Code
 | c,[]=>c
 | .seq a b,i::p=>if i=0 then codeAt a p else codeAt b p
 | .cond _ a b,i::p=>if i=0 then codeAt a p else codeAt b p
 | .block _ c,_::p=>codeAt c p
 | .loop c,_::p=>codeAt c p
 | c,_::_=>c
noncomputable def kSeq {α:Type} (G:Cfg) (rec:CallF) (loop:LoopV) (b:Code) (l:Lv) (σ:Stamp) (K:Exit→Env→H→Option α):Exit→Env→H→Option α:=fun x e h=>match x with
 | .normal=>cvC G rec loop b l (1::σ) e h K
 | x=>K x e h
def kBlock {α:Type} (id:Nat) (K:Exit→Env→H→Option α):Exit→Env→H→Option α:=fun x e h=>match x with
 | .exit j=>if j=id then K .normal e h else K (.exit j) e h
 | x=>K x e h
noncomputable def kRound (loop:LoopV) (c:Code) (l:Lv) (σ:Stamp):Exit→Env→H→Option (Exit×Env×H):=fun x e h=>match x with
 | .normal=>loop c l (1::σ) (envM (liveL c l) e) h
 | x=>some (x,envM (l.at x) e,h)
def fin (frz:Bool) (σ:Stamp) (h:H) (vs:List V):Option (List C×H):=(expCs frz (1::σ) 0 h vs).map fun (cs,h)=>(cs,h.tail)
def callO (rec:CallF) (f:FuncId) (σ:Stamp) (args:List V) (h:H) (d:Option Nat):Option (V×H):=(rec f σ args h).map fun r=>land r.2 d r.1
def cloO (rec:CallF) (f:V) (σ:Stamp) (args:List V) (h:H) (d:Option Nat):Option (V×H):=match f with
 | .clo g caps=>(rec g σ (args++caps) h).map fun r=>land r.2 d r.1
 | _=>none
def ldO (agg:Bool) (n:Nat) (h:H) (a:V):Option V :=
 match a with
 | .ref l off=>(nd h l).bind fun cs=>(rng cs off n).bind fun cs=>(toVs l off cs).bind (mkV agg)
 | .fzp cs=>(rng cs 0 n).bind (mkV agg)
 | _=>none
def fA (x:V) (o:Nat):Option V :=
 match x with
 | .ref l off=>some (.ref l (off+o))
 | .fzp cs=>if o≤cs.length then some (.fzp (cs.drop o)) else none
 | _=>none
def iS (e:Nat) (x:V) (i:Int):Option V :=
 match x with
 | .sl l off len _ esz=>if esz=e∧0≤i∧i<len then some (.ref l (off+i.toNat*esz)) else none
 | .fz cs len esz _=>if esz=e∧0≤i∧i<len then some (.fzp (cs.drop (i.toNat*esz))) else none
 | .ref _ _=>none
 | _=>none
def bI (x:Option Int) (dflt lim:Nat):Option Nat :=
 match x with
 | none=>some dflt
 | some i=>if 0≤i∧i≤lim then some i.toNat else none
def slS (e:Nat) (x:V) (lo hi mx:Option Int):Option V :=
 match x with
 | .p (.string _)=>none
 | .p (.slice none 0 0)=>(bI mx 0 0).bind fun _=>(bI hi 0 0).bind fun _=>(bI lo 0 0).bind fun _=>some (.p (.slice none 0 0))
 | .sl l off len av esz=>if esz≠e then none else
  (bI mx av av).bind fun m=>(bI hi len m).bind fun b=>(bI lo 0 b).bind fun a =>
  if mx.isSome∧m=a then some (.fz [] 0 esz true) else some (.sl l (off+a*esz) (b-a) (m-a) esz)
 | .fz cs len esz tight=>if esz≠e then none else
  (bI mx len len).bind fun m=>(bI hi len m).bind fun b=>(bI lo 0 b).bind fun a =>
  some (.fz ((cs.drop (a*esz)).take ((b-a)*esz)) (b-a) esz (tight&&b==m))
 | .ref _ _=>none
 | _=>none
def lenO (x:V):Option V :=
 match x with
 | .p (.string s)=>none
 | x=>(lenOf x).map fun (n:Nat)=>V.p (Value.int .i64 (n:Int))
def toS (h:H) (x:V):Option V :=
 if isSl x=true∧true=true then
  (cellsOf h x).bind fun cs=>(lenOf x).bind fun n=>if cs.length=n then (z23 cs).map fun bs=>.p (.string ⟨bs.toArray⟩) else none
 else none
def strO (h:H) (x:V):Option V :=
 match x with
 | .p (.string s)=>some (.p (.string s))
 | x=>toS h x
def stO (own:Bool) (n:Nat) (σ:Stamp) (h:H) (a x:V):Option H :=
 match a with
 | .ref l off =>
  if (!true||x.cells.length != n)=true then none else
  (nd h l).bind fun cs =>
  match z3e l off cs[off]? x with
  | true=>(cutArr σ cs[off]? x).map fun c=>setNd h l (cs.set off c)
  | false=>(layCs own h x.cells).bind fun q=>(nd q.2 l).bind fun cs =>
    if off+q.1.length≤cs.length then some (setNd q.2 l (cs.take off++q.1++cs.drop (off+q.1.length))) else none
 | _=>none
def boxO (own:Bool) (σ:Stamp) (d:Nat) (h:H) (x:V):Option (V×H) :=
 (layCs own h x.cells).bind fun (cs,h)=>some (.ref (newLoc h d σ) 0,zf h d [.own σ cs])
def apTo (e b:Nat) (σ:Stamp) (d:Nat) (h:H) (n:Nat) (ds:List C) (x:V):Option (V×H) :=
 match x with
 | .p (.slice none 0 0) =>
  if n*b≤2^47∧n<2^61 then
   some (.sl (newLoc h d σ) 0 n n e,zf h d [.arr σ n e ds]) else none
 | .fz cs len esz tight =>
  if tight=true∧esz=e∧cs.length=len*esz∧(len+n)*b≤2^47∧len+n<2^61∧cs.all leafV then
   some (.sl (newLoc h d σ) 0 (len+n) (len+n) esz,zf h d [.arr σ (len+n) esz (cs.map .v++ds)]) else none
 | .sl l off len av esz =>
  if esz≠e then none else
  (nd h l).bind fun cs =>
  if len+n≤av∧off+len*esz+ds.length≤cs.length then
   some (.sl l off (len+n) av esz,setNd h l (cs.take (off+len*esz)++ds++cs.drop (off+len*esz+ds.length)))
  else if off=0∧cs.length=len*esz∧(len+n)*b≤2^47∧len+n<2^61 then
   some (.sl (newLoc h d σ) 0 (len+n) (len+n) esz,zf (setAt h l .dead) d [.arr σ (len+n) esz (cs++ds)])
  else none
 | _=>none
def apO (own:Bool) (e b:Nat) (σ:Stamp) (d:Nat) (h:H) (x y:V):Option (V×H) :=
 (lenOf y).bind fun n=>(cellsOf h y).bind fun ys =>
 if e≠e∨ys.length≠n*e∨e=0 then none else
 if n=0 then (if isSl x then some (x,h) else none) else
 (layCs own h ys).bind fun q=>apTo e b σ d q.2 n q.1 x
def cpO (e:Nat) (h:H) (x y:V):Option (V×H) :=
 (lenOf x).bind fun n=>(lenOf y).bind fun m=>(cellsOf h y).bind fun ys =>
 if ys.length≠m*e then none else
 if !isSl x then none else
 if min m n=0 then some (V.p (.int .i64 0),h) else
 if eszIs x e then (ovO h x (min m n) (ys.take (min m n*e))).map fun h=>(V.p (.int .i64 ((min m n:Nat):Int)),h) else none
where ovO (h:H) (x:V) (n:Nat) (ys:List V):Option H :=
 match x with
 | .sl l off len _ esz =>
  if ys.length≠n*esz∨n>len∨n=0 then none else
  (layCs true h ys).bind fun q=>(nd q.2 l).bind fun cs =>
  if off+q.1.length≤cs.length then some (setNd q.2 l (cs.take off++q.1++cs.drop (off+q.1.length))) else none
 | _=>none
def mkO (e b:Nat) (z:List V) (σ:Stamp) (d:Nat) (h:H) (n c:Int):Option (V×H) :=
 if 0≤n∧n≤c∧c*b≤2^47∧c<2^62∧z.length=e∧e≠0 then
  some (.sl (newLoc h d σ) 0 n.toNat c.toNat e,zf h d [.arr σ n.toNat e ((rept n.toNat z).map .v)])
 else none
def mkMO (e b:Nat) (z:List V) (n c:Int):Option Made:=if 0≤n∧n≤c∧c*b≤2^47∧c<2^62∧z.length=e∧e≠0 then some (rept n.toNat z,some (n.toNat,c.toNat,e)) else none
def alO (z:List V) (σ:Stamp) (d:Nat) (h:H):V×H:=(.ref (newLoc h d σ) 0,zf h d [.own σ (z.map .v)])
end Go.Ev
namespace Go.Ev
set_option linter.unusedVariables false
abbrev iV (k:IntKind) (n:Int):V:=.p (.int k n)
abbrev bV (b:Bool):V:=.p (.bool b)

@[simp] theorem castI_p (k:IntKind) (n:Int):castI k (.p (.int k n))=some n:=by simp [castI]
@[simp] theorem asB_p (b:Bool):asB (.p (.bool b))=some b:=rfl
@[simp] theorem castS_p (s:ByteArray):castS (.p (.string s))=some s:=rfl
@[simp] theorem nilChk_ref (l:Loc) (o:Nat):nilChk (.ref l o)=some (.ref l o):=rfl
@[simp] theorem nilChk_fzp (cs:List V):nilChk (.fzp cs)=some (.fzp cs):=rfl
@[simp] theorem fA_ref (l:Loc) (o k:Nat):fA (.ref l o) k=some (.ref l (o+k)):=rfl
@[simp] theorem top_cons (L:Layer) (h:H):top (L::h)=h.length:=by simp [top]
@[simp] theorem setSlot_cons (L:Layer) (h:H) (d:Nat) (cs:List C):zf (L::h) d cs=L.set d cs::h:=rfl
@[simp] theorem newLoc_cons (L:Layer) (h:H) (d:Nat) (σ:Stamp):newLoc (L::h) d σ=⟨h.length,d,0,σ,[]⟩:=by simp [newLoc]

section
variable {rec:CallF} {f:FuncId} {σ:Stamp} {args:List V} {h h':H} {d:Option Nat}
theorem zcj {d:Nat} {x:V} (hc:rec f σ args h=some ([.v x],h')):callO rec f σ args h (some d)=some (x,h'):=by
 unfold callO;rw [hc];rfl
theorem zd2 {d:Nat} {L:Layer} {s:Stamp} {n e:Nat} {cs:List C} (hc:rec f σ args h=some ([.arr s n e cs],L::h')):callO rec f σ args h (some d)=some (.sl ⟨h'.length,d,0,s,[]⟩ 0 n n e,L.set d [.arr s n e cs]::h'):=by
 unfold callO;rw [hc];simp [land,resVs,tupV,z3z]
@[simp] theorem extV_tup (vs:List V) (i:Nat):extV (.tup vs) i=vs[i]?:=rfl
end

theorem nd_lt {h:H} {l:Loc} {cs:List C} (hn:nd h l=some cs):l.lvl<h.length:=by
 obtain ⟨c,hc⟩:=z4i hn
 clear hn
 induction h with
 | nil=>simp [rootC] at hc
 | cons L h ih =>
  simp only [rootC] at hc
  simp only [List.length_cons]
  split at hc
  ·omega
  ·have:=ih hc;omega
theorem zch {h:H} {l:Loc} (L:Layer) (hl:l.lvl<h.length):rootC (L::h) l=rootC h l:=by
 simp only [rootC];rw [if_neg (by omega)]
theorem at_up {h:H} {l:Loc} (L:Layer) (hl:l.lvl<h.length):at_ (L::h) l=at_ h l:=by simp only [at_,zch L hl]
theorem nd_low {h:H} {l:Loc} (L:Layer) (hl:l.lvl<h.length):nd (L::h) l=nd h l:=by simp only [nd,at_up L hl]
theorem nd_up {h:H} {l:Loc} {cs:List C} (hn:nd h l=some cs) (L:Layer):nd (L::h) l=some cs:=by rw [nd_low L (nd_lt hn),hn]
theorem zd8 {h:H} {l:Loc} (L:Layer) (hl:l.lvl<h.length) (c:C):setAt (L::h) l c=L::setAt h l c:=by
 simp only [setAt,zch L hl]
 cases rootC h l with
 | none=>rfl
 | some x=>simp only [z9];rw [if_neg (by omega)]
theorem zdl {h:H} {l:Loc} (L:Layer) (hl:l.lvl<h.length) (cs:List C):setNd (L::h) l cs=L::setNd h l cs:=by
 simp only [setNd,at_up L hl]
 cases at_ h l with
 | none=>rfl
 | some x=>simp only [zd8 L hl]
theorem zdy {h:H} {l:Loc} {cs:List C} (hn:nd h l=some cs) (L:Layer) (cs':List C):setNd (L::h) l cs'=L::setNd h l cs':=zdl L (nd_lt hn) cs'
theorem nd_loc {L:Layer} {h:H} {d c:Nat} {s:Stamp}:nd (L::h) ⟨h.length,d,c,s,[]⟩=(L[d]?).bind fun cs=>(cs[c]?).bind fun x=>x.node s:=by
 simp only [nd,at_,rootC,if_true]
 cases L[d]? with
 | none=>rfl
 | some cs =>
  simp only [Option.bind_some]
  cases cs[c]? with
  | none=>rfl
  | some x =>
   simp only [Option.bind_some,find]
   cases hx:x.node s with
   | none=>simp
   | some y=>simp [Loc.last,hx]
theorem nd_own {L:Layer} {h:H} {d:Nat} {s:Stamp} {cs:List C} (hd:L[d]?=some [.own s cs]):nd (L::h) ⟨h.length,d,0,s,[]⟩=some cs:=by
 rw [nd_loc,hd];simp [C.node]
theorem nd_arr {L:Layer} {h:H} {d:Nat} {s:Stamp} {n e:Nat} {cs tl:List C} (hd:L[d]?=some (.arr s n e cs::tl)):nd (L::h) ⟨h.length,d,0,s,[]⟩=some cs:=by
 rw [nd_loc,hd];simp [C.node]
theorem z97 {L:Layer} {h:H} {d:Nat} {s:Stamp} {c:C} {old tl:List C} (hd:L[d]?=some (c::tl)) (hc:c.node s=some old) (cs:List C):setNd (L::h) ⟨h.length,d,0,s,[]⟩ cs=L.set d (c.withNode cs::tl)::h:=by
 have h1:at_ (L::h) ⟨h.length,d,0,s,[]⟩=some c:=by simp [at_,rootC,hd,find,hc]
 have h2:rootC (L::h) ⟨h.length,d,0,s,[]⟩=some c:=by simp [rootC,hd]
 simp only [setNd,h1,setAt,h2,repl,z9,if_true,hd,Option.getD_some,List.set_cons_zero]
theorem zd9 {L:Layer} {h:H} {d:Nat} {s:Stamp} {old tl:List C} (hd:L[d]?=some (.own s old::tl)) (cs:List C):setNd (L::h) ⟨h.length,d,0,s,[]⟩ cs=L.set d (.own s cs::tl)::h:=z97 (old:=old) hd (by simp [C.node]) cs
theorem zad {L:Layer} {h:H} {d:Nat} {s:Stamp} {n e:Nat} {old tl:List C} (hd:L[d]?=some (.arr s n e old::tl)) (cs:List C):setNd (L::h) ⟨h.length,d,0,s,[]⟩ cs=L.set d (.arr s n e cs::tl)::h:=z97 (old:=old) hd (by simp [C.node]) cs
theorem za1:∀ {hops:List (Nat×Stamp)} {c:C} {s:Stamp} {c0:C} (a b:C),find c s hops=some c0→(a.node (lastS s hops)).isSome→repl (repl c s hops a) s hops b=repl c s hops b
 | [],c,s,c0,a,b,h,_=>rfl
 | (o,s')::r,c,s,c0,a,b,h,ha=>by
  obtain ⟨cs,c',h1,h2,h3⟩:=z2y h
  have hl:lastS s ((o,s')::r)=lastS s' r:=rfl
  rw [hl] at ha
  have hlt:=(List.getElem?_eq_some_iff.1 h2).1
  rw [z21 h1 h2,z21 (cs:=cs.set o (repl c' s' r a)) (c':=repl c' s' r a) (z1y h1 _) (by simp [hlt]),z21 h1 h2,z4c,List.set_set,za1 a b h3 ha]
theorem zaf:∀ {hops:List (Nat×Stamp)} {c:C} {s:Stamp} {c0:C},find c s hops=some c0→repl c s hops c0=c
 | [],c,s,c0,h=>by
  simp only [find] at h
  split at h
  ·simp only [Option.some.injEq] at h;simp [repl,h]
  ·simp at h
 | (o,s')::r,c,s,c0,h=>by
  obtain ⟨cs,c',h1,h2,h3⟩:=z2y h
  have hlt:=(List.getElem?_eq_some_iff.1 h2).1
  rw [z21 h1 h2,zaf h3]
  rw [show cs.set o c'=cs from by
   rw [← (List.getElem?_eq_some_iff.1 h2).2];exact List.set_getElem_self ..]
  exact z6p h1
theorem z5e:∀ (h:H) (l:Loc) (a b:C),z9 (z9 h l a) l b=z9 h l b
 | [],_,_,_=>rfl
 | L::h,l,a,b=>by
  simp only [z9]
  split
  ·rename_i hl
   simp only [z9,if_pos hl]
   by_cases hs:l.slot<L.length
   ·rw [List.set_set]
    congr 2
    simp [hs,List.set_set]
   ·rw [List.set_eq_of_length_le (by simp;omega),List.set_eq_of_length_le (by omega),List.set_eq_of_length_le (by omega)]
  ·rename_i hl
   simp only [z9,z1a,if_neg hl]
   rw [z5e h l a b]
theorem z78:∀ {h:H} {l:Loc} {c:C},rootC h l=some c→z9 h l c=h
 | [],_,_,h=>by simp [rootC] at h
 | L::h,l,c,hr=>by
  simp only [rootC] at hr
  simp only [z9]
  split at hr
  ·rename_i hl
   rw [if_pos hl]
   obtain ⟨cs,h1,h2⟩:=Option.bind_eq_some_iff.1 hr
   have q1:=List.getElem?_eq_some_iff.1 h1
   have q2:=List.getElem?_eq_some_iff.1 h2
   rw [h1,Option.getD_some]
   congr 1
   rw [show cs.set l.comp c=cs from by rw [← q2.2];exact List.set_getElem_self ..]
   rw [← q1.2];exact List.set_getElem_self ..
  ·rename_i hl
   rw [if_neg hl,z78 hr]
theorem zc3 {h:H} {l:Loc} {cs:List C} (hn:nd h l=some cs) (a b:List C):setNd (setNd h l a) l b=setNd h l b:=by
 obtain ⟨c,hr⟩:=z4i hn
 unfold nd at hn
 cases ha:at_ h l with
 | none=>simp [ha] at hn
 | some c0 =>
  simp only [ha,Option.bind_some] at hn
  have hf:find c l.s l.hops=some c0:=by simpa [at_,hr] using ha
  have h1:((c0.withNode a).node (lastS l.s l.hops)).isSome:=by rw [← Loc.last_eq,z1y hn a];rfl
  have e:∀ x,setNd h l x=z9 h l (repl c l.s l.hops (c0.withNode x)):=fun x=>by simp [setNd,ha,setAt,hr]
  have h2:at_ (setNd h l a) l=some (c0.withNode a):=by
   rw [e];simp only [at_,z8i hr,Option.bind_some];exact zai hf _ h1
  have h3:rootC (setNd h l a) l=some (repl c l.s l.hops (c0.withNode a)):=by rw [e];exact z8i hr _
  have gen:∀ (g:H) (x y:C) (z:List C),at_ g l=some x→rootC g l=some y→setNd g l z=z9 g l (repl y l.s l.hops (x.withNode z)):=fun g x y z hx hy=>by simp [setNd,hx,setAt,hy]
  have e2:=gen _ _ _ b h2 h3
  rw [e2,e,e,z5e,za1 _ _ hf h1,z4c]
theorem zcx {h:H} {l:Loc} {cs:List C} (hn:nd h l=some cs):setNd h l cs=h:=by
 obtain ⟨c,hr⟩:=z4i hn
 unfold nd at hn
 cases ha:at_ h l with
 | none=>simp [ha] at hn
 | some c0 =>
  simp only [ha,Option.bind_some] at hn
  have hf:find c l.s l.hops=some c0:=by simpa [at_,hr] using ha
  have e:setNd h l cs=z9 h l (repl c l.s l.hops (c0.withNode cs)):=by simp [setNd,ha,setAt,hr]
  rw [e,z6p hn,zaf hf]
  exact z78 hr
theorem z2t:∀ {h:H} {l l':Loc} {c:C},(l.lvl,l.slot,l.comp)≠(l'.lvl,l'.slot,l'.comp)→rootC (z9 h l c) l'=rootC h l'
 | [],_,_,_,_=>rfl
 | L::h,l,l',c,hne=>by
  simp only [z9]
  split
  ·rename_i hl
   simp only [rootC]
   split
   ·rename_i hl'
    by_cases hs:l.slot=l'.slot
    ·have hc:l.comp≠l'.comp:=fun hc=>hne (by rw [hl,hl',hs,hc])
     by_cases hlt:l.slot<L.length
     ·rw [← hs]
      simp [hlt,List.getElem?_set_ne hc]
     ·rw [List.getElem?_eq_none (by simp;omega),List.getElem?_eq_none (by omega)]
    ·rw [List.getElem?_set_ne hs]
   ·rfl
  ·rename_i hl
   simp only [rootC,z1a]
   split
   ·rfl
   ·exact z2t hne
theorem z5k {h:H} {l l':Loc} {cs:List C} (hne:(l.lvl,l.slot,l.comp)≠(l'.lvl,l'.slot,l'.comp)):nd (setNd h l cs) l'=nd h l':=by
 unfold setNd
 split
 ·unfold setAt
  split
  ·simp only [nd,at_,z2t hne]
  ·rfl
 ·rfl
theorem nd_in {h:H} {l:Loc} {cs ds:List C} {o:Nat} {s:Stamp} {c:C} (hn:nd h l=some cs) (hc:cs[o]?=some c) (hd:c.node s=some ds):nd h (l.hop o s)=some ds:=by rw [nd_hop hn hc,hd]
theorem ze0 {h:H} {l:Loc} {cs ds:List C} {o:Nat} {s:Stamp} {c:C} (hn:nd h l=some cs) (hc:cs[o]?=some c) (hd:c.node s=some ds) (new:List C):setNd h (l.hop o s) new=setNd h l (cs.set o (c.withNode new)):=by
 have h1:at_ h (l.hop o s)=some c:=by rw [at_hop,hn];simp [hc,hd]
 simp only [setNd,h1]
 rw [z79 hn hc]
 rfl
end Go.Ev
namespace Go.Ev
set_option linter.unusedVariables false

theorem z7k:∀ {l:Loc} {o n:Nat} {cs:List C} {xs:List V},toVs l o cs=some xs→toVs l o (cs.take n)=some (xs.take n)
 | _,_,n,[],xs,h=>by simp only [toVs,Option.some.injEq] at h;subst h;simp [toVs]
 | l,o,n,c::cs,xs,h=>by
  simp only [toVs] at h
  obtain ⟨x,h1,h2⟩:=Option.bind_eq_some_iff.1 h
  obtain ⟨ys,h3,h4⟩:=Option.bind_eq_some_iff.1 h2
  simp only [Option.some.injEq] at h4;subst h4
  cases n with
  | zero=>simp [toVs]
  | succ n=>simp [toVs,h1,z7k h3]
theorem z7g:∀ {l:Loc} {o n:Nat} {cs:List C} {xs:List V},toVs l o cs=some xs→toVs l (o+n) (cs.drop n)=some (xs.drop n)
 | _,_,n,[],xs,h=>by simp only [toVs,Option.some.injEq] at h;subst h;simp [toVs]
 | l,o,n,c::cs,xs,h=>by
  have h0:=h
  simp only [toVs] at h
  obtain ⟨x,h1,h2⟩:=Option.bind_eq_some_iff.1 h
  obtain ⟨ys,h3,h4⟩:=Option.bind_eq_some_iff.1 h2
  simp only [Option.some.injEq] at h4;subst h4
  cases n with
  | zero=>simpa using h0
  | succ n =>
   have:=z7g (n:=n) h3
   simpa [Nat.add_assoc,Nat.add_comm 1 n] using this
theorem z3q (l:Loc):∀ (o:Nat) (xs:List V),toVs l o (xs.map .v)=some xs
 | _,[]=>rfl
 | o,x::xs=>by simp [toVs,toV,z3q l (o+1) xs]

structure IsSl (h:H) (v:V) (k n:Nat) (cs:List V):Prop where
 sl:isSl v=true
 len:lenOf v=some n
 cells:cellsOf h v=some cs
 clen:cs.length=n*k
 esz:match v with | .sl _ _ n a e=>e=k∧n≤a | .fz _ _ e _=>e=k | _=>True
def Fz (v:V) (k n:Nat) (cs:List V):Prop:=∀ h,IsSl h v k n cs
def adr (v:V) (o:Nat):V :=
 match v with
 | .sl l off _ _ _=>.ref l (off+o)
 | .fz cs _ _ _=>.fzp (cs.drop o)
 | _=>udf
theorem IsSl.nil (h:H) (k:Nat):IsSl h (.p (.slice none 0 0)) k 0 []:=⟨rfl,rfl,rfl,by simp,trivial⟩
theorem Fz.nil (k:Nat):Fz (.p (.slice none 0 0)) k 0 []:=fun h=>.nil h k
theorem Fz.fz {cs:List V} {n k:Nat} (hc:cs.length=n*k) (t:Bool):Fz (.fz cs n k t) k n cs:=fun h=>⟨rfl,rfl,rfl,hc,rfl⟩
section
variable {h:H} {v:V} {k n:Nat} {cs:List V}
theorem IsSl.cases (hs:IsSl h v k n cs):(v=.p (.slice none 0 0)∧n=0∧cs=[])∨(∃ t,v=.fz cs n k t)∨∃ l off av ds,v=.sl l off n av k∧nd h l=some ds∧off+n*k≤ds.length∧toVs l off ((ds.drop off).take (n*k))=some cs∧n≤av:=by
 obtain ⟨h1,h2,h3,h4,h5⟩:=hs
 unfold isSl at h1
 split at h1
 ·simp only [lenOf,Option.some.injEq] at h2
  simp only [cellsOf,Option.some.injEq] at h3
  exact .inl ⟨rfl,h2.symm,h3.symm⟩
 ·rename_i l off len av esz
  simp only [lenOf,Option.some.injEq] at h2
  simp only at h5
  obtain ⟨h5,hav⟩:=h5
  subst h2;subst h5
  simp only [cellsOf] at h3
  obtain ⟨ds,q1,q2⟩:=Option.bind_eq_some_iff.1 h3
  obtain ⟨es,q3,q4⟩:=Option.bind_eq_some_iff.1 q2
  unfold rng at q3
  split at q3
  ·rename_i hle
   simp only [Option.some.injEq] at q3;subst q3
   exact .inr (.inr ⟨l,off,av,ds,rfl,q1,hle,q4,hav⟩)
  ·simp at q3
 ·rename_i cs' len esz t
  simp only [lenOf,Option.some.injEq] at h2
  simp only [cellsOf,Option.some.injEq] at h3
  simp only at h5
  subst h2;subst h3;subst h5
  exact .inr (.inl ⟨t,rfl⟩)
 ·simp at h1
theorem IsSl.mk_sl {l:Loc} {off av:Nat} {ds:List C} (hn:nd h l=some ds) (hl:off+n*k≤ds.length) (hv:toVs l off ((ds.drop off).take (n*k))=some cs) (ha:n≤av):IsSl h (.sl l off n av k) k n cs:=by
 refine ⟨rfl,rfl,?_,?_,⟨rfl,ha⟩⟩
 ·simp only [cellsOf,hn,Option.bind_some,rng,if_pos hl,hv]
 ·have:=z8b hv;rw [this];simp;omega
theorem IsSl.up (hs:IsSl h v k n cs) (L:Layer):IsSl (L::h) v k n cs:=by
 rcases hs.cases with ⟨rfl,rfl,rfl⟩ | ⟨t,rfl⟩ | ⟨l,off,av,ds,rfl,hn,hl,hv,hav⟩
 ·exact .nil _ _
 ·exact Fz.fz hs.clen t _
 ·exact .mk_sl (nd_up hn L) hl hv hav
theorem IsSl.lenO (hs:IsSl h v k n cs):lenO v=some (.p (.int .i64 n)):=by
 have h2:=hs.len
 have h1:=hs.sl
 unfold Go.Ev.lenO
 split
 ·simp [isSl] at h1
 ·rw [h2];rfl
theorem IsSl.iS (hs:IsSl h v k n cs) {i:Int} (h0:0≤i) (hi:i<n):Go.Ev.iS k v i=some (adr v (i.toNat*k)):=by
 rcases hs.cases with ⟨rfl,rfl,rfl⟩ | ⟨t,rfl⟩ | ⟨l,off,av,ds,rfl,hn,hl,hv,hav⟩
 ·exfalso;simp at hi;omega
 ·simp [Go.Ev.iS,adr,h0,hi]
 ·simp [Go.Ev.iS,adr,h0,hi]
theorem IsSl.ld (hs:IsSl h v k n cs) {agg:Bool} {o m:Nat} (ho:o+m≤cs.length) (hpos:0<m):ldO agg m h (adr v o)=mkV agg ((cs.drop o).take m):=by
 have hc:=hs.clen
 rcases hs.cases with ⟨rfl,rfl,rfl⟩ | ⟨t,rfl⟩ | ⟨l,off,av,ds,rfl,hn,hl,hv,hav⟩
 ·exfalso;simp at ho;omega
 ·simp only [adr,ldO,rng]
  rw [if_pos (by simp;omega)]
  simp
 ·simp only [adr,ldO,hn,Option.bind_some,rng]
  rw [if_pos (by omega)]
  simp only [Option.bind_some]
  have h1:=z7k (n:=m) (z7g (n:=o) hv)
  rw [List.drop_take,List.drop_drop,List.take_take,Nat.min_eq_left (by omega)] at h1
  rw [h1];rfl
theorem IsSl.ld1 (hs:IsSl h v k n cs) {o:Nat} {x:V} (ho:cs[o]?=some x):ldO false 1 h (adr v o)=some x:=by
 obtain ⟨hlt,hx⟩:=List.getElem?_eq_some_iff.1 ho
 rw [hs.ld (by omega) (by omega)]
 rw [List.drop_eq_getElem_cons hlt,hx]
 rfl
theorem IsSl.fA (hs:IsSl h v k n cs) {o j:Nat} (hn:0<n*k) (ho:o+j≤cs.length):Go.Ev.fA (adr v o) j=some (adr v (o+j)):=by
 have hc:=hs.clen
 rcases hs.cases with ⟨rfl,rfl,rfl⟩ | ⟨t,rfl⟩ | ⟨l,off,av,ds,rfl,hn2,hl,hv,hav⟩
 ·simp at hn
 ·simp only [adr,Go.Ev.fA]
  rw [if_pos (by simp;omega),List.drop_drop]
 ·simp only [adr,Go.Ev.fA,Nat.add_assoc]
end
end Go.Ev
namespace Go.Ev
set_option linter.unusedVariables false

structure Still (x:V):Prop where
 cells:x.cells=[x]
 lay:∀ own h,layC own h x=some (.v x,h)
 same:∀ l o c,z3e l o c x=false
 leaf:leafV x=true
 exp:∀ frz τ h,expF frz τ h x=some (.v x,h)
theorem z3h {l:Loc} {o:Nat} {c:Option C} {x:V} (h:∀ l o n a e,x≠.sl l o n a e):z3e l o c x=false:=by
 unfold z3e
 split
 ·exact absurd rfl (h _ _ _ _ _)
 ·rfl
@[simp] theorem sI (k:IntKind) (n:Int):Still (.p (.int k n)):=⟨rfl,fun _ _=>rfl,fun _ _ _=>z3h (by simp),rfl,fun frz _ _=>by cases frz<;>rfl⟩
@[simp] theorem sB (b:Bool):Still (.p (.bool b)):=⟨rfl,fun _ _=>rfl,fun _ _ _=>z3h (by simp),rfl,fun frz _ _=>by cases frz<;>rfl⟩
@[simp] theorem still_str (s:ByteArray):Still (.p (.string s)):=⟨rfl,fun _ _=>rfl,fun _ _ _=>z3h (by simp),rfl,fun frz _ _=>by cases frz<;>rfl⟩
@[simp] theorem still_nilS:Still (.p (.slice none 0 0)):=⟨rfl,fun _ _=>rfl,fun _ _ _=>z3h (by simp),rfl,fun frz _ _=>by cases frz<;>rfl⟩
@[simp] theorem still_nilP:Still (.p (.pointer none)):=⟨rfl,fun _ _=>rfl,fun _ _ _=>z3h (by simp),rfl,fun frz _ _=>by cases frz<;>rfl⟩
@[simp] theorem still_fz (cs:List V) (n e:Nat) (t:Bool):Still (.fz cs n e t):=⟨rfl,fun _ _=>rfl,fun _ _ _=>z3h (by simp),rfl,fun frz _ _=>by cases frz<;>rfl⟩
@[simp] theorem still_fzp (cs:List V):Still (.fzp cs):=⟨rfl,fun _ _=>rfl,fun _ _ _=>z3h (by simp),rfl,fun frz _ _=>by cases frz<;>rfl⟩
theorem Fz.still {v:V} {k n:Nat} {cs:List V} (h:Fz v k n cs):Still v:=by
 rcases (h []).cases with ⟨rfl,rfl,rfl⟩ | ⟨t,rfl⟩ | ⟨l,off,av,ds,rfl,hn,hl,hv,hav⟩
 ·simp
 ·simp
 ·have:=nd_lt hn;simp at this
def Stills (xs:List V):Prop:=∀ x∈xs,Still x
theorem z22 (own:Bool) (h:H):∀ {xs:List V},Stills xs→layCs own h xs=some (xs.map .v,h)
 | [],_=>rfl
 | x::xs,hx=>by
  simp only [layCs,(hx x (List.mem_cons_self ..)).lay,Option.bind_some,z22 own h fun y hy=>hx y (List.mem_cons_of_mem _ hy),List.map_cons]
theorem z6t {α:Type} (cs:List α) (o:Nat) (x:α) (ho:o<cs.length):cs.take o++[x]++cs.drop (o+1)=cs.set o x:=by
 rw [List.set_eq_take_append_cons_drop,if_pos ho];simp
section
variable {h:H} {l:Loc} {cs:List C} {o:Nat} {σ:Stamp} {own:Bool}
theorem z77 {x:V} (hx:Still x) (hn:nd h l=some cs) (ho:o<cs.length):stO own 1 σ h (.ref l o) x=some (setNd h l (cs.set o (.v x))):=by
 unfold stO
 simp only [hx.cells,hx.same,hn,Option.bind_some,layCs,hx.lay]
 simp only [List.length_cons,List.length_nil,Bool.not_true,Bool.false_or,Nat.zero_add,bne_self_eq_false,Bool.false_eq_true,if_false]
 rw [if_pos (by omega),z6t _ _ _ ho]
theorem zej {xs:List V} (hx:Stills xs) (hn:nd h l=some cs) (ho:o+xs.length≤cs.length):stO own xs.length σ h (.ref l o) (.agg xs)=some (setNd h l (cs.take o++xs.map .v++cs.drop (o+xs.length))):=by
 unfold stO
 have h1:(V.agg xs).cells=xs:=rfl
 have h2:z3e l o cs[o]? (.agg xs)=false:=z3h (by simp)
 simp only [h1,h2,hn,Option.bind_some,z22 own h hx,List.length_map]
 simp only [Bool.not_true,Bool.false_or,bne_self_eq_false,Bool.false_eq_true,if_false]
 rw [if_pos ho]
end

section
variable {σ:Stamp} {L:Layer} {h:H} {frz:Bool}
@[simp] theorem fin_0:fin frz σ (L::h) []=some ([],h):=by simp [fin,expCs]
theorem fin_1 {x:V} (hx:Still x):fin frz σ (L::h) [x]=some ([.v x],h):=by simp [fin,expCs,hx.exp]
theorem z80 (h:H):∀ {xs:List V},Stills xs→frzCs h xs=some (xs,h)
 | [],_=>rfl
 | x::xs,hx=>by simp only [frzCs,(hx x (List.mem_cons_self ..)).lay,Option.bind_some,z80 h fun y hy=>hx y (List.mem_cons_of_mem _ hy),Option.map_some]
theorem zdt {xs:List V} (hx:Stills xs) (τ:Stamp) (h:H):expF frz τ h (.agg xs)=some (.v (.agg xs),h):=by
 cases frz<;>simp [expF,expC,z80 h hx]
theorem z9h {d:Nat} {s:Stamp} {c:C} {tl:List C} (hd:L[d]?=some (c::tl)) (hc:(c.node s).isSome):at_ (L::h) ⟨h.length,d,0,s,[]⟩=some c:=by simp [at_,rootC,hd,find,hc]
theorem z3j {d:Nat} {s:Stamp} {c:C} {tl:List C} (hd:L[d]?=some (c::tl)) (c':C):setAt (L::h) ⟨h.length,d,0,s,[]⟩ c'=L.set d (c'::tl)::h:=by
 have h2:rootC (L::h) ⟨h.length,d,0,s,[]⟩=some c:=by simp [rootC,hd]
 simp only [setAt,h2,repl,z9,if_true,hd,Option.getD_some,List.set_cons_zero]
theorem zdw {d n e:Nat} {s τ:Stamp} {cs:List C} {tl:List C} (hd:L[d]?=some (.arr s n e cs::tl)) (hl:cs.length=n*e):expF false τ (L::h) (.sl ⟨h.length,d,0,s,[]⟩ 0 n n e)=some (.arr s n e cs,L.set d (.dead::tl)::h):=by
 have h1:at_ (L::h) ⟨h.length,d,0,s,[]⟩=some (.arr s n e cs):=z9h hd (by simp [C.node])
 have h3:=z3j (h:=h) (s:=s) hd .dead
 have h4:rng cs 0 (n*e)=some cs:=by unfold rng;rw [if_pos (by omega)];simp [← hl]
 simp [expF,expC,h1,h3,h4]
theorem z5t (xs:List V):z20 (xs.map .v)=some xs:=by
 induction xs with
 | nil=>rfl
 | cons x xs ih=>simp [z20,ih]
theorem zbi {d n e:Nat} {s τ:Stamp} {xs:List V} {tl:List C} (hd:L[d]?=some (.arr s n e (xs.map .v)::tl)) (hl:xs.length=n*e):expF true τ (L::h) (.sl ⟨h.length,d,0,s,[]⟩ 0 n n e)=some (.v (.fz xs n e false),L.set d (.dead::tl)::h):=by
 have h1:at_ (L::h) ⟨h.length,d,0,s,[]⟩=some (.arr s n e (xs.map .v)):=z9h hd (by simp [C.node])
 have h3:=z3j (h:=h) (s:=s) hd .dead
 have h4:rng xs 0 (n*e)=some xs:=by unfold rng;rw [if_pos (by omega)];simp [← hl]
 simp [expF,layC,h1,h3,h4,z5t,Loc.last,hl]
theorem zcf {d n e:Nat} {s:Stamp} {cs:List C} {tl:List C} (hd:L[d]?=some (.arr s n e cs::tl)) (hl:cs.length=n*e):fin false σ (L::h) [.sl ⟨h.length,d,0,s,[]⟩ 0 n n e]=some ([.arr s n e cs],h):=by simp [fin,expCs,zdw hd hl]
theorem zcg {d n e:Nat} {s:Stamp} {xs:List V} {tl:List C} (hd:L[d]?=some (.arr s n e (xs.map .v)::tl)) (hl:xs.length=n*e):fin true σ (L::h) [.sl ⟨h.length,d,0,s,[]⟩ 0 n n e]=some ([.v (.fz xs n e false)],h):=by simp [fin,expCs,zbi hd hl]
theorem zeg {l:Loc} {off n a e:Nat} (hl:l.lvl<h.length):fin frz σ (L::h) [.sl l off n a e]=some ([.v (.sl l off n a e)],h):=by
 have h1:¬ l.lvl=h.length:=by omega
 cases frz<;>simp [fin,expCs,expF,expC,layC,h1]
end

section
variable {σ:Stamp} {L:Layer} {h:H} {d:Nat}
theorem mkO_ok {e b:Nat} {z:List V} {n:Int} (h0:0≤n) (hb:n*b≤2^47) (hn:n<2^62) (hz:z.length=e) (he:e≠0) :
  mkO e b z σ d (L::h) n n=some (.sl ⟨h.length,d,0,σ,[]⟩ 0 n.toNat n.toNat e,L.set d [.arr σ n.toNat e ((rept n.toNat z).map .v)]::h):=by
 unfold mkO
 rw [if_pos ⟨h0,Int.le_refl _,hb,hn,hz,he⟩]
 simp
theorem zep {own:Bool} {e b:Nat} {y:V} {n:Nat} {xs:List V} (hy:IsSl (L::h) y e n xs) (hx:Stills xs) (he:e≠0) (hn:n≠0) (hb:n*b≤2^47) (hn2:n<2^61) :
  apO own e b σ d (L::h) (.p (.slice none 0 0)) y=some (.sl ⟨h.length,d,0,σ,[]⟩ 0 n n e,L.set d [.arr σ n e (xs.map .v)]::h):=by
 unfold apO
 rw [hy.len,hy.cells]
 simp only [Option.bind_some]
 rw [if_neg (by have:=hy.clen;simp [this,he]),if_neg hn,z22 own _ hx]
 simp only [Option.bind_some,apTo]
 rw [if_pos ⟨hb,hn2⟩]
 simp
theorem zem {own:Bool} {e b d':Nat} {s:Stamp} {m:Nat} {cs:List C} {y:V} {n:Nat} {xs:List V} (hd:L[d']?=some [.arr s m e cs]) (hl:cs.length=m*e) (hy:IsSl (L::h) y e n xs) (hx:Stills xs) (he:e≠0) (hn:n≠0) (hb:(m+n)*b≤2^47) (hn2:m+n<2^61) :
  apO own e b σ d (L::h) (.sl ⟨h.length,d',0,s,[]⟩ 0 m m e) y=some (.sl ⟨h.length,d,0,σ,[]⟩ 0 (m+n) (m+n) e,(L.set d' [.dead]).set d [.arr σ (m+n) e (cs++xs.map .v)]::h):=by
 unfold apO
 rw [hy.len,hy.cells]
 simp only [Option.bind_some]
 rw [if_neg (by have:=hy.clen;simp [this,he]),if_neg hn,z22 own _ hx]
 simp only [Option.bind_some,apTo]
 rw [if_neg (by simp),nd_arr hd]
 simp only [Option.bind_some]
 rw [if_neg (by omega),if_pos ⟨trivial,hl,hb,hn2⟩,z3j hd]
 simp
end
end Go.Ev
namespace Go.Ev
set_option linter.unusedVariables false
section
variable {α β:Type} {f:α→List β} {k:Nat}
theorem z82 (hk:∀ x,(f x).length=k):∀ xs:List α,(xs.flatMap f).length=xs.length*k
 | []=>by simp
 | x::xs=>by simp only [List.flatMap_cons,List.length_append,hk,z82 hk xs,List.length_cons];rw [Nat.succ_mul];omega
end

section
variable {h:H} {l:Loc} {cs:List C} {o:Nat} {s:Stamp} {n k:Nat} {F:List V}
end
theorem wrap64 {x:Int} (h1:-9223372036854775808≤x) (h2:x<9223372036854775808):IntKind.wrap .i64 x=x:=by
 show (if (true&&decide (x % (2^64:Int)≥(2^63:Int)))=true then x % (2^64:Int)-2^64 else x % (2^64:Int))=x
 by_cases hx:0≤x
 ·rw [if_neg (by simp;omega)];omega
 ·rw [if_pos (by simp;omega)];omega
end Go.Ev
namespace Go.Ev
set_option linter.unusedVariables false
def Grow (D:List Nat) (L:Layer) (n0:Nat) (v:V) (k n:Nat) (xs:List V):Prop :=
 (v=.p (.slice none 0 0)∧n=0∧xs=[])∨(n≠0∧xs.length=n*k∧∃ d∈D,∃ s,v=.sl ⟨n0,d,0,s,[]⟩ 0 n n k∧L[d]?=some [.arr s n k (xs.map .v)])
section
variable {D:List Nat} {L L':Layer} {h:H} {v:V} {k n:Nat} {xs:List V}
theorem Grow.nil (D:List Nat) (L:Layer) (n0 k:Nat):Grow D L n0 (.p (.slice none 0 0)) k 0 []:=.inl ⟨rfl,rfl,rfl⟩
theorem Grow.frame (ha:Grow D L h.length v k n xs) (hL:∀ d∈D,L'[d]?=L[d]?):Grow D L' h.length v k n xs:=by
 rcases ha with ha | ⟨h1,h2,d,hd,s,rfl,h3⟩
 ·exact .inl ha
 ·exact .inr ⟨h1,h2,d,hd,s,rfl,by rw [hL d hd];exact h3⟩
theorem Grow.len (ha:Grow D L h.length v k n xs):xs.length=n*k:=by
 rcases ha with ⟨rfl,rfl,rfl⟩ | ⟨h1,h2,_⟩
 ·simp
 ·exact h2
theorem Grow.sl (ha:Grow D L h.length v k n xs):IsSl (L::h) v k n xs:=by
 rcases ha with ⟨rfl,rfl,rfl⟩ | ⟨h1,h2,d,hd,s,rfl,h3⟩
 ·exact .nil _ _
 ·exact .mk_sl (nd_arr h3) (by simp [h2]) (by rw [List.drop_zero,List.take_of_length_le (by simp [h2]),z3q]) (Nat.le_refl _)
theorem Grow.app (ha:Grow D L h.length v k n xs) {own:Bool} {b d m:Nat} {σ:Stamp} {y:V} {ys:List V} (hD:d∈D) (hd:d<L.length) (hy:IsSl (L::h) y k m ys) (hs:Stills ys) (hk:k≠0) (hm:m≠0) (hb:(n+m)*b≤2^47) (hb2:n+m<2^61) :
  ∃ v' L',apO own k b σ d (L::h) v y=some (v',L'::h)∧Grow D L' h.length v' k (n+m) (xs++ys)∧L'.length=L.length∧∀ j,j∉D→L'[j]?=L[j]?:=by
 rcases ha with ⟨rfl,rfl,rfl⟩ | ⟨h1,h2,d',hd',s,rfl,h3⟩
 ·refine ⟨_,_,zep hy hs hk hm (by simpa using hb) (by simpa using hb2),.inr ⟨by omega,by simpa using hy.clen,d,hD,σ,by simp,by simp [hd]⟩,by simp,fun j hj=>?_⟩
  rw [List.getElem?_set_ne (fun e=>hj (by rw [← e];exact hD))]
 ·refine ⟨_,_,zem h3 (by simpa using h2) hy hs hk hm hb hb2,.inr ⟨by omega,by rw [List.length_append,h2,hy.clen,Nat.add_mul],d,hD,σ,rfl,by simp [hd]⟩,by simp,fun j hj=>?_⟩
  rw [List.getElem?_set_ne (fun e=>hj (by rw [← e];exact hD)),List.getElem?_set_ne (fun e=>hj (by rw [← e];exact hd'))]
def frzV (k n:Nat) (xs:List V):V:=if n=0 then .p (.slice none 0 0) else .fz xs n k false
theorem Grow.frz (ha:Grow D L h.length v k n xs) (σ:Stamp):fin true σ (L::h) [v]=some ([.v (frzV k n xs)],h):=by
 rcases ha with ⟨rfl,rfl,rfl⟩ | ⟨h1,h2,d',hd',s,rfl,h3⟩
 ·exact fin_1 still_nilS
 ·rw [zcg h3 h2,frzV,if_neg h1]
def OwnC (c:C) (k n:Nat) (xs:List V):Prop:=xs.length=n*k∧((c=.v (.p (.slice none 0 0))∧n=0)∨(n≠0∧∃ s,c=.arr s n k (xs.map .v)))
theorem Grow.own (ha:Grow D L h.length v k n xs) (σ:Stamp):∃ c,fin false σ (L::h) [v]=some ([c],h)∧OwnC c k n xs:=by
 rcases ha with ⟨rfl,rfl,rfl⟩ | ⟨h1,h2,d',hd',s,rfl,h3⟩
 ·exact ⟨_,fin_1 still_nilS,by simp,.inl ⟨rfl,rfl⟩⟩
 ·exact ⟨_,zcf h3 (by simpa using h2),h2,.inr ⟨h1,s,rfl⟩⟩
theorem OwnC.land {rec:CallF} {f:FuncId} {σ:Stamp} {args:List V} {h0:H} {d:Nat} {c:C} (hc:rec f σ args h0=some ([c],L::h)) (ho:OwnC c k n xs) (hd:d<L.length) :
  ∃ v L',callO rec f σ args h0 (some d)=some (v,L'::h)∧Grow [d] L' h.length v k n xs∧L'.length=L.length∧∀ j,j≠d→L'[j]?=L[j]?:=by
 obtain ⟨hl,⟨rfl,rfl⟩ | ⟨hn,s,rfl⟩⟩:=ho
 ·have:xs=[]:=by simpa using hl
  subst this
  exact ⟨_,L,zcj hc,.nil _ _ _ _,rfl,fun _ _=>rfl⟩
 ·exact ⟨_,_,zd2 hc,.inr ⟨hn,hl,d,List.mem_singleton.2 rfl,s,rfl,by simp [hd]⟩,by simp,fun j hj=>by rw [List.getElem?_set_ne (Ne.symm hj)]⟩
theorem Grow.more {D':List Nat} {n0:Nat} (ha:Grow D L n0 v k n xs) (hs:∀ d∈D,d∈D'):Grow D' L n0 v k n xs:=by
 rcases ha with ha | ⟨h1,h2,d,hd,r⟩
 ·exact .inl ha
 ·exact .inr ⟨h1,h2,d,hs d hd,r⟩
end
section
variable {L:Layer} {h:H} {d:Nat} {τ τ':Stamp} {z vs:List V} {own:Bool}
@[simp] theorem alO_1:(alO z τ d (L::h)).1=.ref ⟨h.length,d,0,τ,[]⟩ 0:=by simp [alO]
end
theorem sN:Stills []:=fun _ h=>by simp at h
theorem sC {x:V} {xs:List V} (h:Still x) (t:Stills xs):Stills (x::xs):=fun y hy=>by
 rcases List.mem_cons.1 hy with rfl | hy
 ·exact h
 ·exact t y hy
def ints (xs:List Int):List V:=xs.map (iV .i64)
def IsInts (h:H) (v:V) (xs:List Int):Prop:=IsSl h v 1 xs.length (ints xs)
theorem IsInts.up {h:H} {v:V} {xs:List Int} (hs:IsInts h v xs) (L:Layer):IsInts (L::h) v xs:=IsSl.up hs L
theorem Fz.ints {v:V} {xs:List Int} (hf:Fz v 1 xs.length (ints xs)) (h:H):IsInts h v xs:=hf h
end Go.Ev
namespace Go.Ev
set_option linter.unusedVariables false
end Go.Ev
namespace Go.Ev
set_option linter.unusedVariables false
end Go.Ev
namespace Go.Ev
end Go.Ev
namespace Go.Ev
open Go.RowKit (Below)
set_option linter.unusedVariables false
def z3i (w:World):Inj:=⟨fun _=>none,fun b=>match w.heap[b]? with | some (.cells c _ _)=>some c.toList | _=>none,fun _=>false⟩
section
variable {G:Cfg}
end
theorem ze7 {w:World} {a:Addr} {len cap k:Nat} {xs:List V} (ha:a.spot=none) (hl:len≤cap) (hk:k≠0) (hx:xs.length=len*k) (hc:∀ i x,xs[i]?=some x→∃ u,w.cell? (a.add i)=some u∧RV (z3i w) x u) :
  RV (z3i w) (.fz xs len k false) (.slice (some a) len cap):=by
 by_cases h0:len=0
 ·subst h0
  have:xs=[]:=by simpa using hx
  subst this
  exact .fz0 (by simp)
 ·have hpos:0<xs.length:=by rw [hx];exact Nat.mul_pos (by omega) (by omega)
  obtain ⟨u0,hu0,_⟩:=hc 0 xs[0] (List.getElem?_eq_getElem hpos)
  obtain ⟨b,o,sp⟩:=a
  simp only at ha;subst ha
  have hadd:∀ i,(⟨b,o,none⟩:Addr).add i=⟨b,o+i,none⟩:=fun i=>by
   unfold Addr.add;split
   ·rename_i h;subst h;rfl
   ·rfl
  cases hb:w.heap[b]? with
  | none=>simp [World.cell?,hadd,hb] at hu0
  | some ob =>
   cases ob with
   | cells c e fr =>
    have hf:(z3i w).fz b=some c.toList:=by simp [z3i,hb]
    have hcell:∀ i,w.cell? ((⟨b,o,none⟩:Addr).add i)=c[o+i]?:=fun i=>by simp [World.cell?,hadd,hb]
    have hlen:xs.length≤(c.toList.drop o).length:=by
     obtain ⟨u,hu,_⟩:=hc (xs.length-1) xs[xs.length-1] (List.getElem?_eq_getElem (by omega))
     rw [hcell] at hu
     have:=(Array.getElem?_eq_some_iff.1 hu).1
     simp;omega
    refine .fz hf hl (by simp) hx (RVs.of_get (by simp only [List.length_take];omega) fun i x v hi hv=>?_)
    obtain ⟨u,hu,hr⟩:=hc i x hi
    have hi2:=(List.getElem?_eq_some_iff.1 hi).1
    rw [List.getElem?_take_of_lt hi2,List.getElem?_drop,Array.getElem?_toList] at hv
    rw [hcell] at hu
    rw [hu] at hv
    obtain rfl:=Option.some.inj hv
    exact hr
   | _=>simp [World.cell?,hadd,hb] at hu0
end Go.Ev
namespace Go.Ev
open Go.RowKit (Below)
set_option linter.unusedVariables false
inductive DT where
 | int (k:IntKind)
 | bool
 | str
 | slice (bytes:Nat) (t:DT)
 | strct (t:DT)
 | unit
 | pair (a b:DT)
@[reducible] def DT.D:DT→Type
 | .int _=>Int
 | .bool=>Bool
 | .str=>ByteArray
 | .slice _ t=>Option (List t.D)
 | .strct t=>t.D
 | .unit=>Unit
 | .pair a b=>a.D×b.D
def DT.size:DT→Nat
 | .int _ | .bool | .str | .slice _ _=>1
 | .strct t=>t.size
 | .unit=>0
 | .pair a b=>a.size+b.size
def DT.cells:(t:DT)→t.D→List V
 | .int k,n=>[.p (.int k n)]
 | .bool,b=>[.p (.bool b)]
 | .str,s=>[.p (.string s)]
 | .slice _ _,none=>[.p (.slice none 0 0)]
 | .slice _ t,some l=>[.fz (l.flatMap t.cells) l.length t.size false]
 | .strct t,x=>t.cells x
 | .unit,_=>[]
 | .pair a b,x=>a.cells x.1++b.cells x.2
def DT.okM (M:Nat):(t:DT)→t.D→Prop
 | .int k,n=>(Lit.int k n).wf=true
 | .bool,_=>True
 | .str,s=>s.size≤M
 | .slice _ _,none=>True
 | .slice b t,some l=>l.length*b≤M∧∀ x∈l,DT.okM M t x
 | .strct t,x=>DT.okM M t x
 | .unit,_=>True
 | .pair a b,x=>DT.okM M a x.1∧DT.okM M b x.2
abbrev DT.ok (t:DT) (x:t.D):Prop:=DT.okM reachBytes t x
theorem DT.cells_length:∀ (t:DT) (x:t.D),(t.cells x).length=t.size
 | .int _,_=>rfl
 | .bool,_=>rfl
 | .str,_=>rfl
 | .slice _ _,none=>rfl
 | .slice _ _,some _=>rfl
 | .strct t,x=>DT.cells_length t x
 | .unit,_=>rfl
 | .pair a b,x=>by simp only [DT.cells,DT.size,List.length_append,DT.cells_length a x.1,DT.cells_length b x.2]
mutual
def fit (P:Program):DT→TypeId→Bool
 | .int k,t=>(match P.underlying t with | some (.int k')=>decide (k'=k) | _=>false)&&P.cellsOf t==1
 | .bool,t=>(match P.underlying t with | some .bool=>true | _=>false)&&P.cellsOf t==1
 | .str,t=>(match P.underlying t with | some .string=>true | _=>false)&&P.cellsOf t==1
 | .slice b d,t=>(match P.underlying t with | some (.slice e)=>fit P d e&&(P.bytesOf e==b&&d.size != 0) | _=>false)&&P.cellsOf t==1
 | .strct d,t=>match P.underlying t with | some (.struct fs)=>fitF P d 0 fs.toList&&P.cellsOf t==d.size | _=>false
 | .unit,_=>false
 | .pair _ _,_=>false
def fitF (P:Program):DT→Nat→List Field→Bool
 | .unit,_,[]=>true
 | .pair a b,o,f::fs=>f.offset==o&&(fit P a f.type&&fitF P b (o+a.size) fs)
 | _,_,_=>false
end
theorem zak {P:Program}:∀ {d:DT} {t:TypeId},fit P d t=true→P.cellsOf t=d.size
 | .int _,_,h=>by simp only [fit,Bool.and_eq_true,beq_iff_eq] at h;exact h.2
 | .bool,_,h=>by simp only [fit,Bool.and_eq_true,beq_iff_eq] at h;exact h.2
 | .str,_,h=>by simp only [fit,Bool.and_eq_true,beq_iff_eq] at h;exact h.2
 | .slice _ _,_,h=>by simp only [fit,Bool.and_eq_true,beq_iff_eq] at h;exact h.2
 | .strct _,_,h=>by
  simp only [fit] at h
  split at h
  ·simp only [Bool.and_eq_true,beq_iff_eq] at h;exact h.2
  ·cases h
section
variable {M:Nat} {H:Type} {enc:TypeId×Value→H} {P:Program} {w:World} {base:Nat} {spare:Nat→Bool} {held:Bool}
theorem zdh {a:Addr} {v:Value} (h:w.cell? a=some v):a.spot=none:=by
 unfold World.cell? at h
 split at h
 ·split at h
  ·cases h
  ·rename_i hs;simpa using hs
 ·cases h
theorem z5u {e:TypeId}:∀ {l:List (DataW H)} {d:DataW H},d∈l→∀ n∈d.weights P e,n∈DataW.weightsAll P e l
 | d0::l,d,hd,n,hn=>by
  simp only [DataW.weightsAll,List.mem_append]
  rcases List.mem_cons.1 hd with rfl | h
  ·exact .inl hn
  ·exact .inr (z5u h n hn)
theorem zel (a:Addr) (i j:Nat):(a.add i).add j=a.add (i+j):=by
 unfold Addr.add
 split
 ·rename_i h;subst h;simp
 ·split
  ·rename_i h;subst h;simp [*]
  ·rw [if_neg (by omega)];simp [Nat.add_assoc]
mutual
theorem zcb:∀ (d:DT) {t:TypeId} {fuel:Nat} {cs:List Value} {x:DataW H×List MemPlace},fit P d t=true→DataW.trod enc P w base spare held fuel t cs=some x→(∀ n∈x.1.weights P t,n≤M) →
  ∃ v:d.D,DT.okM M d v∧RVs (z3i w) (d.cells v) cs
 | .int k,t,fuel,cs,x,hf,h,hw=>by
  simp only [fit,Bool.and_eq_true] at hf
  have hu:P.underlying t=some (.int k):=by
   have:=hf.1;split at this
   ·rename_i k' hk;simp only [decide_eq_true_eq] at this;rw [hk,this]
   ·cases this
  obtain ⟨n,rfl,rfl,hwf⟩:=DataW.trod_int hu h
  exact ⟨n,hwf,.cons (.p _) .nil⟩
 | .bool,t,fuel,cs,x,hf,h,hw=>by
  simp only [fit,Bool.and_eq_true] at hf
  have hu:P.underlying t=some .bool:=by
   have:=hf.1;split at this
   ·assumption
   ·cases this
  obtain ⟨b,rfl,rfl⟩:=DataW.trod_bool hu h
  exact ⟨b,trivial,.cons (.p _) .nil⟩
 | .str,t,fuel,cs,x,hf,h,hw=>by
  simp only [fit,Bool.and_eq_true] at hf
  have hu:P.underlying t=some .string:=by
   have:=hf.1;split at this
   ·assumption
   ·cases this
  obtain ⟨s,rfl,rfl,hm⟩:=DataW.trod_string hu h
  refine ⟨s,?_,.cons (.p _) .nil⟩
  have:=hw s.data.toList.length (by simp [DataW.weights])
  rw [Array.length_toList] at this
  exact this
 | .slice b d,t,fuel,cs,x,hf,h,hw=>by
  simp only [fit,Bool.and_eq_true] at hf
  obtain ⟨hf,hc1⟩:=hf
  split at hf
  ·rename_i e hu
   simp only [Bool.and_eq_true,beq_iff_eq,bne_iff_ne,ne_eq] at hf
   obtain ⟨hfe,hb,hsz⟩:=hf
   have hce:=zak hfe
   rcases DataW.trod_slice hu h with ⟨rfl,rfl⟩ | ⟨a,len,cap,elems,rest,n,_,rfl,rfl,hbs,hl,hm,hlen,hel,_,_⟩
   ·exact ⟨none,trivial,.cons (.p _) .nil⟩
   have hw1:∀ y∈elems,∀ n∈y.1.weights P e,n≤M:=fun y hy n hn=>hw n (by
    simp only [DataW.weights,hu,List.mem_cons,List.mem_append]
    exact .inr (.inl (z5u (List.mem_map_of_mem hy) n hn)))
   have each:∀ i (y:DataW H×List MemPlace),elems[i]?=some y→∃ v:d.D,DT.okM M d v∧∀ j x,(d.cells v)[j]?=some x→∃ u,w.cell? (a.add (i*d.size+j))=some u∧RV (z3i w) x u:=fun i y hy=>by
    have hi:i<len:=by rw [← hlen];exact (List.getElem?_eq_some_iff.1 hy).1
    have h1:=hel i hi
    rw [hy,Option.bind_eq_some_iff] at h1
    obtain ⟨cs',h2,h3⟩:=h1
    obtain ⟨v,hv,hr⟩:=zcb d hfe h3 (hw1 y (List.mem_of_getElem? hy))
    refine ⟨v,hv,fun j x hx=>?_⟩
    obtain ⟨u,hu1,hu2⟩:=hr.get hx
    obtain ⟨_,hl2,hcell⟩:=World.cells?_some h2
    have hj:j<P.cellsOf e:=by rw [← hl2];exact (List.getElem?_eq_some_iff.1 hu1).1
    refine ⟨u,?_,hu2⟩
    rw [← zel,← hce]
    exact (hcell j hj).trans hu1
   have list:∀ (es:List (DataW H×List MemPlace)) (i0:Nat),(∀ i y,es[i]?=some y→elems[i0+i]?=some y) →
     ∃ l:List d.D,l.length=es.length∧(∀ v∈l,DT.okM M d v)∧∀ j x,(l.flatMap d.cells)[j]?=some x→∃ u,w.cell? (a.add (i0*d.size+j))=some u∧RV (z3i w) x u:=by
    intro es
    induction es with
    | nil=>intro i0 _;exact ⟨[],rfl,by simp,by simp⟩
    | cons y es ih =>
     intro i0 hes
     obtain ⟨v,hv,hc⟩:=each i0 y (by simpa using hes 0 y rfl)
     obtain ⟨l,h1,h2,h3⟩:=ih (i0+1) fun i y hy=>by
      have:=hes (i+1) y (by simpa using hy)
      rwa [show i0+(i+1)=i0+1+i by omega] at this
     refine ⟨v::l,by simp [h1],fun x hx=>?_,fun j x hx=>?_⟩
     ·rcases List.mem_cons.1 hx with rfl | hx
      ·exact hv
      ·exact h2 x hx
     ·rw [List.flatMap_cons,List.getElem?_append] at hx
      split at hx
      ·exact hc j x hx
      ·rename_i hj
       rw [DT.cells_length] at hj hx
       obtain ⟨u,hu1,hu2⟩:=h3 _ x hx
       refine ⟨u,?_,hu2⟩
       rw [← hu1,Nat.succ_mul]
       congr 2
       omega
   obtain ⟨l,h1,h2,h3⟩:=list elems 0 (fun i y hy=>by simpa using hy)
   rw [hlen] at h1
   have hflat:(l.flatMap d.cells).length=len*d.size:=by rw [z82 d.cells_length,h1]
   refine ⟨some l,⟨?_,h2⟩,.cons ?_ .nil⟩
   ·have:=hw _ (by simp only [DataW.weights,hu,List.mem_cons];exact .inl rfl)
    rw [List.length_map,hlen,hb] at this
    rw [h1]
    exact Nat.le_trans (Nat.mul_le_mul_right _ (Nat.le_add_right _ _)) this
   ·rw [h1]
    by_cases h0:len=0
    ·subst h0
     have:l=[]:=by simpa using h1
     subst this
     exact .fz0 (by simp)
    ·have hpos:0<(l.flatMap d.cells).length:=by rw [hflat];exact Nat.mul_pos (by omega) (by omega)
     obtain ⟨u,hu1,_⟩:=h3 0 _ (List.getElem?_eq_getElem hpos)
     have hs:a.spot=none:=zdh (a:=a) (v:=u) (by simpa [Addr.add] using hu1)
     exact ze7 hs hl hsz hflat fun j x hx=>by simpa using h3 j x hx
  ·cases hf
 | .strct d,t,fuel,cs,x,hf,h,hw=>by
  simp only [fit] at hf
  split at hf
  ·rename_i fs hu
   simp only [Bool.and_eq_true,beq_iff_eq] at hf
   obtain ⟨xs,n,_,rfl,hlen,hxs,hfs⟩:=DataW.trod_struct hu h
   have hw':∀ n∈DataW.weightsEach P (fs.toList.map (·.type)) (xs.map (·.1)),n≤M:=fun n hn=>hw n (by simpa only [DataW.weights,hu] using hn)
   obtain ⟨v,hv,hr⟩:=z86 d (n:=n) (cs:=cs) (o:=0) hf.1 (by simpa using hxs) (fun i f hf=>hfs i f (by simpa using hf)) (by rw [hlen,hf.2];omega) hw'
   rw [List.drop_zero] at hr
   exact ⟨v,hv,hr⟩
  ·cases hf
theorem z86:∀ (d:DT) {fs:List Field} {n o:Nat} {cs:List Value} {xs:List (DataW H×List MemPlace)},fitF P d o fs=true→xs.length=fs.length →
  (∀ (i:Nat) (f:Field),fs[i]?=some f→DataW.trod enc P w base spare held n f.type ((cs.drop f.offset).take (P.cellsOf f.type))=xs[i]?)→cs.length=o+d.size →
  (∀ n∈DataW.weightsEach P (fs.map (·.type)) (xs.map (·.1)),n≤M)→∃ v:d.D,DT.okM M d v∧RVs (z3i w) (d.cells v) (cs.drop o)
 | .unit,[],n,o,cs,xs,hf,hl,h,hc,hw=>⟨(),trivial,by
   simp only [DT.size,Nat.add_zero] at hc
   rw [List.drop_of_length_le (by omega)];exact .nil⟩
 | .pair a b,f::fs,n,o,cs,x::xs,hf,hl,h,hc,hw=>by
  simp only [fitF,Bool.and_eq_true,beq_iff_eq] at hf
  obtain ⟨ho,hfa,hfb⟩:=hf
  simp only [List.map_cons,DataW.weightsEach,List.mem_append] at hw
  have h0:=h 0 f rfl
  simp only [List.getElem?_cons_zero] at h0
  obtain ⟨v,hv,hr⟩:=zcb a hfa h0 (fun n hn=>hw n (.inl hn))
  obtain ⟨u,hu,hq⟩:=z86 b (n:=n) (cs:=cs) (xs:=xs) hfb (by simpa using hl) (fun i f hf=>by simpa using h (i+1) f (by simpa using hf)) (by simp only [DT.size] at hc;omega) (fun n hn=>hw n (.inr hn))
  refine ⟨(v,u),⟨hv,hu⟩,?_⟩
  rw [ho,zak hfa] at hr
  have e:cs.drop o=(cs.drop o).take a.size++cs.drop (o+a.size):=by rw [← List.drop_drop,List.take_append_drop]
  rw [e]
  exact hr.append hq
 | .pair _ _,_::_,_,_,_,[],_,hl,_,_,_=>by simp at hl
end
end
end Go.Ev
namespace Go.Ev
end Go.Ev
namespace Go.Ev
set_option linter.unusedVariables false
def Sim {β α:Type} (x:Option β) (y:Option α) (Q:β→α→Prop):Prop:=∀ r,x=some r→∃ s,y=some s∧Q r s
section
variable {β α γ δ ε:Type} {x:Option β} {y:Option α} {Q:β→α→Prop} {K:δ→Option α}
theorem Sim.no:Sim (none:Option β) y Q:=fun r h=>by cases h
theorem Sim.op {o:Option γ} {v:γ} {g:γ→Option δ} (e:o=some v) (s:Sim x ((g v).bind K) Q):Sim x ((o.bind g).bind K) Q:=by rw [e];exact s
theorem Sim.bd {X:Option γ} {f:γ→Option β} (s:∀ a,X=some a→Sim (f a) y Q):Sim (X.bind f) y Q:=by
 intro r hr;obtain ⟨a,h1,h2⟩:=Option.bind_eq_some_iff.1 hr;exact s a h1 r h2
theorem Sim.cd {c:Bool} {a b:Option β} {A B:Option δ} (s:c=true→Sim a (A.bind K) Q) (t:c=false→Sim b (B.bind K) Q):Sim (bif c then a else b) ((bif c then A else B).bind K) Q:=by
 cases c
 ·exact t rfl
 ·exact s rfl
theorem Sim.cdt {c:Bool} {a:Option β} {A B:Option δ} (h:c=true) (s:Sim a (A.bind K) Q):Sim a ((bif c then A else B).bind K) Q:=by subst h;exact s
theorem Sim.cdf {c:Bool} {a:Option β} {A B:Option δ} (h:c=false) (s:Sim a (B.bind K) Q):Sim a ((bif c then A else B).bind K) Q:=by subst h;exact s
theorem Sim.nd {P:Prop} {Y:Option δ} (p:P) (s:Sim x (Y.bind K) Q):Sim x ((need P Y).bind K) Q:=by rw [need,if_pos p];exact s
theorem Sim.ch {X:Option γ} {Y:Option ε} {P:γ→ε→Prop} {f:γ→Option β} {g:ε→Option δ} (e:Sim X (Y.bind some) P) (s:∀ r y,X=some r→P r y→Sim (f r) ((g y).bind K) Q):Sim (X.bind f) ((Y.bind g).bind K) Q:=by
 intro r hr
 obtain ⟨a,h1,h2⟩:=Option.bind_eq_some_iff.1 hr
 obtain ⟨b,q1,q2⟩:=e a h1
 have:Y=some b:=by
  cases Y with
  | none=>cases q1
  | some y=>exact q1
 rw [this]
 exact s a b h1 q2 r h2
theorem Sim.call {rec:CallF} {f:FuncId} {σ:Stamp} {args:List V} {H:Go.Ev.H} {d:Option Nat} {X:Option γ} {P:γ→List C×Go.Ev.H→Prop} {F:γ→Option β} {g:V×Go.Ev.H→Option δ}
  (hc:Sim X (rec f σ args H) P) (s:∀ r cs h',X=some r→P r (cs,h')→Sim (F r) ((g (land h' d cs)).bind K) Q):Sim (X.bind F) (((callO rec f σ args H d).bind g).bind K) Q:=by
 intro r hr
 obtain ⟨a,h1,h2⟩:=Option.bind_eq_some_iff.1 hr
 obtain ⟨⟨cs,h'⟩,q1,q2⟩:=hc a h1
 unfold callO
 rw [q1]
 exact s a cs h' h1 q2 r h2
theorem Sim.ret {r:β} {v:δ} {s:α} (h:K v=some s) (q:Q r s):Sim (some r) ((some v).bind K) Q:=fun r' hr=>by
 cases hr;exact ⟨s,h,q⟩
theorem Sim.fin {r:β} {o:Option α} {s:α} (h:o=some s) (q:Q r s):Sim (some r) (o.bind some) Q:=fun r' hr=>by
 cases hr;exact ⟨s,by rw [h];rfl,q⟩
theorem Sim.mono {P:β→α→Prop} (h:Sim x y P) (hq:∀ r s,P r s→Q r s):Sim x y Q:=fun r hr=>by
 obtain ⟨s,q1,q2⟩:=h r hr;exact ⟨s,q1,hq r s q2⟩
theorem Sim.ev {G:Cfg} {X:CallF} {f:FuncId} {σ:Stamp} {a:List V} {h:H} {Q:β→List C×H→Prop} (hX:X f σ a h=none) (s:Sim x ((cvBody G (ev G X) (cvL G X) f σ a h).bind some) Q):Sim x (Ev.ev G X f σ a h) Q:=by
 intro r hr
 obtain ⟨s,q1,q2⟩:=s r hr
 exact ⟨s,ev_cv hX (by rw [← q1];cases cvBody G (Ev.ev G X) (cvL G X) f σ a h<;>rfl),q2⟩
theorem Sim.round {G:Cfg} {X:CallF} {c:Code} {l:Lv} {σ:Stamp} {e:Env} {h:H} {K:Exit×Env×H→Option α} (s:Sim x ((z1o G (Ev.ev G X) (cvL G X) c l σ e h).bind K) Q):Sim x ((cvL G X c l σ e h).bind K) Q:=by
 intro r hr
 obtain ⟨s,q1,q2⟩:=s r hr
 obtain ⟨b,q3,q4⟩:=Option.bind_eq_some_iff.1 q1
 exact ⟨s,by rw [zd7 q3];exact q4,q2⟩
theorem Sim.get {r:β} {y:α} (h:Sim x (Option.some y) Q) (hx:x=Option.some r):Q r y:=by
 obtain ⟨s,q1,q2⟩:=h r hx
 cases q1;exact q2
end

structure Dt (α:Type) where
 sz:Nat
 R:α→List V→Prop
 len:∀ {a vs},R a vs→vs.length=sz
 still:∀ {a vs},R a vs→Stills vs
def RL {α β:Type} (R:α→List β→Prop):List α→List β→Prop
 | [],cs=>cs=[]
 | x::xs,cs=>∃ a b,cs=a++b∧R x a∧RL R xs b
section
variable {α β:Type} {R:α→List β→Prop} {k:Nat}
theorem RL.length (hk:∀ {a vs},R a vs→vs.length=k):∀ {xs:List α} {cs:List β},RL R xs cs→cs.length=xs.length*k
 | [],cs,h=>by simp only [RL] at h;simp [h]
 | x::xs,cs,⟨a,b,h1,h2,h3⟩=>by rw [h1,List.length_append,hk h2,h3.length hk,List.length_cons,Nat.succ_mul,Nat.add_comm]
theorem z8q {a b:List β} {m:Nat} (h:a.length=k):(a++b).drop (k+m)=b.drop m:=by subst h;rw [← List.drop_drop];simp
theorem zbm {a b:List β} {m:Nat} (h:a.length=k):(a++b).take (k+m)=a++b.take m:=by rw [List.take_append,List.take_of_length_le (by omega)];simp [h]
theorem RL.nil:RL R [] []:=rfl
theorem RL.cons {x:α} {xs:List α} {a b:List β} (h:R x a) (t:RL R xs b):RL R (x::xs) (a++b):=⟨a,b,rfl,h,t⟩
theorem RL.append:∀ {xs ys:List α} {a b:List β},RL R xs a→RL R ys b→RL R (xs++ys) (a++b)
 | [],ys,a,b,h,t=>by simp only [RL] at h;subst h;exact t
 | x::xs,ys,a,b,⟨u,w,h1,h2,h3⟩,t=>⟨u,w++b,by rw [h1,List.append_assoc],h2,h3.append t⟩
theorem RL.drop (hk:∀ {a vs},R a vs→vs.length=k):∀ {xs:List α} {cs:List β} (i:Nat),RL R xs cs→RL R (xs.drop i) (cs.drop (i*k))
 | [],cs,i,h=>by simp only [RL] at h;subst h;simp [RL]
 | x::xs,cs,0,h=>by simpa using h
 | x::xs,cs,i+1,⟨a,b,h1,h2,h3⟩=>by
  subst h1
  rw [Nat.succ_mul,Nat.add_comm (i*k),z8q (hk h2)]
  exact h3.drop hk i
theorem RL.take (hk:∀ {a vs},R a vs→vs.length=k):∀ {xs:List α} {cs:List β} (i:Nat),RL R xs cs→RL R (xs.take i) (cs.take (i*k))
 | [],cs,i,h=>by simp only [RL] at h;subst h;simp [RL]
 | x::xs,cs,0,h=>by simp [RL]
 | x::xs,cs,i+1,⟨a,b,h1,h2,h3⟩=>by
  subst h1
  rw [List.take_succ_cons,Nat.succ_mul,Nat.add_comm (i*k),zbm (hk h2)]
  exact .cons h2 (h3.take hk i)
theorem RL.get (hk:∀ {a vs},R a vs→vs.length=k) {xs:List α} {cs:List β} (h:RL R xs cs) {i:Nat} (hi:i<xs.length):∃ ws,R xs[i] ws∧(cs.drop (i*k)).take k=ws:=by
 have h1:=h.drop hk i
 rw [List.drop_eq_getElem_cons hi] at h1
 obtain ⟨a,b,h2,h3,_⟩:=h1
 refine ⟨a,h3,?_⟩
 rw [h2,List.take_append_of_le_length (by rw [hk h3];omega),List.take_of_length_le (by rw [hk h3];omega)]
theorem RL.set (hk:∀ {a vs},R a vs→vs.length=k):∀ {xs:List α} {cs:List β} {i:Nat} {y:α} {ws:List β},RL R xs cs→i<xs.length→R y ws→RL R (xs.set i y) (cs.take (i*k)++ws++cs.drop (i*k+k))
 | [],_,i,_,_,_,hi,_=>by simp at hi
 | x::xs,cs,0,y,ws,⟨a,b,h1,h2,h3⟩,hi,hy=>by
  subst h1
  have:=z8q (b:=b) (m:=0) (hk h2)
  rw [Nat.zero_mul,List.take_zero,List.nil_append,Nat.zero_add,show k=k+0 from rfl,this,List.drop_zero]
  exact .cons hy h3
 | x::xs,cs,i+1,y,ws,⟨a,b,h1,h2,h3⟩,hi,hy=>by
  subst h1
  have:=h3.set hk (by simpa using hi) hy
  rw [List.set_cons_succ]
  have e1:(a++b).take ((i+1)*k)=a++b.take (i*k):=by
   rw [Nat.succ_mul,Nat.add_comm (i*k),zbm (hk h2)]
  have e2:(a++b).drop ((i+1)*k+k)=b.drop (i*k+k):=by
   rw [Nat.succ_mul,show i*k+k+k=k+(i*k+k) by omega,z8q (hk h2)]
  rw [e1,e2,List.append_assoc,List.append_assoc]
  exact .cons h2 (by simpa using this)
theorem RL.all {P:β→Prop} (hp:∀ {a vs},R a vs→∀ v∈vs,P v):∀ {xs:List α} {cs:List β},RL R xs cs→∀ v∈cs,P v
 | [],cs,h,v,hv=>by simp only [RL] at h;subst h;cases hv
 | x::xs,cs,⟨a,b,h1,h2,h3⟩,v,hv=>by
  subst h1
  rcases List.mem_append.1 hv with h | h
  ·exact hp h2 v h
  ·exact h3.all hp v h
theorem RL.rep {x:α} {a:List β} (h:R x a):∀ n,RL R (List.replicate n x) (rept n a)
 | 0=>rfl
 | n+1=>.cons h (RL.rep h n)
end
def dI (k:IntKind):Dt Int:=⟨1,fun n vs=>vs=[.p (.int k n)],fun h=>by simp [h],fun h=>by subst h;exact sC (sI _ _) sN⟩
def dB:Dt Bool:=⟨1,fun n vs=>vs=[.p (.bool n)],fun h=>by simp [h],fun h=>by subst h;exact sC (sB _) sN⟩
def Dt.L {α:Type} (d:Dt α):List α→List V→Prop:=RL d.R
def SlF {α:Type} (d:Dt α) (xs:List α) (v:V):Prop:=∃ cs,Fz v d.sz xs.length cs∧d.L xs cs
def SlH {α:Type} (h:H) (d:Dt α) (xs:List α) (v:V):Prop:=∃ cs,IsSl h v d.sz xs.length cs∧d.L xs cs
theorem SlF.h {α:Type} {d:Dt α} {xs:List α} {v:V} (hv:SlF d xs v) (h:H):SlH h d xs v:=by obtain ⟨cs,h1,h2⟩:=hv;exact ⟨cs,h1 h,h2⟩
theorem SlF.still {α:Type} {d:Dt α} {xs:List α} {v:V} (hv:SlF d xs v):Still v:=by obtain ⟨cs,h1,h2⟩:=hv;exact h1.still
theorem zao {a b:List V} (h:Stills a) (t:Stills b):Stills (a++b):=fun x hx=>by
 rcases List.mem_append.1 hx with hx | hx
 ·exact h x hx
 ·exact t x hx
def dU:Dt Unit:=⟨0,fun _ vs=>vs=[],fun h=>by simp [h],fun h=>by subst h;exact sN⟩
def dP {α β:Type} (a:Dt α) (b:Dt β):Dt (α×β):=⟨a.sz+b.sz,fun x vs=>∃ u w,vs=u++w∧a.R x.1 u∧b.R x.2 w,fun ⟨u,w,h,h1,h2⟩=>by rw [h,List.length_append,a.len h1,b.len h2],
 fun ⟨u,w,h,h1,h2⟩=>by subst h;exact zao (a.still h1) (b.still h2)⟩
def Dt.via {α β:Type} (d:Dt α) (f:β→α):Dt β:=⟨d.sz,fun x vs=>d.R (f x) vs,fun h=>d.len h,fun h=>d.still h⟩
theorem RL.stills {α:Type} {d:Dt α} {xs:List α} {cs:List V} (h:d.L xs cs):Stills cs:=RL.all (fun h=>d.still h) h
def ix {α:Type} (xs:List α) (i:Int):Option α:=if 0≤i then xs[i.toNat]? else none
def sub {α:Type} (xs:List α) (a b:Int):Option (List α):=if 0≤a∧a≤b∧b≤xs.length then some ((xs.drop a.toNat).take (b-a).toNat) else none
def ap {α:Type} (b:Nat) (xs ys:List α):Option (List α):=if (xs.length+ys.length)*b≤140737488355328∧xs.length+ys.length<2305843009213693952 then some (xs++ys) else none
def mk {α:Type} (b:Nat) (z:α) (n:Int):Option (List α):=if 0≤n∧n*b≤140737488355328∧n<2305843009213693952 then some (List.replicate n.toNat z) else none
def stx {α:Type} (xs:List α) (i:Int) (x:α):Option (List α):=if 0≤i∧i<xs.length then some (xs.set i.toNat x) else none
theorem z7w {α:Type} {xs:List α} {i:Int} {x:α} (h:ix xs i=some x):0≤i∧∃ hi:i.toNat<xs.length,xs[i.toNat]=x:=by
 unfold ix at h
 split at h
 ·rename_i h0;exact ⟨h0,List.getElem?_eq_some_iff.1 h⟩
 ·cases h
theorem zb6 {α:Type} {xs ys:List α} {a b:Int} (h:sub xs a b=some ys):(0≤a∧a≤b∧b≤xs.length)∧ys=(xs.drop a.toNat).take (b-a).toNat:=by
 unfold sub at h
 split at h
 ·rename_i h0;exact ⟨h0,(Option.some.inj h).symm⟩
 ·cases h
theorem zev {α:Type} {b:Nat} {xs ys zs:List α} (h:ap b xs ys=some zs):((xs.length+ys.length)*b≤2^47∧xs.length+ys.length<2^61)∧zs=xs++ys:=by
 unfold ap at h
 split at h
 ·rename_i h0;exact ⟨h0,(Option.some.inj h).symm⟩
 ·cases h
theorem zc8 {α:Type} {b:Nat} {z:α} {n:Int} {zs:List α} (h:mk b z n=some zs):(0≤n∧n*b≤2^47∧n<2^61)∧zs=List.replicate n.toNat z:=by
 unfold mk at h
 split at h
 ·rename_i h0;exact ⟨h0,(Option.some.inj h).symm⟩
 ·cases h
theorem zas {α:Type} {xs ys:List α} {i:Int} {x:α} (h:stx xs i x=some ys):(0≤i∧i<xs.length)∧ys=xs.set i.toNat x:=by
 unfold stx at h
 split at h
 ·rename_i h0;exact ⟨h0,(Option.some.inj h).symm⟩
 ·cases h

def subV (e:Nat) (v:V) (a b:Nat):V :=
 match v with
 | .sl l off len av esz=>.sl l (off+a*esz) (b-a) (av-a) esz
 | .fz cs len esz tight=>.fz ((cs.drop (a*esz)).take ((b-a)*esz)) (b-a) esz (tight&&b==len)
 | v=>v
section
variable {h:H} {v:V} {k n:Nat} {cs:List V}
theorem IsSl.sub (hs:IsSl h v k n cs) {a b:Nat} (hab:a≤b) (hb:b≤n):IsSl h (subV k v a b) k (b-a) ((cs.drop (a*k)).take ((b-a)*k)):=by
 have hc:=hs.clen
 rcases hs.cases with ⟨rfl,rfl,rfl⟩ | ⟨t,rfl⟩ | ⟨l,off,av,ds,rfl,hn,hl,hv,hav⟩
 ·have h1:a=0:=by omega
  have h2:b=0:=by omega
  subst h1;subst h2
  simpa [subV] using IsSl.nil h k
 ·refine Fz.fz ?_ _ h
  rw [List.length_take,List.length_drop,hc,← Nat.sub_mul]
  exact Nat.min_eq_left (Nat.mul_le_mul_right _ (by omega))
 ·have h1:(b-a)*k=b*k-a*k:=Nat.sub_mul _ _ _
  have h2:=Nat.mul_le_mul_right k hab
  have h3:=Nat.mul_le_mul_right k hb
  refine .mk_sl hn (by omega) ?_ (by omega)
  have q:=z7k (n:=(b-a)*k) (z7g (n:=a*k) hv)
  rw [List.drop_take,List.drop_drop,List.take_take,Nat.min_eq_left (by omega)] at q
  exact q
end
end Go.Ev
namespace Go.Ev
set_option linter.unusedVariables false
set_option linter.unusedSimpArgs false
def AtC (h:H) (l:Loc) (off:Nat) (cs:List C):Prop:=∃ p q,nd h l=some (p++cs++q)∧p.length=off
def ptC (h:H) (l:Loc) (off:Nat) (cs:List C):H:=match nd h l with | some all=>setNd h l (all.take off++cs++all.drop (off+cs.length)) | none=>h
section
variable {h:H} {l:Loc} {off:Nat} {cs cs':List C}
theorem ptC_eq {p q:List C} (hn:nd h l=some (p++cs++q)) (hp:p.length=off) (hc:cs'.length=cs.length):ptC h l off cs'=setNd h l (p++cs'++q):=by
 unfold ptC
 rw [hn]
 simp only
 congr 2
 ·rw [List.append_assoc,List.take_append_of_le_length (by omega),List.take_of_length_le (by omega)]
 ·rw [hc,List.append_assoc,← hp,← List.drop_drop];simp
theorem AtC.put (ha:AtC h l off cs) (hc:cs'.length=cs.length):AtC (ptC h l off cs') l off cs':=by
 obtain ⟨p,q,hn,hp⟩:=ha
 rw [ptC_eq hn hp hc]
 exact ⟨p,q,zbn hn _,hp⟩
theorem AtC.put_put (ha:AtC h l off cs) {a b:List C} (hc:a.length=cs.length) (hd:b.length=cs.length):ptC (ptC h l off a) l off b=ptC h l off b:=by
 obtain ⟨p,q,hn,hp⟩:=ha
 have h1:=zbn hn (p++a++q)
 rw [ptC_eq hn hp hc,ptC_eq h1 hp (by rw [hd,hc]),ptC_eq hn hp hd,zc3 hn]
theorem AtC.same (ha:AtC h l off cs):ptC h l off cs=h:=by
 obtain ⟨p,q,hn,hp⟩:=ha
 rw [ptC_eq hn hp rfl,zcx hn]
theorem AtC.up (ha:AtC h l off cs) (L:Layer):AtC (L::h) l off cs:=by
 obtain ⟨p,q,hn,hp⟩:=ha
 exact ⟨p,q,nd_up hn L,hp⟩
theorem AtC.put_up (ha:AtC h l off cs) (L:Layer) (hc:cs'.length=cs.length):ptC (L::h) l off cs'=L::ptC h l off cs':=by
 obtain ⟨p,q,hn,hp⟩:=ha
 rw [ptC_eq (nd_up hn L) hp hc,ptC_eq hn hp hc,zdy hn]
theorem zcl (h:H) (l:Loc) (off:Nat) (cs:List C):(ptC h l off cs).length=h.length:=by
 unfold ptC;split
 ·exact zb1 ..
 ·rfl
def Loc.key (l:Loc):Nat×Nat×Nat:=(l.lvl,l.slot,l.comp)
theorem AtC.frame {l':Loc} {off':Nat} {ds:List C} (ha:AtC h l' off' ds) (hk:l.key≠l'.key):AtC (ptC h l off cs) l' off' ds:=by
 obtain ⟨p,q,hn,hp⟩:=ha
 unfold ptC;split
 ·exact ⟨p,q,by rw [z5k hk,hn],hp⟩
 ·exact ⟨p,q,hn,hp⟩
theorem z74:∀ (h:H) (l l':Loc) (a b:C),l.key≠l'.key→z9 (z9 h l a) l' b=z9 (z9 h l' b) l a
 | [],_,_,_,_,_=>rfl
 | L::h,l,l',a,b,hk=>by
  by_cases h1:l.lvl=h.length
  ·by_cases h2:l'.lvl=h.length
   ·simp only [z9,h1,h2,if_true]
    congr 1
    by_cases hs:l.slot=l'.slot
    ·have hc:l.comp≠l'.comp:=fun hc=>hk (by simp [Loc.key,h1,h2,hs,hc])
     by_cases hlt:l.slot<L.length
     ·rw [← hs,List.getElem?_set_self hlt,List.getElem?_set_self hlt,List.set_set,List.set_set,Option.getD_some,Option.getD_some,List.set_comm _ _ hc]
     ·rw [← hs]
      rw [List.set_eq_of_length_le (by simp;omega),List.set_eq_of_length_le (by omega),List.set_eq_of_length_le (by simp;omega),List.set_eq_of_length_le (by omega)]
    ·rw [List.getElem?_set_ne hs,List.getElem?_set_ne (Ne.symm hs),List.set_comm _ _ hs]
   ·simp [z9,h1,h2,z1a]
  ·by_cases h2:l'.lvl=h.length
   ·simp [z9,h1,h2,z1a]
   ·simp only [z9,h1,h2,if_false,z1a]
    rw [z74 h l l' a b hk]
theorem z9c {h:H} {l:Loc} {cs:List C} (hn:nd h l=some cs):∃ c r,rootC h l=some r∧at_ h l=some c∧∀ g x,rootC g l=some r→setNd g l x=z9 g l (repl r l.s l.hops (c.withNode x)):=by
 obtain ⟨r,hr⟩:=z4i hn
 unfold nd at hn
 cases ha:at_ h l with
 | none=>simp [ha] at hn
 | some c =>
  refine ⟨c,r,hr,rfl,fun g x hg=>?_⟩
  have:at_ g l=some c:=by rw [at_,hg];rw [at_,hr] at ha;exact ha
  simp [setNd,this,setAt,hg]
theorem AtC.comm {l':Loc} {off':Nat} {ds a b:List C} (ha:AtC h l off cs) (hb:AtC h l' off' ds) (hk:l.key≠l'.key) (hc:a.length=cs.length) (hd:b.length=ds.length):ptC (ptC h l off a) l' off' b=ptC (ptC h l' off' b) l off a:=by
 obtain ⟨p,q,hn,hp⟩:=ha
 obtain ⟨p',q',hn',hp'⟩:=hb
 have k1:=(z5k (h:=h) (cs:=p++a++q) hk).trans hn'
 have k2:=(z5k (h:=h) (cs:=p'++b++q') (Ne.symm hk)).trans hn
 rw [ptC_eq hn hp hc,ptC_eq k1 hp' hd,ptC_eq hn' hp' hd,ptC_eq k2 hp hc]
 obtain ⟨c1,r1,hr1,_,f1⟩:=z9c hn
 obtain ⟨c2,r2,hr2,_,f2⟩:=z9c hn'
 rw [f1 h _ hr1,f2 h _ hr2]
 rw [f2 _ _ (by rw [z2t hk];exact hr2),f1 _ _ (by rw [z2t (Ne.symm hk)];exact hr1)]
 exact z74 _ _ _ _ _ hk
end
structure Rt where
 l:Loc
 off:Nat
 cs:List C
def pts (h:H):List Rt→H
 | []=>h
 | r::rs=>ptC (pts h rs) r.l r.off r.cs
def BOk (h:H):List Rt→Prop
 | []=>True
 | r::rs=>(∃ cs,cs.length=r.cs.length∧AtC h r.l r.off cs)∧(∀ q∈rs,q.l.key≠r.l.key)∧BOk h rs
section
variable {h:H}
theorem zj:∀ (B:List Rt),(pts h B).length=h.length
 | []=>rfl
 | r::rs=>by rw [pts,zcl,zj rs]
theorem AtC.frames {l:Loc} {off:Nat} {cs:List C} (ha:AtC h l off cs):∀ {B:List Rt},(∀ q∈B,q.l.key≠l.key)→AtC (pts h B) l off cs
 | [],_=>ha
 | r::rs,hk=>(ha.frames fun q hq=>hk q (List.mem_cons_of_mem _ hq)).frame (hk r (List.mem_cons_self ..))
theorem BOk.at:∀ {B:List Rt} {i:Nat} {r:Rt},BOk h B→B[i]?=some r→AtC (pts h B) r.l r.off r.cs
 | [],_,_,_,hi=>by simp at hi
 | r::rs,0,_,⟨⟨cs,h1,h2⟩,h3,h4⟩,hi=>by
  simp only [List.getElem?_cons_zero,Option.some.injEq] at hi;subst hi
  exact (h2.frames h3).put h1.symm
 | r::rs,i+1,r',⟨_,h3,h4⟩,hi=>by
  simp only [List.getElem?_cons_succ] at hi
  exact (BOk.at h4 hi).frame (Ne.symm (h3 r' (List.mem_of_getElem? hi)))
theorem BOk.set:∀ {B:List Rt} {i:Nat} {r:Rt} {cs:List C},BOk h B→B[i]?=some r→cs.length=r.cs.length→BOk h (B.set i ⟨r.l,r.off,cs⟩)
 | [],_,_,_,_,hi,_=>by simp at hi
 | r::rs,0,_,cs,⟨⟨ds,h1,h2⟩,h3,h4⟩,hi,hc=>by
  simp only [List.getElem?_cons_zero,Option.some.injEq] at hi;subst hi
  exact ⟨⟨ds,by simp [h1,hc],h2⟩,h3,h4⟩
 | r::rs,i+1,r',cs,⟨h1,h3,h4⟩,hi,hc=>by
  simp only [List.getElem?_cons_succ] at hi
  refine ⟨h1,fun q hq=>?_,h4.set hi hc⟩
  rcases List.mem_or_eq_of_mem_set hq with hq | rfl
  ·exact h3 q hq
  ·exact h3 r' (List.mem_of_getElem? hi)
theorem BOk.pt:∀ {B:List Rt} {i:Nat} {r:Rt} {cs:List C},BOk h B→B[i]?=some r→cs.length=r.cs.length→ptC (pts h B) r.l r.off cs=pts h (B.set i ⟨r.l,r.off,cs⟩)
 | [],_,_,_,_,hi,_=>by simp at hi
 | r::rs,0,_,cs,⟨⟨ds,h1,h2⟩,h3,h4⟩,hi,hc=>by
  simp only [List.getElem?_cons_zero,Option.some.injEq] at hi;subst hi
  exact (h2.frames h3).put_put h1.symm (by omega)
 | r::rs,i+1,r',cs,⟨⟨ds,h1,h2⟩,h3,h4⟩,hi,hc=>by
  simp only [List.getElem?_cons_succ] at hi
  simp only [pts,List.set_cons_succ]
  rw [(h2.frames h3).comm (h4.at hi) (Ne.symm (h3 r' (List.mem_of_getElem? hi))) h1.symm hc,h4.pt hi hc]
theorem BOk.same:∀ {B:List Rt},(∀ r∈B,AtC h r.l r.off r.cs)→pts h B=h
 | [],_=>rfl
 | r::rs,ha=>by rw [pts,BOk.same fun q hq=>ha q (List.mem_cons_of_mem _ hq)];exact (ha r (List.mem_cons_self ..)).same
end
def GrowS (D:List Nat) (L:Layer) (n0:Nat) (v:V) (k n:Nat) (xs:List V):Prop :=
 (n=0∧xs=[]∧(v=.p (.slice none 0 0)∨v=.fz [] 0 k true))∨(xs.length=n*k∧∃ d∈D,∃ s tl,v=.sl ⟨n0,d,0,s,[]⟩ 0 n n k∧L[d]?=some (.arr s n k (xs.map .v)::tl))∨(v=.fz xs n k true∧xs.length=n*k∧Stills xs∧∃ d∈D,1000000≤d)
section
variable {D:List Nat} {L L':Layer} {h:H} {n0:Nat} {v:V} {k n:Nat} {xs:List V}
theorem GrowS.frame (ha:GrowS D L n0 v k n xs) (hL:∀ d∈D,L'[d]?=L[d]?):GrowS D L' n0 v k n xs:=by
 rcases ha with ha | ⟨h2,d,hd,s,tl,rfl,h3⟩ | ha
 ·exact .inl ha
 ·exact .inr (.inl ⟨h2,d,hd,s,tl,rfl,by rw [hL d hd];exact h3⟩)
 ·exact .inr (.inr ha)
theorem GrowS.sl (ha:GrowS D L h.length v k n xs):IsSl (L::h) v k n xs:=by
 rcases ha with ⟨rfl,rfl,rfl | rfl⟩ | ⟨h2,d,hd,s,tl,rfl,h3⟩ | ⟨rfl,h2,_⟩
 ·exact .nil _ _
 ·exact Fz.fz (by simp) _ _
 ·exact .mk_sl (nd_arr h3) (by simp [h2]) (by rw [List.drop_zero,List.take_of_length_le (by simp [h2]),z3q]) (Nat.le_refl _)
 ·exact Fz.fz h2 _ _
theorem Still.leafs {ys:List V} (h:Stills ys):ys.all leafV=true:=List.all_eq_true.2 fun y hy=>(h y hy).leaf
structure Ys (h:H) (y:V) (k m:Nat) (ys:List V):Prop where
 len:lenOf y=some m
 cells:cellsOf h y=some ys
 clen:ys.length=m*k
theorem IsSl.ys {h:H} {y:V} {k m:Nat} {ys:List V} (hs:IsSl h y k m ys):Ys h y k m ys:=⟨hs.len,hs.cells,hs.clen⟩
theorem Ys.none {h:H} {own:Bool} {b d:Nat} {σ:Stamp} {x y:V} {xs:List V} (hy:Ys h y k 0 xs) (hx:isSl x=true) (he:k≠0):apO own k b σ d h x y=some (x,h):=by
 unfold apO
 rw [hy.len,hy.cells]
 simp only [Option.bind_some]
 rw [if_neg (by have:=hy.clen;simp [this,he]),if_pos trivial,if_pos hx]
theorem GrowS.app (ha:GrowS D L h.length v k n xs) {own:Bool} {b d m:Nat} {σ:Stamp} {y:V} {ys:List V} (hd:d<L.length) (hy:Ys (L::h) y k m ys) (hs:Stills ys) (hk:k≠0) (hb:(n+m)*b≤2^47) (hb2:n+m<2^61) :
  ∃ v' L',apO own k b σ d (L::h) v y=some (v',L'::h)∧GrowS (d::D) L' h.length v' k (n+m) (xs++ys)∧L'.length=L.length∧∀ j,j∉d::D→L'[j]?=L[j]?:=by
 by_cases hm:m=0
 ·subst hm
  have h0:ys=[]:=by have:=hy.clen;simpa using this
  subst h0
  have hsl:isSl v=true:=by
   rcases ha with ⟨_,_,rfl | rfl⟩ | ⟨_,_,_,_,_,rfl,_⟩ | ⟨rfl,_⟩<;>rfl
  refine ⟨v,L,hy.none hsl hk,?_,rfl,fun _ _=>rfl⟩
  rw [List.append_nil,Nat.add_zero]
  rcases ha with ha | ⟨h2,d',hd',r⟩ | ⟨a1,a2,a3,d',hd',a4⟩
  ·exact .inl ha
  ·exact .inr (.inl ⟨h2,d',List.mem_cons_of_mem _ hd',r⟩)
  ·exact .inr (.inr ⟨a1,a2,a3,d',List.mem_cons_of_mem _ hd',a4⟩)
 ·have hcl:=hy.clen
  have base:∀ x,apO own k b σ d (L::h) x y=apTo k b σ d (L::h) m (ys.map .v) x:=fun x=>by
   unfold apO
   rw [hy.len,hy.cells]
   simp only [Option.bind_some]
   rw [if_neg (by simp [hcl,hk]),if_neg hm,z22 own _ hs]
   rfl
  rcases ha with ⟨rfl,rfl,rfl | rfl⟩ | ⟨h2,d',hd',s,tl,rfl,h3⟩ | ⟨rfl,h2,h3,_⟩
  ·refine ⟨_,L.set d [.arr σ m k (ys.map .v)],?_,.inr (.inl ⟨by simpa using hcl,d,List.mem_cons_self ..,σ,[],by rw [Nat.zero_add],by simp [hd]⟩),by simp,fun j hj=>?_⟩
   ·rw [base,apTo,if_pos ⟨by simpa using hb,by simpa using hb2⟩];simp
   ·rw [List.getElem?_set_ne (fun e=>hj (by rw [← e];exact List.mem_cons_self ..))]
  ·refine ⟨_,L.set d [.arr σ (0+m) k (ys.map .v)],?_,.inr (.inl ⟨by simpa using hcl,d,List.mem_cons_self ..,σ,[],rfl,by simp [hd]⟩),by simp,fun j hj=>?_⟩
   ·rw [base,apTo,if_pos ⟨rfl,rfl,by simp,by simpa using hb,by simpa using hb2,by simp⟩];simp
   ·rw [List.getElem?_set_ne (fun e=>hj (by rw [← e];exact List.mem_cons_self ..))]
  ·refine ⟨_,(L.set d' (.dead::tl)).set d [.arr σ (n+m) k (xs.map .v++ys.map .v)],?_,.inr (.inl ⟨by rw [List.length_append,h2,hcl,Nat.add_mul],d,List.mem_cons_self ..,σ,[],rfl,by simp [hd]⟩),by simp,fun j hj=>?_⟩
   ·rw [base,apTo,if_neg (by simp),nd_arr h3]
    simp only [Option.bind_some]
    rw [if_neg (by omega),if_pos ⟨trivial,by simpa using h2,hb,hb2⟩,z3j h3]
    simp
   ·rw [List.getElem?_set_ne (fun e=>hj (by rw [← e];exact List.mem_cons_self ..)),List.getElem?_set_ne (fun e=>hj (by rw [← e];exact List.mem_cons_of_mem _ hd'))]
  ·refine ⟨_,L.set d [.arr σ (n+m) k (xs.map .v++ys.map .v)],?_,.inr (.inl ⟨by rw [List.length_append,h2,hcl,Nat.add_mul],d,List.mem_cons_self ..,σ,[],rfl,by simp [hd]⟩),by simp,fun j hj=>?_⟩
   ·rw [base,apTo,if_pos ⟨rfl,rfl,h2,hb,hb2,Still.leafs h3⟩];simp
   ·rw [List.getElem?_set_ne (fun e=>hj (by rw [← e];exact List.mem_cons_self ..))]
theorem GrowS.frz (ha:GrowS D L h.length v k n xs) (σ:Stamp):∃ v',fin true σ (L::h) [v]=some ([.v v'],h)∧Fz v' k n xs:=by
 rcases ha with ⟨rfl,rfl,rfl | rfl⟩ | ⟨h2,d',hd',s,tl,rfl,h3⟩ | ⟨rfl,h2,_⟩
 ·exact ⟨_,fin_1 still_nilS,.nil k⟩
 ·exact ⟨_,fin_1 (by simp),.fz (by simp) _⟩
 ·exact ⟨_,zcg h3 h2,.fz h2 _⟩
 ·exact ⟨_,fin_1 (by simp),.fz h2 _⟩
def OwnS (c:C) (k n:Nat) (xs:List V):Prop:=xs.length=n*k∧((n=0∧xs=[]∧(c=.v (.p (.slice none 0 0))∨c=.v (.fz [] 0 k true)))∨∃ s,c=.arr s n k (xs.map .v))
def noLit (D:List Nat):Bool:=D.all fun d=>decide (d<1000000)
theorem z6k {D:List Nat} (h:noLit D=true) (hd:∃ d∈D,1000000≤d):False:=by
 obtain ⟨d,h1,h2⟩:=hd
 have:=List.all_eq_true.1 h d h1
 simp at this;omega
theorem GrowS.own (ha:GrowS D L h.length v k n xs) (hD:noLit D=true) (σ:Stamp):∃ c,fin false σ (L::h) [v]=some ([c],h)∧OwnS c k n xs:=by
 rcases ha with ⟨rfl,rfl,rfl | rfl⟩ | ⟨h2,d',hd',s,tl,rfl,h3⟩ | ⟨_,_,_,hd⟩
 ·exact ⟨_,fin_1 still_nilS,by simp,.inl ⟨rfl,rfl,.inl rfl⟩⟩
 ·exact ⟨_,fin_1 (by simp),by simp,.inl ⟨rfl,rfl,.inr rfl⟩⟩
 ·exact ⟨_,zcf h3 (by simpa using h2),h2,.inr ⟨s,rfl⟩⟩
 ·exact (z6k hD hd).elim
theorem OwnS.land {c:C} (ho:OwnS c k n xs) {d:Nat} (hd:d<L.length) :
  ∃ v L',land (L::h) (some d) [c]=(v,L'::h)∧GrowS [d] L' h.length v k n xs∧L'.length=L.length∧∀ j,j≠d→L'[j]?=L[j]?:=by
 obtain ⟨hl,⟨rfl,rfl,rfl | rfl⟩ | ⟨s,rfl⟩⟩:=ho
 ·exact ⟨_,L,rfl,.inl ⟨rfl,rfl,.inl rfl⟩,rfl,fun _ _=>rfl⟩
 ·exact ⟨_,L,rfl,.inl ⟨rfl,rfl,.inr rfl⟩,rfl,fun _ _=>rfl⟩
 ·exact ⟨.sl ⟨h.length,d,0,s,[]⟩ 0 n n k,L.set d [.arr s n k (xs.map .v)],by simp [Go.Ev.land,resVs,tupV,z3z],.inr (.inl ⟨hl,d,List.mem_singleton.2 rfl,s,[],rfl,by simp [hd]⟩),by simp,fun j hj=>by rw [List.getElem?_set_ne (Ne.symm hj)]⟩
theorem GrowS.set (ha:GrowS D L h.length v k n xs) (hD:noLit D=true) {own:Bool} {σ:Stamp} {j:Nat} {x:V} (hj:j<xs.length) (hx:Still x) :
  ∃ L',stO own 1 σ (L::h) (adr v j) x=some (L'::h)∧GrowS D L' h.length v k n (xs.set j x)∧L'.length=L.length∧∀ j,j∉D→L'[j]?=L[j]?:=by
 rcases ha with ⟨rfl,rfl,_⟩ | ⟨h2,d',hd',s,tl,rfl,h3⟩ | ⟨_,_,_,hd⟩
 ·simp at hj
 ·have hlt:=(List.getElem?_eq_some_iff.1 h3).1
  refine ⟨L.set d' (.arr s n k ((xs.set j x).map .v)::tl),?_,.inr (.inl ⟨by simpa using h2,d',hd',s,tl,rfl,by simp [hlt]⟩),by simp,fun j hj=>?_⟩
  ·rw [adr,Nat.zero_add,z77 hx (nd_arr h3) (by simpa using hj),zad h3]
   simp [List.map_set]
  ·rw [List.getElem?_set_ne (fun e=>hj (by rw [← e];exact hd'))]
 ·exact (z6k hD hd).elim
theorem GrowS.make {e b d:Nat} {z:List V} {n:Int} {σ:Stamp} (hd:d<L.length) (h0:0≤n) (hb:n*b≤2^47) (hn:n<2^62) (hz:z.length=e) (he:e≠0) :
  ∃ v L',mkO e b z σ d (L::h) n n=some (v,L'::h)∧GrowS [d] L' h.length v e n.toNat (rept n.toNat z)∧L'.length=L.length∧∀ j,j≠d→L'[j]?=L[j]?:=by
 have hr:∀ m,(rept m z).length=m*e:=fun m=>by
  induction m with
  | zero=>simp [rept]
  | succ m ih=>rw [rept,List.length_append,hz,ih,Nat.succ_mul,Nat.add_comm]
 refine ⟨_,_,mkO_ok h0 hb hn hz he,.inr (.inl ⟨hr _,d,List.mem_singleton.2 rfl,σ,[],rfl,by simp [hd]⟩),by simp,fun j hj=>?_⟩
 rw [List.getElem?_set_ne (Ne.symm hj)]
end
end Go.Ev
namespace Go.Ev
set_option linter.unusedVariables false
set_option linter.unusedSimpArgs false
section
variable {h:H} {l:Loc} {off j:Nat} {cs:List C}
theorem AtC.rng (ha:AtC h l off cs) {n:Nat} (hj:j+n≤cs.length):∃ all,nd h l=some all∧Go.Ev.rng all (off+j) n=some ((cs.drop j).take n):=by
 obtain ⟨p,q,hn,hp⟩:=ha
 refine ⟨_,hn,?_⟩
 unfold Go.Ev.rng
 rw [if_pos (by simp;omega)]
 congr 1
 rw [← List.drop_drop,List.append_assoc,← hp,List.drop_left,List.drop_append_of_le_length (by omega),List.take_append_of_le_length (by rw [List.length_drop];omega)]
theorem AtC.ldAgg (ha:AtC h l off cs) {n:Nat} {agg:Bool} {xs:List V} (hj:j+n≤cs.length) (hx:toVs l (off+j) ((cs.drop j).take n)=some xs):ldO agg n h (.ref l (off+j))=mkV agg xs:=by
 obtain ⟨all,h1,h2⟩:=ha.rng hj
 simp only [ldO,h1,h2,Option.bind_some,hx]
theorem ze1 {α:Type} {cs:List α} {j:Nat} {c:α} (hj:cs[j]?=some c):(cs.drop j).take 1=[c]:=by
 obtain ⟨hlt,he⟩:=List.getElem?_eq_some_iff.1 hj
 rw [List.drop_eq_getElem_cons hlt,he];rfl
theorem AtC.ldC (ha:AtC h l off cs) {c:C} {x:V} (hj:cs[j]?=some c) (hx:toV l (off+j) c=some x):ldO false 1 h (.ref l (off+j))=some x:=by
 have hlt:=(List.getElem?_eq_some_iff.1 hj).1
 rw [ha.ldAgg (xs:=[x]) (by omega) (by rw [ze1 hj];simp [toVs,hx])]
 rfl
theorem AtC.ld (ha:AtC h l off cs) {x:V} (hj:cs[j]?=some (.v x)):ldO false 1 h (.ref l (off+j))=some x:=ha.ldC hj rfl
theorem AtC.st (ha:AtC h l off cs) {own:Bool} {σ:Stamp} {x:V} (hx:Still x) (hj:j<cs.length):stO own 1 σ h (.ref l (off+j)) x=some (ptC h l off (cs.set j (.v x))):=by
 obtain ⟨p,q,hn,hp⟩:=ha
 rw [z77 hx hn (by simp;omega),ptC_eq hn hp (by simp)]
 congr 2
 rw [List.append_assoc,List.set_append_right _ _ (by omega),List.set_append_left _ _ (by omega),← List.append_assoc]
 congr 3
 omega
theorem AtC.stVs (ha:AtC h l off cs) {own:Bool} {σ:Stamp} {xs:List V} {n:Nat} (hx:Stills xs) (hn:xs.length=n) (hj:j+n≤cs.length):stO own n σ h (.ref l (off+j)) (.agg xs)=some (ptC h l off (cs.take j++xs.map .v++cs.drop (j+n))):=by
 subst hn
 obtain ⟨p,q,hn,hp⟩:=ha
 rw [zej hx hn (by simp;omega),ptC_eq hn hp (by simp;omega)]
 congr 2
 rw [List.append_assoc p,List.take_append,List.take_of_length_le (l:=p) (by omega),List.drop_append,List.drop_of_length_le (l:=p) (by omega),List.nil_append,hp,Nat.add_sub_cancel_left,Nat.add_assoc,Nat.add_sub_cancel_left,List.take_append_of_le_length (by omega),List.drop_append_of_le_length (by omega)]
 simp
theorem AtC.hop (ha:AtC h l off cs) {c:C} {s:Stamp} {ds:List C} (hj:cs[j]?=some c) (hd:c.node s=some ds):AtC h (l.hop (off+j) s) 0 ds:=by
 obtain ⟨p,q,hn,hp⟩:=ha
 have hlt:=(List.getElem?_eq_some_iff.1 hj).1
 refine ⟨[],[],?_,rfl⟩
 rw [nd_in hn (c:=c) (ds:=ds) _ hd]
 ·simp
 ·rw [List.append_assoc,List.getElem?_append_right (by omega),show off+j-p.length=j by omega,List.getElem?_append_left hlt,hj]
theorem AtC.hop_pt (ha:AtC h l off cs) {c:C} {s:Stamp} {ds ds':List C} (hj:cs[j]?=some c) (hd:c.node s=some ds) (hl:ds'.length=ds.length):ptC h (l.hop (off+j) s) 0 ds'=ptC h l off (cs.set j (c.withNode ds')):=by
 have h0:=ha
 obtain ⟨p,q,hn,hp⟩:=ha
 have hlt:=(List.getElem?_eq_some_iff.1 hj).1
 have hc:(p++cs++q)[off+j]?=some c:=by rw [List.append_assoc,List.getElem?_append_right (by omega),show off+j-p.length=j by omega,List.getElem?_append_left hlt,hj]
 have h1:nd h (l.hop (off+j) s)=some ([]++ds++[]):=by rw [nd_in hn hc hd];simp
 rw [ptC_eq (off:=0) h1 rfl hl,ptC_eq hn hp (by simp)]
 simp only [List.nil_append,List.append_nil]
 rw [ze0 hn hc hd]
 congr 1
 rw [List.append_assoc,List.set_append_right _ _ (by omega),List.set_append_left _ _ (by omega),← List.append_assoc]
 congr 3
 omega
theorem AtC.seg_pt (ha:AtC h l off cs) {m:Nat} {ds:List C} (hj:j+m≤cs.length) (hd:ds.length=m):ptC h l (off+j) ds=ptC h l off (cs.take j++ds++cs.drop (j+m)):=by
 obtain ⟨p,q,hn,hp⟩:=ha
 have h1:nd h l=some ((p++cs.take j)++(cs.drop j).take m++(cs.drop (j+m)++q)):=by
  rw [hn]
  congr 1
  simp only [List.append_assoc]
  congr 1
  rw [← List.drop_drop,← List.append_assoc ((cs.drop j).take m),List.take_append_drop,← List.append_assoc,List.take_append_drop]
 rw [ptC_eq h1 (by simp;omega) (by simp;omega),ptC_eq hn hp (by simp;omega)]
 congr 1
 simp
end

section
variable {α:Type} {h:H} {d:Dt α} {xs:List α} {v:V}
structure El (h:H) (v:V) (o:Nat) (ws:List V):Prop where
 ld:∀ {j y},ws[j]?=some y→ldO false 1 h (adr v (o+j))=some y
 fa:∀ {j},j≤ws.length→fA (adr v o) j=some (adr v (o+j))
 all:0<ws.length→ldO true ws.length h (adr v o)=some (.agg ws)
 ldn:∀ {j n},0<n→j+n≤ws.length→ldO true n h (adr v (o+j))=some (.agg ((ws.drop j).take n))
theorem SlH.len (hv:SlH h d xs v):lenO v=some (.p (.int .i64 xs.length)):=by obtain ⟨cs,h1,h2⟩:=hv;exact h1.lenO
theorem SlH.iS (hv:SlH h d xs v) {i:Int} {x:α} (hx:ix xs i=some x) {e:Nat} (he:d.sz=e):Go.Ev.iS e v i=some (adr v (i.toNat*e)):=by
 subst he
 obtain ⟨cs,h1,h2⟩:=hv
 obtain ⟨h0,hi,_⟩:=z7w hx
 exact h1.iS h0 (by omega)
theorem SlH.el (hv:SlH h d xs v) {i:Int} {x:α} (hx:ix xs i=some x) {e:Nat} (he:d.sz=e):∃ ws,d.R x ws∧El h v (i.toNat*e) ws:=by
 subst he
 obtain ⟨cs,h1,h2⟩:=hv
 obtain ⟨h0,hi,rfl⟩:=z7w hx
 obtain ⟨ws,hR,hw⟩:=RL.get (fun h=>d.len h) h2 hi
 have hl:=d.len hR
 have hc:=h1.clen
 have hle:i.toNat*d.sz+d.sz≤cs.length:=by
  have:=Nat.mul_le_mul_right d.sz (Nat.succ_le_of_lt hi)
  rw [Nat.succ_mul] at this;omega
 refine ⟨ws,hR,⟨fun {j y} hj=>?_,fun {j} hj=>?_,fun hp=>?_,fun {j n} hp hj=>?_⟩⟩
 ·have hjl:=(List.getElem?_eq_some_iff.1 hj).1
  refine h1.ld1 ?_
  rw [← hw,List.getElem?_take_of_lt (by omega),List.getElem?_drop] at hj
  exact hj
 ·by_cases hz:d.sz=0
  ·have:j=0:=by omega
   subst this
   rcases h1.cases with ⟨rfl,h3,rfl⟩ | ⟨t,rfl⟩ | ⟨l,off,av,ds,rfl,hn,hl,hv,hav⟩
   ·omega
   ·simp [adr,fA]
   ·simp [adr,fA]
  ·exact h1.fA (Nat.mul_pos (by omega) (by omega)) (by omega)
 ·rw [hl] at hp ⊢
  rw [h1.ld hle hp,hw];rfl
 ·rw [h1.ld (by omega) hp,← hw,List.drop_take,List.take_take,Nat.min_eq_left (by omega),List.drop_drop];rfl
theorem SlH.sub (hv:SlH h d xs v) {a b:Int} {ys:List α} (hs:Ev.sub xs a b=some ys) {e:Nat} (he:d.sz=e):SlH h d ys (subV e v a.toNat b.toNat):=by
 subst he
 obtain ⟨cs,h1,h2⟩:=hv
 obtain ⟨⟨q0,q1,q2⟩,rfl⟩:=zb6 hs
 have e1:(b-a).toNat=b.toNat-a.toNat:=by omega
 refine ⟨_,?_,(RL.take (fun h=>d.len h) (b-a).toNat (RL.drop (fun h=>d.len h) a.toNat h2))⟩
 rw [e1]
 have:=h1.sub (a:=a.toNat) (b:=b.toNat) (by omega) (by omega)
 rwa [List.length_take,List.length_drop,Nat.min_eq_left (by omega)]
theorem SlF.sub (hv:SlF d xs v) {a b:Int} {ys:List α} (hs:Ev.sub xs a b=some ys) {e:Nat} (he:d.sz=e):SlF d ys (subV e v a.toNat b.toNat):=by
 subst he
 obtain ⟨cs,h1,h2⟩:=hv
 obtain ⟨⟨q0,q1,q2⟩,rfl⟩:=zb6 hs
 have e1:(b-a).toNat=b.toNat-a.toNat:=by omega
 refine ⟨_,?_,(RL.take (fun h=>d.len h) (b-a).toNat (RL.drop (fun h=>d.len h) a.toNat h2))⟩
 rw [e1]
 intro h
 have:=(h1 h).sub (a:=a.toNat) (b:=b.toNat) (by omega) (by omega)
 rwa [List.length_take,List.length_drop,Nat.min_eq_left (by omega)]
theorem SlF.nil (d:Dt α):SlF d [] (.p (.slice none 0 0)):=⟨[],.nil _,rfl⟩
theorem SlF.lit {cs:List V} {n:Nat} (hl:d.L xs cs) (hn:xs.length=n) {e:Nat} (he:d.sz=e) (t:Bool):SlF d xs (.fz cs n e t):=by
 subst hn;subst he
 exact ⟨cs,.fz (RL.length (fun h=>d.len h) hl) t,hl⟩
end

structure Gw where
 {α:Type}
 D:List Nat
 v:V
 d:Dt α
 xs:List α
def Gw.ok (g:Gw) (L:Layer) (n0:Nat):Prop:=∃ cs,g.d.L g.xs cs∧GrowS g.D L n0 g.v g.d.sz g.xs.length cs
def freeG (Γ:List (Nat×Stamp×List C)) (d:Nat):Bool:=Γ.all fun e=>e.1 != d
def freeD (Δ:List Gw) (d:Nat):Bool:=Δ.all fun g=>!g.D.contains d
def freeL (D:List Nat) (Γ:List (Nat×Stamp×List C)) (Δ:List Gw):Bool:=D.all fun d=>freeG Γ d&&freeD Δ d
def Fm (N:Nat) (h0:H) (B:List Rt) (Γ:List (Nat×Stamp×List C)) (Δ:List Gw) (Hp:H):Prop :=
 ∃ L,Hp=L::pts h0 B∧L.length=N∧BOk h0 B∧(∀ e∈Γ,L[e.1]?=some [.own e.2.1 e.2.2])∧(∀ g∈Δ,g.ok L h0.length)
section
variable {N:Nat} {h0 Hp:H} {B:List Rt} {Γ Γ':List (Nat×Stamp×List C)} {Δ Δ':List Gw}
theorem Fm.start (hB:BOk h0 B) (hs:∀ r∈B,AtC h0 r.l r.off r.cs):Fm N h0 B [] [] (List.replicate N []::h0) :=
 ⟨List.replicate N [],by rw [BOk.same hs],List.length_replicate,hB,by simp,by simp⟩
theorem Fm.start0:Fm N h0 [] [] [] (List.replicate N []::h0):=Fm.start trivial (by simp)
theorem Fm.wk (S:Fm N h0 B Γ Δ Hp) (hG:∀ e∈Γ',e∈Γ) (hD:∀ g∈Δ',g∈Δ):Fm N h0 B Γ' Δ' Hp:=by
 obtain ⟨L,h1,h2,h3,h4,h5⟩:=S
 exact ⟨L,h1,h2,h3,fun e he=>h4 e (hG e he),fun g hg=>h5 g (hD g hg)⟩
theorem Fm.len (S:Fm N h0 B Γ Δ Hp):Hp.length=h0.length+1:=by
 obtain ⟨L,rfl,_⟩:=S;simp [zj]
theorem Fm.nil (S:Fm N h0 B Γ Δ Hp) {α:Type} (d:Dt α) (D:List Nat):Fm N h0 B Γ (⟨D,.p (.slice none 0 0),d,[]⟩::Δ) Hp:=by
 obtain ⟨L,h1,h2,h3,h4,h5⟩:=S
 refine ⟨L,h1,h2,h3,h4,fun g hg=>?_⟩
 rcases List.mem_cons.1 hg with rfl | hg
 ·exact ⟨[],rfl,.inl ⟨rfl,rfl,.inl rfl⟩⟩
 ·exact h5 g hg
theorem Fm.lit (S:Fm N h0 B Γ Δ Hp) {α:Type} {d:Dt α} {xs:List α} {cs:List V} {n e m:Nat} (hl:d.L xs cs) (he:d.sz=e) (hn:xs.length=n) (hm:1000000≤m):Fm N h0 B Γ (⟨[m],.fz cs n e true,d,xs⟩::Δ) Hp:=by
 subst he;subst hn
 obtain ⟨L,h1,h2,h3,h4,h5⟩:=S
 refine ⟨L,h1,h2,h3,h4,fun g hg=>?_⟩
 rcases List.mem_cons.1 hg with rfl | hg
 ·exact ⟨cs,hl,.inr (.inr ⟨rfl,RL.length (fun h=>d.len h) hl,RL.stills hl,m,List.mem_singleton.2 rfl,hm⟩)⟩
 ·exact h5 g hg
theorem Fm.sl (S:Fm N h0 B Γ Δ Hp) {i:Nat} {g:Gw} (hi:Δ[i]?=some g):SlH Hp g.d g.xs g.v:=by
 obtain ⟨L,rfl,h2,h3,h4,h5⟩:=S
 obtain ⟨cs,q1,q2⟩:=h5 g (List.mem_of_getElem? hi)
 rw [← zj B] at q2
 exact ⟨cs,q2.sl,q1⟩
theorem Fm.low (S:Fm N h0 [] Γ Δ Hp) {α:Type} {d:Dt α} {xs:List α} {v:V} (hv:SlH h0 d xs v):SlH Hp d xs v:=by
 obtain ⟨L,rfl,_⟩:=S
 obtain ⟨cs,q1,q2⟩:=hv
 exact ⟨cs,q1.up L,q2⟩
theorem Fm.atG (S:Fm N h0 B Γ Δ Hp) {i d:Nat} {s:Stamp} {cs:List C} (hi:Γ[i]?=some (d,s,cs)):AtC Hp ⟨h0.length,d,0,s,[]⟩ 0 cs:=by
 obtain ⟨L,rfl,h2,h3,h4,h5⟩:=S
 have:=h4 _ (List.mem_of_getElem? hi)
 refine ⟨[],[],?_,rfl⟩
 rw [← zj B,nd_own this];simp
theorem mem_set.{u} {α:Type u} {xs:List α} {i:Nat} {x y:α} (h:y∈xs.set i x) (hi:i<xs.length):y=x∨y∈xs.eraseIdx i:=by
 obtain ⟨j,hj⟩:=List.mem_iff_getElem?.1 h
 rw [List.getElem?_set] at hj
 split at hj
 ·rename_i hij;subst hij
  first
   | exact .inl (Option.some.inj hj).symm
   | (rw [if_pos hi] at hj;exact .inl (Option.some.inj hj).symm)
 ·rename_i hij
  exact .inr (List.mem_eraseIdx_iff_getElem?.2 ⟨j,Ne.symm hij,hj⟩)
theorem mem_erase.{u} {α:Type u} {xs:List α} {i:Nat} {y:α} (h:y∈xs.eraseIdx i):y∈xs:=by
 obtain ⟨j,_,hj⟩:=List.mem_eraseIdx_iff_getElem?.1 h
 exact List.mem_of_getElem? hj
theorem z3b {d:Nat} (h:freeG Γ d=true) {e:Nat×Stamp×List C} (he:e∈Γ):e.1≠d:=by
 have:=List.all_eq_true.1 h e he
 simpa using this
theorem z39 {d:Nat} (h:freeD Δ d=true) {g:Gw} (hg:g∈Δ):d∉g.D:=by
 have:=List.all_eq_true.1 h g hg
 simpa using this
theorem Gw.ok.frame {g:Gw} {L L':Layer} {n0:Nat} (h:g.ok L n0) (hL:∀ d∈g.D,L'[d]?=L[d]?):g.ok L' n0:=by
 obtain ⟨cs,q1,q2⟩:=h
 exact ⟨cs,q1,q2.frame hL⟩
theorem Fm.setG (S:Fm N h0 B Γ Δ Hp) {i d:Nat} {s:Stamp} {cs cs':List C} (hi:Γ[i]?=some (d,s,cs)) (hf:(freeG (Γ.eraseIdx i) d&&freeD Δ d)=true) (hc:cs'.length=cs.length):Fm N h0 B (Γ.set i (d,s,cs')) Δ (ptC Hp ⟨h0.length,d,0,s,[]⟩ 0 cs'):=by
 obtain ⟨L,rfl,h2,h3,h4,h5⟩:=S
 have hL:=h4 _ (List.mem_of_getElem? hi)
 have hlt:=(List.getElem?_eq_some_iff.1 hi).1
 have hdl:=(List.getElem?_eq_some_iff.1 hL).1
 simp only [Bool.and_eq_true] at hf
 refine ⟨L.set d [.own s cs'],?_,by simpa using h2,h3,fun e he=>?_,fun g hg=>?_⟩
 ·have hn:=nd_own (h:=pts h0 B) hL
  rw [← zj B]
  rw [ptC_eq (off:=0) (p:=[]) (q:=[]) (cs:=cs) (by rw [hn];simp) rfl hc,zd9 hL]
  simp
 ·rcases mem_set he hlt with rfl | he
  ·simp only;rw [List.getElem?_set_self hdl]
  ·rw [List.getElem?_set_ne (Ne.symm (z3b hf.1 he))];exact h4 e (mem_erase he)
 ·exact (h5 g hg).frame fun x hx=>by rw [List.getElem?_set_ne (fun e=>z39 hf.2 hg (by rw [e];exact hx))]
theorem Fm.atB (S:Fm N h0 B Γ Δ Hp) {i:Nat} {r:Rt} (hi:B[i]?=some r):AtC Hp r.l r.off r.cs:=by
 obtain ⟨L,rfl,h2,h3,h4,h5⟩:=S
 exact (h3.at hi).up L
theorem Fm.setB (S:Fm N h0 B Γ Δ Hp) {i:Nat} {r:Rt} {cs:List C} (hi:B[i]?=some r) (hc:cs.length=r.cs.length):Fm N h0 (B.set i ⟨r.l,r.off,cs⟩) Γ Δ (ptC Hp r.l r.off cs):=by
 obtain ⟨L,rfl,h2,h3,h4,h5⟩:=S
 exact ⟨L,by rw [(h3.at hi).put_up L hc,h3.pt hi hc],h2,h3.set hi hc,h4,h5⟩
theorem Fm.stGv (S:Fm N h0 B Γ Δ Hp) {i d j n:Nat} {s σ:Stamp} {own:Bool} {xs:List V} {cs:List C} (hi:Γ[i]?=some (d,s,cs)) (hf:(freeG (Γ.eraseIdx i) d&&freeD Δ d)=true) (hx:Stills xs) (hn:xs.length=n) (hj:decide (j+n≤cs.length)=true) :
  ∃ H',stO own n σ Hp (.ref ⟨h0.length,d,0,s,[]⟩ j) (.agg xs)=some H'∧Fm N h0 B (Γ.set i (d,s,cs.take j++xs.map .v++cs.drop (j+n))) Δ H':=by
 have hj:=of_decide_eq_true hj
 have e:=(S.atG hi).stVs (own:=own) (σ:=σ) hx hn hj
 rw [Nat.zero_add] at e
 exact ⟨_,e,S.setG hi hf (by simp;omega)⟩
theorem Fm.add (S:Fm N h0 B Γ Δ Hp) {d:Nat} {s:Stamp} {cs:List C} (hd:d<N) (hf:(freeG Γ d&&freeD Δ d)=true):Fm N h0 B ((d,s,cs)::Γ) Δ (zf Hp d [.own s cs]):=by
 obtain ⟨L,rfl,h2,h3,h4,h5⟩:=S
 simp only [Bool.and_eq_true] at hf
 refine ⟨L.set d [.own s cs],rfl,by simpa using h2,h3,fun e he=>?_,fun g hg=>?_⟩
 ·rcases List.mem_cons.1 he with rfl | he
  ·simp only;rw [List.getElem?_set_self (by omega)]
  ·rw [List.getElem?_set_ne (Ne.symm (z3b hf.1 he))];exact h4 e he
 ·exact (h5 g hg).frame fun x hx=>by rw [List.getElem?_set_ne (fun e=>z39 hf.2 hg (by rw [e];exact hx))]
theorem Fm.newLoc (S:Fm N h0 B Γ Δ Hp) (d:Nat) (s:Stamp):Ev.newLoc Hp d s=⟨h0.length,d,0,s,[]⟩:=by
 obtain ⟨L,rfl,_⟩:=S;rw [newLoc_cons,zj]
theorem Fm.al (S:Fm N h0 B Γ Δ Hp) {d:Nat} {s:Stamp} {z:List V} (hd:d<N) (hf:(freeG Γ d&&freeD Δ d)=true):∃ H',alO z s d Hp=(.ref ⟨h0.length,d,0,s,[]⟩ 0,H')∧Fm N h0 B ((d,s,z.map .v)::Γ) Δ H' :=
 ⟨_,by rw [alO,S.newLoc],S.add hd hf⟩
theorem Fm.box (S:Fm N h0 B Γ Δ Hp) {d:Nat} {s:Stamp} {own:Bool} {xs:List V} (hx:Stills xs) (hd:d<N) (hf:(freeG Γ d&&freeD Δ d)=true):∃ H',boxO own s d Hp (.agg xs)=some (.ref ⟨h0.length,d,0,s,[]⟩ 0,H')∧Fm N h0 B ((d,s,xs.map .v)::Γ) Δ H' :=
 ⟨_,by unfold boxO;rw [show (V.agg xs).cells=xs from rfl,z22 own _ hx];simp only [Option.bind_some];rw [S.newLoc],S.add hd hf⟩
theorem Fm.slot (S:Fm N h0 B Γ Δ Hp) {i d:Nat} {s:Stamp} {cs:List C} (hi:Γ[i]?=some (d,s,cs)):slotOf Hp d=some [.own s cs]:=by
 obtain ⟨L,rfl,h2,h3,h4,h5⟩:=S
 exact h4 _ (List.mem_of_getElem? hi)

def YsH {α:Type} (h:H) (d:Dt α) (ys:List α) (y:V):Prop:=∃ cs,Ys h y d.sz ys.length cs∧d.L ys cs
theorem SlH.y {α:Type} {h:H} {d:Dt α} {ys:List α} {y:V} (hy:SlH h d ys y):YsH h d ys y:=by
 obtain ⟨cs,h1,h2⟩:=hy;exact ⟨cs,h1.ys,h2⟩
theorem Fm.app (S:Fm N h0 B Γ Δ Hp) {i d b e:Nat} {g:Gw} {own:Bool} {σ:Stamp} {y:V} {ys zs:List g.α} (hi:Δ[i]?=some g) (hy:YsH Hp g.d ys y) (hz:ap b g.xs ys=some zs) (he:g.d.sz=e) (hk:e≠0) (hd:d<N) (hf:freeL (d::g.D) Γ (Δ.eraseIdx i)=true) :
  ∃ v H',apO own e b σ d Hp g.v y=some (v,H')∧Fm N h0 B Γ (Δ.set i ⟨d::g.D,v,g.d,zs⟩) H':=by
 subst he
 obtain ⟨⟨hb1,hb2⟩,rfl⟩:=zev hz
 obtain ⟨L,rfl,h2,h3,h4,h5⟩:=S
 obtain ⟨cs,q1,q2⟩:=h5 g (List.mem_of_getElem? hi)
 obtain ⟨ds,r1,r2⟩:=hy
 rw [← zj B] at q2
 have hlt:=(List.getElem?_eq_some_iff.1 hi).1
 obtain ⟨v',L',e1,e2,e3,e4⟩:=q2.app (own:=own) (σ:=σ) (d:=d) (by omega) r1 (RL.stills r2) hk hb1 hb2
 have hfr:=List.all_eq_true.1 hf
 have nG:∀ e∈Γ,e.1∉d::g.D:=fun e he hm=>by
  have:=hfr _ hm
  simp only [Bool.and_eq_true] at this
  exact z3b this.1 he rfl
 have nD:∀ g'∈Δ.eraseIdx i,∀ x∈g'.D,x∉d::g.D:=fun g' hg' x hx hm=>by
  have:=hfr _ hm
  simp only [Bool.and_eq_true] at this
  exact z39 this.2 hg' hx
 refine ⟨v',_,e1,L',rfl,by omega,h3,fun e he=>by rw [e4 _ (nG e he)];exact h4 e he,fun g' hg'=>?_⟩
 rcases mem_set hg' hlt with rfl | hg'
 ·refine ⟨cs++ds,q1.append r2,?_⟩
  rw [← zj B,List.length_append]
  exact e2
 ·exact (h5 g' (mem_erase hg')).frame fun x hx=>e4 x (nD g' hg' x hx)
theorem Fm.mk (S:Fm N h0 B Γ Δ Hp) {α:Type} {dt:Dt α} {d b e:Nat} {z:α} {zv:List V} {n:Int} {σ:Stamp} {zs:List α} (hz:Ev.mk b z n=some zs) (hR:dt.R z zv) (he:dt.sz=e) (hk:e≠0) (hd:d<N) (hf:(freeG Γ d&&freeD Δ d)=true) :
  ∃ v H',mkO e b zv σ d Hp n n=some (v,H')∧Fm N h0 B Γ (⟨[d],v,dt,zs⟩::Δ) H':=by
 subst he
 obtain ⟨⟨z0,z1,z2⟩,rfl⟩:=zc8 hz
 obtain ⟨L,rfl,h2,h3,h4,h5⟩:=S
 simp only [Bool.and_eq_true] at hf
 obtain ⟨v,L',e1,e2,e3,e4⟩:=GrowS.make (L:=L) (h:=pts h0 B) (b:=b) (d:=d) (z:=zv) (n:=n) (σ:=σ) (by omega) z0 z1 (by omega) (dt.len hR) hk
 refine ⟨v,_,e1,L',rfl,by omega,h3,fun e he=>by rw [e4 _ (z3b hf.1 he)];exact h4 e he,fun g hg=>?_⟩
 rcases List.mem_cons.1 hg with rfl | hg
 ·refine ⟨_,RL.rep hR _,?_⟩
  rw [← zj B]
  simpa using e2
 ·exact (h5 g hg).frame fun x hx=>e4 x fun h=>z39 hf.2 hg (h▸hx)
theorem Fm.land (S:Fm N h0 B Γ Δ Hp) {α:Type} {dt:Dt α} {d e n:Nat} {c:C} {cs:List V} {xs:List α} (ho:OwnS c dt.sz xs.length cs) (hl:dt.L xs cs) (hd:d<N) (hf:(freeG Γ d&&freeD Δ d)=true) :
  ∃ v H',Ev.land Hp (some d) [c]=(v,H')∧Fm N h0 B Γ (⟨[d],v,dt,xs⟩::Δ) H':=by
 obtain ⟨L,rfl,h2,h3,h4,h5⟩:=S
 simp only [Bool.and_eq_true] at hf
 obtain ⟨v,L',e1,e2,e3,e4⟩:=ho.land (L:=L) (h:=pts h0 B) (d:=d) (by omega)
 refine ⟨v,_,e1,L',rfl,by omega,h3,fun e he=>by rw [e4 _ (z3b hf.1 he)];exact h4 e he,fun g hg=>?_⟩
 rcases List.mem_cons.1 hg with rfl | hg
 ·exact ⟨cs,hl,by rw [← zj B];exact e2⟩
 ·exact (h5 g hg).frame fun x hx=>e4 x fun h=>z39 hf.2 hg (h▸hx)
def Lv1 (x:V):Prop:=∀ frz τ h,expF frz τ h x=some (.v x,h)
theorem Still.lv {x:V} (h:Still x):Lv1 x:=h.exp
theorem Stills.lv {xs:List V} (h:Stills xs):Lv1 (.agg xs):=fun _ τ h'=>zdt h τ h'
theorem Fm.finN (S:Fm N h0 B Γ Δ Hp) {frz:Bool} {σ:Stamp} {xs:List V} (hx:∀ x∈xs,Lv1 x):fin frz σ Hp xs=some (xs.map .v,pts h0 B):=by
 obtain ⟨L,rfl,_⟩:=S
 have:∀ (xs:List V) (j:Nat),(∀ x∈xs,Lv1 x)→expCs frz (1::σ) j (L::pts h0 B) xs=some (xs.map .v,L::pts h0 B):=fun xs=>by
  induction xs with
  | nil=>intro j _;rfl
  | cons x xs ih=>intro j hx;simp only [expCs,hx x (List.mem_cons_self ..) frz,Option.bind_some,ih (j+1) (fun y hy=>hx y (List.mem_cons_of_mem _ hy)),Option.map_some,List.map_cons]
 simp [fin,this xs 0 hx]
end
end Go.Ev
namespace Go.Ev
set_option linter.unusedVariables false
set_option linter.unusedSimpArgs false
section
variable {β α γ δ:Type} {x:Option β} {Q:β→α→Prop} {K:δ→Option α}
theorem Sim.as {A:Option γ} {g:γ→Option δ} (s:Sim x (A.bind fun v=>(g v).bind K) Q):Sim x ((A.bind g).bind K) Q:=by
 rw [Option.bind_assoc];exact s
theorem Sim.ext {Y Y':Option δ} (e:Y=Y') (s:Sim x (Y'.bind K) Q):Sim x (Y.bind K) Q:=by rw [e];exact s
theorem Sim.pure {v:δ} (s:Sim x (K v) Q):Sim x ((some v).bind K) Q:=s
end
theorem sM {o:Option H} {h:H} (e:o=some h):(o.map fun h=>((udf:V),h))=some (udf,h):=by rw [e];rfl
theorem lN:∀ x∈([]:List V),Lv1 x:=fun _ h=>by cases h
theorem lC {x:V} {xs:List V} (h:Lv1 x) (t:∀ y∈xs,Lv1 y):∀ y∈x::xs,Lv1 y:=fun y hy=>by
 rcases List.mem_cons.1 hy with rfl | hy
 ·exact h
 ·exact t y hy
def Ex (frz:Bool) (τ:Stamp) (j:Nat) (h:H) (xs:List V) (cs:List C) (h':H):Prop:=expCs frz τ j h xs=some (cs,h')
theorem Ex.nil {frz:Bool} {τ:Stamp} {j:Nat} {h:H}:Ex frz τ j h [] [] h:=rfl
theorem Ex.st {frz:Bool} {τ:Stamp} {j:Nat} {h h1 h':H} {x:V} {c:C} {xs:List V} {cs:List C} (hx:expF frz (j::τ) h x=some (c,h1)) (t:Ex frz τ (j+1) h1 xs cs h'):Ex frz τ j h (x::xs) (c::cs) h':=by
 unfold Ex at t ⊢;simp only [expCs,hx,Option.bind_some,t,Option.map_some]
section
variable {N:Nat} {h0 Hp:H} {B:List Rt} {Γ:List (Nat×Stamp×List C)} {Δ:List Gw}
theorem Fm.finE (S:Fm N h0 B Γ Δ Hp) {frz:Bool} {σ:Stamp} {H:Ev.H} {xs:List V} {cs:List C} (e:Ex frz (1::σ) 0 H xs cs Hp):fin frz σ H xs=some (cs,pts h0 B):=by
 obtain ⟨L,rfl,_⟩:=S
 unfold Ex at e
 simp [fin,e]
theorem z7q {L:Layer} {d:Nat} (S:Fm N h0 B Γ Δ (L::pts h0 B)) (hf:(freeG Γ d&&freeD Δ d)=true) (c:List C):Fm N h0 B Γ Δ (L.set d c::pts h0 B):=by
 obtain ⟨L',he,h2,h3,h4,h5⟩:=S
 obtain ⟨rfl,_⟩:=List.cons.inj he
 simp only [Bool.and_eq_true] at hf
 refine ⟨_,rfl,by simpa using h2,h3,fun e he=>?_,fun g hg=>?_⟩
 ·rw [List.getElem?_set_ne (Ne.symm (z3b hf.1 he))];exact h4 e he
 ·exact (h5 g hg).frame fun x hx=>by rw [List.getElem?_set_ne (fun e=>z39 hf.2 hg (by rw [e];exact hx))]
theorem z9s {D:List Nat} {Γ:List (Nat×Stamp×List C)} {Δ:List Gw} (hf:freeL D Γ Δ=true) {d:Nat} (hd:d∈D):(freeG Γ d&&freeD Δ d)=true:=List.all_eq_true.1 hf d hd
theorem Fm.expFrz (S:Fm N h0 B Γ Δ Hp) {i:Nat} {g:Gw} (hi:Δ[i]?=some g) (hf:freeL g.D Γ (Δ.eraseIdx i)=true) {τ:Stamp}:∃ v H',expF true τ Hp g.v=some (.v v,H')∧SlF g.d g.xs v∧Fm N h0 B Γ (Δ.eraseIdx i) H':=by
 have S':Fm N h0 B Γ (Δ.eraseIdx i) Hp:=S.wk (fun _ h=>h) (fun _ h=>mem_erase h)
 obtain ⟨L,rfl,h2,h3,h4,h5⟩:=S
 obtain ⟨cs,q1,q2⟩:=h5 g (List.mem_of_getElem? hi)
 rw [← zj B] at q2
 rcases q2 with ⟨e1,e2,e3⟩ | ⟨q2,d',hd',s,tl,hv,h6⟩ | ⟨hv,q2,_⟩
 ·refine ⟨g.v,_,?_,⟨cs,?_,q1⟩,S'⟩
  ·rcases e3 with e | e<;>rw [e]
   ·exact still_nilS.exp ..
   ·exact (still_fz ..).exp ..
  ·rw [e1,e2]
   rcases e3 with e | e<;>rw [e]
   ·exact .nil _
   ·exact .fz (by simp) _
 ·refine ⟨.fz cs g.xs.length g.d.sz false,_,?_,⟨cs,.fz q2 _,q1⟩,z7q S' (z9s hf hd') (.dead::tl)⟩
  rw [hv,zbi h6 q2]
 ·exact ⟨g.v,_,by rw [hv];exact (still_fz ..).exp ..,⟨cs,by rw [hv];exact .fz q2 _,q1⟩,S'⟩
end
def fillC (places:Nat→Option (Nat×Nat)) (cells:List V):List (Nat×List V)→Option (List V)
 | []=>some cells
 | (i,v)::rest =>
  match places i with
  | none=>none
  | some (off,size) =>
   if v.length≠size∨off+v.length>cells.length then none
   else fillC places (cells.take off++v++cells.drop (off+v.length)) rest
theorem z8n (places:Nat→Option (Nat×Nat)):∀ (parts:List (Nat×V)) (cells:List V),fillV places cells parts=fillC places cells (parts.map fun q=>(q.1,q.2.cells))
 | [],cells=>rfl
 | (i,v)::rest,cells=>by
  simp only [fillV,fillC,List.map_cons]
  cases places i with
  | none=>rfl
  | some q =>
   simp only
   split
   ·rfl
   ·exact z8n places rest _
def buildC (P:Program) (t:TypeId) (parts:List (Nat×List V)):Option V :=
 (tzero P t).bind fun zero =>
 match P.underlying t with
 | some (.struct fs)=>if fs.toList.all (fun f=>known P f.type) then (fillC (fun i=>(fs[i]?).map fun f=>(f.offset,tsize P f.type)) zero parts).map .agg else none
 | some (.array _ e)=>if known P e then (fillC (fun i=>some (i*tsize P e,tsize P e)) zero parts).map .agg else none
 | _=>none
def z87 (P:Program) (t:TypeId) (len:Nat) (parts:List (Nat×List V)):Option V :=
 (telem P t).bind fun e=>(tzero P e).bind fun zero =>
 if zero.length≠tsize P e∨tsize P e=0∨len*tsize P e>2^24 then none else
 (fillC (fun i=>some (i*tsize P e,tsize P e)) (rept len zero) parts).map fun cs=>.fz cs len (tsize P e) true
theorem bldV {P:Program} {t:TypeId} {parts:List (Nat×V)} {cs:List (Nat×List V)} {r:V} (hp:(parts.map fun q=>(q.1,q.2.cells))=cs) (hb:buildC P t cs=some r):buildV P t parts=some r:=by
 rw [← hb,← hp];unfold buildV buildC;simp only [z8n];rfl
theorem bldS {P:Program} {t:TypeId} {n:Nat} {parts:List (Nat×V)} {cs:List (Nat×List V)} {r:V} (hp:(parts.map fun q=>(q.1,q.2.cells))=cs) (hb:z87 P t n cs=some r):bSV P t n parts=some r:=by
 rw [← hb,← hp];unfold bSV z87;simp only [z8n]
theorem pN:(([]:List (Nat×V)).map fun q=>(q.1,q.2.cells))=[]:=rfl
theorem pC {i:Nat} {v:V} {c:List V} {ps:List (Nat×V)} {cs:List (Nat×List V)} (h:v.cells=c) (t:(ps.map fun q=>(q.1,q.2.cells))=cs):(((i,v)::ps).map fun q=>(q.1,q.2.cells))=(i,c)::cs:=by rw [List.map_cons,h,t]
def strB (xs:List Int):ByteArray:=⟨(xs.map fun n=>UInt8.ofNat n.toNat).toArray⟩
def bytesS (s:ByteArray):List Int:=s.data.toList.map fun b=>(b.toNat:Int)
theorem RL.ints {k:IntKind}:∀ {xs:List Int} {cs:List V},(dI k).L xs cs→cs=xs.map fun n=>.p (.int k n)
 | [],cs,h=>h
 | x::xs,cs,⟨a,b,h1,h2,h3⟩=>by
  have e:a=[.p (.int k x)]:=h2
  subst h1;subst e
  rw [RL.ints h3];rfl
theorem RL.of_ints (k:IntKind):∀ (xs:List Int),(dI k).L xs (xs.map fun n=>.p (.int k n))
 | []=>rfl
 | x::xs=>.cons (show (dI k).R x [.p (.int k x)] from rfl) (RL.of_ints k xs)
theorem z6r:∀ (xs:List Int),z23 (xs.map fun n=>.p (.int .u8 n))=some (xs.map fun n=>UInt8.ofNat n.toNat)
 | []=>rfl
 | x::xs=>by simp [z23,z6r xs]
theorem SlH.str {h:H} {xs:List Int} {v:V} (hv:SlH h (dI .u8) xs v):strO h v=some (.p (.string (strB xs))):=by
 obtain ⟨cs,h1,h2⟩:=hv
 have e:=RL.ints h2
 subst e
 have hl:=h1.sl
 unfold strO
 split
 ·simp [isSl] at hl
 ·simp only [toS,hl,h1.cells,h1.len,Option.bind_some,and_self,if_true]
  rw [if_pos (by simp),z6r];rfl
theorem SlF.bytes (s:ByteArray):SlF (dI .u8) (bytesS s) (.fz (s.data.toList.map fun b=>.p (.int .u8 b.toNat)) s.size 1 false):=by
 have e:(bytesS s).map (fun n=>V.p (.int .u8 n))=s.data.toList.map fun b=>.p (.int .u8 b.toNat):=by unfold bytesS;rw [List.map_map];rfl
 have:=RL.of_ints .u8 (bytesS s)
 rw [e] at this
 refine SlF.lit this ?_ rfl false
 unfold bytesS;rw [List.length_map];rfl
end Go.Ev
namespace Go.Ev
set_option linter.unusedVariables false
set_option linter.unusedSimpArgs false
theorem Sim.cdk {β α γ δ:Type} {Q:β→α→Prop} {K:δ→Option α} {c:Bool} {a b:Option β} {A B:Option γ} {g:γ→Option δ} (s:c=true→Sim a ((A.bind g).bind K) Q) (t:c=false→Sim b ((B.bind g).bind K) Q) :
  Sim (bif c then a else b) (((bif c then A else B).bind g).bind K) Q:=by
 cases c
 ·exact t rfl
 ·exact s rfl
theorem aN.{u} {α:Type u} {P:α→Prop}:∀ x∈([]:List α),P x:=fun _ h=>by cases h
theorem aC.{u} {α:Type u} {P:α→Prop} {a:α} {l:List α} (h:P a) (t:∀ x∈l,P x):∀ x∈a::l,P x:=fun x hx=>by
 rcases List.mem_cons.1 hx with rfl | hx
 ·exact h
 ·exact t x hx
theorem aM.{u} {α:Type u} {a:α} {l:List α} (i:Nat) (h:l[i]?=some a):a∈l:=List.mem_of_getElem? h
section
variable {N:Nat} {h0 Hp:H} {B:List Rt} {Γ Γ':List (Nat×Stamp×List C)} {Δ Δ':List Gw}
theorem Fm.wk2 (S:Fm N h0 B Γ Δ Hp) (hG:∀ e∈Γ',e∈Γ) (hD:∀ g∈Δ',∃ D,(∀ d∈D,d∈g.D)∧(⟨D,g.v,g.d,g.xs⟩:Gw)∈Δ):Fm N h0 B Γ' Δ' Hp:=by
 obtain ⟨L,h1,h2,h3,h4,h5⟩:=S
 refine ⟨L,h1,h2,h3,fun e he=>h4 e (hG e he),fun g hg=>?_⟩
 obtain ⟨D,q1,q2⟩:=hD g hg
 obtain ⟨cs,r1,r2⟩:=h5 _ q2
 refine ⟨cs,r1,?_⟩
 rcases r2 with q | ⟨r2,d',hd',r⟩ | ⟨a1,a2,a3,d',hd',a4⟩
 ·exact .inl q
 ·exact .inr (.inl ⟨r2,d',q1 d' hd',r⟩)
 ·exact .inr (.inr ⟨a1,a2,a3,d',q1 d' hd',a4⟩)
theorem Fm.start1 {l:Loc} {off:Nat} {cs:List C} (ha:AtC h0 l off cs):Fm N h0 [⟨l,off,cs⟩] [] [] (List.replicate N []::h0) :=
 Fm.start ⟨⟨cs,rfl,ha⟩,aN,trivial⟩ (aC ha aN)
def z8o (e n:Nat) (σ:Stamp) (x:V) (h:H):Option (List C×H) :=
 (lenO x).bind fun t1=>(castI .i64 t1).bind fun n2=>(lenO x).bind fun t3=>(castI .i64 t3).bind fun n4=>(slS e x none (some n2) (some n4)).bind fun t5=>fin false σ (List.replicate n []::h) [t5]
theorem zd3 {e n:Nat} {σ:Stamp} {x:V} {h:H} {m:Nat} {y:V} (hl:lenO x=some (.p (.int .i64 m))) (hs:slS e x none (some m) (some m)=some y) (hf:fin false σ (List.replicate n []::h) [y]=some ([.v y],h)):z8o e n σ x h=some ([.v y],h):=by
 unfold z8o
 simp only [hl,Option.bind_some,castI_p,hs,hf]
theorem clip_D {G:Cfg} {X:CallF} {f n e i d:Nat} {g:Gw} {σ:Stamp} (entry:∀ (x:V) (h:H),cvBody G (ev G X) (cvL G X) f σ [x] h=z8o e n σ x h)
  (S:Fm N h0 B Γ Δ Hp) (hi:Δ[i]?=some g) (he:g.d.sz=e) (hX:X f σ [g.v] Hp=none) :
  ∃ v,callO (ev G X) f σ [g.v] Hp (some d)=some (v,Hp)∧Fm N h0 B Γ (Δ.set i ⟨g.D,v,g.d,g.xs⟩) Hp:=by
 subst he
 have S0:=S
 obtain ⟨L,rfl,h2,h3,h4,h5⟩:=S
 have h5g:=h5 g (List.mem_of_getElem? hi)
 obtain ⟨cs,q1,q2⟩:=h5g
 have len:lenO g.v=some (.p (.int .i64 g.xs.length)):=(S0.sl hi).len
 have key:∃ v,slS g.d.sz g.v none (some g.xs.length) (some g.xs.length)=some v∧GrowS g.D L h0.length v g.d.sz g.xs.length cs∧fin false σ (List.replicate n []::L::pts h0 B) [v]=some ([.v v],L::pts h0 B):=by
  rcases q2 with ⟨e1,e2,e3 | e3⟩ | ⟨q2,d',hd',s,tl,hv,h6⟩ | ⟨hv,a2,a3,a4⟩
  ·rw [e1,e3];exact ⟨_,rfl,.inl ⟨rfl,e2,.inl rfl⟩,fin_1 still_nilS⟩
  ·rw [e1,e3];exact ⟨.fz [] 0 g.d.sz true,by simp [slS,bI],.inl ⟨rfl,e2,.inr rfl⟩,fin_1 (still_fz ..)⟩
  ·rw [hv]
   by_cases h0':g.xs.length=0
   ·have:cs=[]:=by rw [h0'] at q2;simpa using q2
    refine ⟨.fz [] 0 g.d.sz true,?_,.inl ⟨h0',this,.inr rfl⟩,fin_1 (still_fz ..)⟩
    rw [h0'];simp [slS,bI]
   ·refine ⟨.sl ⟨h0.length,d',0,s,[]⟩ 0 g.xs.length g.xs.length g.d.sz,?_,.inr (.inl ⟨q2,d',hd',s,tl,rfl,h6⟩),?_⟩
    ·simp [slS,bI,h0']
    ·exact zeg (by simp [zj])
  ·rw [hv]
   exact ⟨.fz cs g.xs.length g.d.sz true,by simp [slS,bI,← a2],.inr (.inr ⟨rfl,a2,a3,a4⟩),fin_1 (still_fz ..)⟩
 obtain ⟨v,k1,k2,k3⟩:=key
 refine ⟨v,?_,L,rfl,h2,h3,h4,fun g' hg'=>?_⟩
 ·exact zcj (ev_cv hX (by rw [entry];exact zd3 len k1 k3))
 ·rcases mem_set hg' (List.getElem?_eq_some_iff.1 hi).1 with rfl | hg'
  ·exact ⟨cs,q1,k2⟩
  ·exact h5 g' (mem_erase hg')
end
end Go.Ev
namespace Go.Ev
section
variable {N:Nat} {h0 Hp:H} {B:List Rt} {Γ Γ':List (Nat×Stamp×List C)} {Δ Δ':List Gw}
theorem Fm.lowA (S:Fm N h0 [] Γ Δ Hp) {l:Loc} {off:Nat} {cs:List C} (ha:AtC h0 l off cs):AtC Hp l off cs:=by
 obtain ⟨L,rfl,_⟩:=S
 exact ha.up L
end
theorem Sim.clo {β α δ:Type} {x:Option β} {Q:β→α→Prop} {K:δ→Option α} {rec:CallF} {f:FuncId} {σ:Stamp} {args caps:List V} {H:H} {d:Option Nat} {g:V×Go.Ev.H→Option δ} (s:Sim x (((callO rec f σ (args++caps) H d).bind g).bind K) Q):Sim x (((cloO rec (.clo f caps) σ args H d).bind g).bind K) Q:=s
end Go.Ev
namespace Go.Ev
set_option linter.unusedVariables false
set_option linter.unusedSimpArgs false
def SoC {α:Type} (d:Dt α) (xs:List α) (c:C):Prop:=(∃ v,c=.v v∧SlF d xs v)∨∃ s ws,c=.arr s xs.length d.sz (ws.map .v)∧d.L xs ws
theorem SoC.frz {α:Type} {d:Dt α} {xs:List α} {v:V} (h:SlF d xs v):SoC d xs (.v v):=.inl ⟨v,rfl,h⟩
theorem SoC.own {α:Type} {d:Dt α} {xs:List α} {c:C} {ws:List V} (h:OwnS c d.sz xs.length ws) (hl:d.L xs ws):SoC d xs c:=by
 obtain ⟨h1,⟨h2,h3,rfl | rfl⟩ | ⟨s,rfl⟩⟩:=h
 ·exact .inl ⟨_,rfl,ws,by rw [h2,h3];exact .nil _,hl⟩
 ·exact .inl ⟨_,rfl,ws,by rw [h2,h3];exact .fz (by simp) _,hl⟩
 ·exact .inr ⟨s,ws,rfl,hl⟩
def cellV (l:Loc) (o:Nat) (c:C):V:=(toV l o c).getD udf
section
variable {α:Type} {h:H} {l:Loc} {off j:Nat} {cs:List C} {c:C} {d:Dt α} {xs:List α}
theorem SoC.ld (hc:SoC d xs c) (ha:AtC h l off cs) (hj:cs[j]?=some c):ldO false 1 h (.ref l (off+j))=some (cellV l (off+j) c):=by
 rcases hc with ⟨v,rfl,_⟩ | ⟨s,ws,rfl,_⟩
 ·exact ha.ldC hj rfl
 ·exact ha.ldC hj rfl
theorem SoC.sl (hc:SoC d xs c) (ha:AtC h l off cs) (hj:cs[j]?=some c):SlH h d xs (cellV l (off+j) c):=by
 rcases hc with ⟨v,rfl,hv⟩ | ⟨s,ws,rfl,hl⟩
 ·exact hv.h h
 ·have hlen:=RL.length (fun h=>d.len h) hl
  refine ⟨ws,.mk_sl (l:=l.hop (off+j) s) (ds:=ws.map .v) ?_ (by simp [hlen]) ?_ (Nat.le_refl _),hl⟩
  ·obtain ⟨p,q,hn,hp⟩:=ha.hop hj (s:=s) (ds:=ws.map .v) (by simp [C.node])
   have:p=[]:=List.length_eq_zero_iff.1 hp
   subst this
   have hq:=ha.hop hj (s:=s) (ds:=ws.map .v) (by simp [C.node])
   obtain ⟨p,q,hn,hp⟩:=ha
   have hlt:=(List.getElem?_eq_some_iff.1 hj).1
   rw [nd_in hn (c:=.arr s xs.length d.sz (ws.map .v)) (ds:=ws.map .v)]
   ·rw [List.append_assoc,List.getElem?_append_right (by omega),show off+j-p.length=j by omega,List.getElem?_append_left hlt,hj]
   ·simp [C.node]
  ·rw [List.drop_zero,List.take_of_length_le (by simp [hlen]),z3q]
end
section
variable {N:Nat} {h0 Hp:H} {B:List Rt} {Γ:List (Nat×Stamp×List C)} {Δ:List Gw}
theorem zc5 {p cs q:List C} {off j:Nat} (hp:p.length=off) (hj:j<cs.length):(p++cs++q)[off+j]?=cs[j]?:=by
 rw [List.append_assoc,List.getElem?_append_right (by omega),show off+j-p.length=j by omega,List.getElem?_append_left hj]
structure Spot (N:Nat) (h0:H) (Hp:H) (l:Loc) (off:Nat) (cs:List C) (T:List C→H→Prop):Prop where
 at_:AtC Hp l off cs
 put:∀ cs',cs'.length=cs.length→T cs' (ptC Hp l off cs')
theorem Fm.addArr (S:Fm N h0 B Γ Δ Hp) {α:Type} {dt:Dt α} {d e:Nat} {s:Stamp} {ws:List V} {xs:List α} (hl:dt.L xs ws) (he:dt.sz=e) (hd:d<N) (hf:(freeG Γ d&&freeD Δ d)=true) :
  Fm N h0 B Γ (⟨[d],.sl ⟨h0.length,d,0,s,[]⟩ 0 xs.length xs.length e,dt,xs⟩::Δ) (zf Hp d [.arr s xs.length e (ws.map .v)]):=by
 subst he
 obtain ⟨L,rfl,h2,h3,h4,h5⟩:=S
 simp only [Bool.and_eq_true] at hf
 refine ⟨L.set d [.arr s xs.length dt.sz (ws.map .v)],rfl,by simpa using h2,h3,fun e he=>?_,fun g hg=>?_⟩
 ·rw [List.getElem?_set_ne (Ne.symm (z3b hf.1 he))];exact h4 e he
 ·rcases List.mem_cons.1 hg with rfl | hg
  ·exact ⟨ws,hl,.inr (.inl ⟨RL.length (fun h=>dt.len h) hl,d,List.mem_singleton.2 rfl,s,[],rfl,by rw [List.getElem?_set_self (by omega)]⟩)⟩
  ·exact (h5 g hg).frame fun x hx=>by rw [List.getElem?_set_ne (fun e=>z39 hf.2 hg (by rw [e];exact hx))]
theorem Fm.mkM (S:Fm N h0 B Γ Δ Hp) {α:Type} {dt:Dt α} {d b e:Nat} {z:α} {zv:List V} {n:Int} {σ:Stamp} {zs:List α} (hz:Ev.mk b z n=some zs) (hR:dt.R z zv) (he:dt.sz=e) (hk:e≠0) (hd:d<N) (hf:(freeG Γ d&&freeD Δ d)=true) :
  mkMO e b zv n n=some (rept n.toNat zv,some (n.toNat,n.toNat,e))∧Fm N h0 B Γ (⟨[d],.sl ⟨h0.length,d,0,σ,[]⟩ 0 n.toNat n.toNat e,dt,zs⟩::Δ) (zf Hp d [mkC σ (rept n.toNat zv,some (n.toNat,n.toNat,e))]):=by
 obtain ⟨⟨z0,z1,z2⟩,rfl⟩:=zc8 hz
 refine ⟨by unfold mkMO;rw [if_pos ⟨z0,Int.le_refl _,by omega,by omega,by rw [← he];exact dt.len hR,hk⟩],?_⟩
 have:=S.addArr (s:=σ) (RL.rep hR n.toNat) he hd hf
 rw [List.length_replicate] at this
 exact this
theorem Fm.slotSet (S:Fm N h0 B Γ Δ Hp) {d:Nat} {cs:List C} (hd:d<N):slotOf (zf Hp d cs) d=some cs:=by
 obtain ⟨L,rfl,h2,_⟩:=S
 simp only [zf,slotOf]
 exact List.getElem?_set_self (by omega)
theorem zeo {d d':Nat} {H:H} {cs:List C} {x:List C} (h:d'≠d) (hs:slotOf H d=some x):slotOf (zf H d' cs) d=some x:=by
 cases H with
 | nil=>simp [slotOf] at hs
 | cons L H=>simp only [zf,slotOf] at hs ⊢;rw [List.getElem?_set_ne h];exact hs
end
end Go.Ev
namespace Go.Ev
def FrC (c:C) (y:V):Prop:=(c=.v y∧Still y)∨∃ s n k ws,c=.arr s n k (ws.map .v)∧ws.length=n*k∧y=.fz ws n k false
def FrCs:List C→List V→Prop
 | [],[]=>True
 | c::cs,y::ys=>FrC c y∧FrCs cs ys
 | _,_=>False
theorem FrC.v {x:V} (h:Still x):FrC (.v x) x:=.inl ⟨rfl,h⟩
theorem FrC.still {c:C} {y:V} (h:FrC c y):Still y:=by
 rcases h with ⟨_,h⟩ | ⟨s,n,k,ws,_,_,rfl⟩
 ·exact h
 ·exact still_fz ..
theorem FrCs.len:∀ {cs:List C} {ys:List V},FrCs cs ys→ys.length=cs.length
 | [],[],_=>rfl
 | c::cs,y::ys,⟨_,h⟩=>by simp [FrCs.len h]
 | [],_::_,h=>by cases h
 | _::_,[],h=>by cases h
theorem FrCs.stills:∀ {cs:List C} {ys:List V},FrCs cs ys→Stills ys
 | [],[],_=>sN
 | c::cs,y::ys,⟨h1,h⟩=>sC h1.still (FrCs.stills h)
 | [],_::_,h=>by cases h
 | _::_,[],h=>by cases h
section
variable {N:Nat} {h0 Hp:H} {B:List Rt} {Γ:List (Nat×Stamp×List C)} {Δ:List Gw}
end
end Go.Ev
namespace Go.Ev
section
variable {N:Nat} {h0 Hp:H} {B:List Rt} {Γ:List (Nat×Stamp×List C)} {Δ:List Gw}
end
end Go.Ev
namespace Go.Ev
section
variable {N:Nat} {h0 Hp:H} {B:List Rt} {Γ:List (Nat×Stamp×List C)} {Δ:List Gw}
end
end Go.Ev
namespace Go.Ev
end Go.Ev
namespace Go.Ev
theorem lc_nil {H:Ev.H}:layCs false H []=some (([]:List V).map C.v,H):=rfl
theorem lc_st {H H1 H':Ev.H} {x y:V} {xs ys:List V} (hx:layC false H x=some (.v y,H1)) (t:layCs false H1 xs=some (ys.map C.v,H')):layCs false H (x::xs)=some ((y::ys).map C.v,H'):=by
 simp only [layCs,hx,Option.bind_some,t,List.map_cons]
section
variable {N:Nat} {h0 Hp:H} {B:List Rt} {Γ:List (Nat×Stamp×List C)} {Δ:List Gw}
theorem Fm.cellsD (S:Fm N h0 B Γ Δ Hp) {i:Nat} {g:Gw} (hi:Δ[i]?=some g):g.v.cells=[g.v]:=by
 obtain ⟨L,rfl,h2,h3,h4,h5⟩:=S
 obtain ⟨cs,q1,q2⟩:=h5 g (List.mem_of_getElem? hi)
 rcases q2 with ⟨e1,e2,e3⟩ | ⟨q2,d',hd',s,tl,hv,h6⟩ | ⟨hv,q2,_⟩
 ·rcases e3 with e | e<;>rw [e]<;>rfl
 ·rw [hv];rfl
 ·rw [hv];rfl
theorem Fm.layD (S:Fm N h0 B Γ Δ Hp) {i:Nat} {g:Gw} (hi:Δ[i]?=some g) (hf:freeL g.D Γ (Δ.eraseIdx i)=true):∃ y H',layC false Hp g.v=some (.v y,H')∧SlF g.d g.xs y∧Fm N h0 B Γ (Δ.eraseIdx i) H':=by
 have S':Fm N h0 B Γ (Δ.eraseIdx i) Hp:=S.wk (fun _ h=>h) (fun _ h=>mem_erase h)
 obtain ⟨L,rfl,h2,h3,h4,h5⟩:=S
 obtain ⟨cs,q1,q2⟩:=h5 g (List.mem_of_getElem? hi)
 rw [← zj B] at q2
 rcases q2 with ⟨e1,e2,e3⟩ | ⟨q2,d',hd',s,tl,hv,h6⟩ | ⟨hv,q2,_⟩
 ·refine ⟨g.v,_,?_,⟨cs,?_,q1⟩,S'⟩
  ·rcases e3 with e | e<;>rw [e]
   ·exact still_nilS.lay ..
   ·exact (still_fz ..).lay ..
  ·rw [e1,e2]
   rcases e3 with e | e<;>rw [e]
   ·exact .nil _
   ·exact .fz (by simp) _
 ·refine ⟨.fz cs g.xs.length g.d.sz false,_,?_,⟨cs,.fz q2 _,q1⟩,z7q S' (z9s hf hd') (.dead::tl)⟩
  have h1:at_ (L::pts h0 B) ⟨(pts h0 B).length,d',0,s,[]⟩=some (.arr s g.xs.length g.d.sz (cs.map .v)):=z9h h6 (by simp [C.node])
  have h7:=z3j (h:=pts h0 B) (s:=s) h6 .dead
  have h8:rng cs 0 (g.xs.length*g.d.sz)=some cs:=by unfold rng;rw [if_pos (by omega)];simp [← q2]
  rw [hv]
  simp [layC,h1,h7,h8,z5t,Loc.last,q2]
 ·exact ⟨g.v,_,by rw [hv];exact (still_fz ..).lay ..,⟨cs,by rw [hv];exact .fz q2 _,q1⟩,S'⟩
end
end Go.Ev
namespace Go.Ev
section
variable {h:H} {l:Loc} {off j n:Nat} {cs:List C} {α:Type} {xs:List α} {f:α→V}
end
section
variable {N:Nat} {h0 Hp:H} {B:List Rt} {Γ:List (Nat×Stamp×List C)} {Δ:List Gw}
end
end Go.Ev
namespace Go.Ev
def StN (x:V) (nv:List V):Prop:=∀ (own:Bool) (σ:Stamp) (h:H) (l:Loc) (cs:List C) (o:Nat),nd h l=some cs→o+nv.length≤cs.length→stO own nv.length σ h (.ref l o) x=some (setNd h l (cs.take o++nv.map .v++cs.drop (o+nv.length)))
theorem z4h {x:V} (hx:Still x):StN x [x]:=fun _ _ _ _ _ _ hn ho=>by
 simp only [List.length_cons,List.length_nil,Nat.zero_add] at ho ⊢
 rw [z77 hx hn (by omega)]
 congr 2
 rw [List.map_cons,List.map_nil,z6t _ _ _ (by omega)]
end Go.Ev
