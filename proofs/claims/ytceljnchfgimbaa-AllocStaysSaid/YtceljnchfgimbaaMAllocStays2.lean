/- A part of the proof that follows: what is picked fits, and is the best, or what was; what was stays only where the best would be too near the budget; picked again it stays -/
import Derived.Test.YtceljnchfgimbaaMAllocStays1
import Derived.Laws.RangeAny
import Derived.Laws.Runes
import Derived.Test.YtceljnchfgimbaaRows
import Derived.ProofKit
import Derived.Tactics
import Derived.Tactics2
import Derived.StillTactics
import Derived.LoopTactic
import Derived.WalkKit
import Derived.Laws.Concat
import Derived.Laws.Strings
import Derived.Laws.Cover4
import Derived.OwnWalk
import Derived.Laws.AppendOwn
namespace Go.Ev
set_option linter.unusedVariables false
set_option linter.unusedSimpArgs false
section
variable {h : H} {l : Loc} {off j : Nat} {cs : List C}
theorem AtC.rng (ha : AtC h l off cs) {n : Nat} (hj : j + n ≤ cs.length) : ∃ all,nd h l = some all∧Go.Ev.rng all (off + j) n = some ((cs.drop j).take n):=by
 obtain ⟨p,q,hn,hp⟩:=ha
 refine ⟨_,hn,?_⟩
 unfold Go.Ev.rng
 rw [if_pos (by simp; omega)]
 congr 1
 rw [← List.drop_drop,List.append_assoc,← hp,List.drop_left,List.drop_append_of_le_length (by omega),List.take_append_of_le_length (by rw [List.length_drop]; omega)]
theorem AtC.ldAgg (ha : AtC h l off cs) {n : Nat} {agg : Bool} {xs : List V} (hj : j + n ≤ cs.length) (hx : toVs l (off + j) ((cs.drop j).take n) = some xs) : ldO agg n h (.ref l (off + j)) = mkV agg xs:=by
 obtain ⟨all,h1,h2⟩:=ha.rng hj
 simp only [ldO,h1,h2,Option.bind_some,hx]
theorem drop_one {α : Type} {cs : List α} {j : Nat} {c : α} (hj : cs[j]? = some c) : (cs.drop j).take 1 = [c]:=by
 obtain ⟨hlt,he⟩:=List.getElem?_eq_some_iff.1 hj
 rw [List.drop_eq_getElem_cons hlt,he]; rfl
theorem AtC.ldC (ha : AtC h l off cs) {c : C} {x : V} (hj : cs[j]? = some c) (hx : toV l (off + j) c = some x) : ldO false 1 h (.ref l (off + j)) = some x:=by
 have hlt:=(List.getElem?_eq_some_iff.1 hj).1
 rw [ha.ldAgg (xs:=[x]) (by omega) (by rw [drop_one hj]; simp [toVs,hx])]
 rfl
theorem AtC.ld (ha : AtC h l off cs) {x : V} (hj : cs[j]? = some (.v x)) : ldO false 1 h (.ref l (off + j)) = some x:=ha.ldC hj rfl
theorem AtC.ldVs (ha : AtC h l off cs) {xs : List V} {n : Nat} (hn : xs.length = n) (hj : (cs.drop j).take n = xs.map .v) (hp : 0 < n) : ldO true n h (.ref l (off + j)) = some (.agg xs):=by
 have : j + n ≤ cs.length:=by
  have:=congrArg List.length hj
  rw [List.length_take,List.length_drop,List.length_map,hn] at this
  omega
 rw [ha.ldAgg (xs:=xs) this (by rw [hj,toVs_plain])]
 rfl
theorem AtC.st (ha : AtC h l off cs) {own : Bool} {σ : Stamp} {x : V} (hx : Still x) (hj : j < cs.length) : stO own 1 σ h (.ref l (off + j)) x = some (ptC h l off (cs.set j (.v x))):=by
 obtain ⟨p,q,hn,hp⟩:=ha
 rw [stO_still hx hn (by simp; omega),ptC_eq hn hp (by simp)]
 congr 2
 rw [List.append_assoc,List.set_append_right _ _ (by omega),List.set_append_left _ _ (by omega),← List.append_assoc]
 congr 3
 omega
theorem AtC.stVs (ha : AtC h l off cs) {own : Bool} {σ : Stamp} {xs : List V} {n : Nat} (hx : Stills xs) (hn : xs.length = n) (hj : j + n ≤ cs.length) : stO own n σ h (.ref l (off + j)) (.agg xs) = some (ptC h l off (cs.take j ++ xs.map .v ++ cs.drop (j + n))):=by
 subst hn
 obtain ⟨p,q,hn,hp⟩:=ha
 rw [stO_agg hx hn (by simp; omega),ptC_eq hn hp (by simp; omega)]
 congr 2
 rw [List.append_assoc p,List.take_append,List.take_of_length_le (l:=p) (by omega),List.drop_append,List.drop_of_length_le (l:=p) (by omega),List.nil_append,hp,Nat.add_sub_cancel_left,Nat.add_assoc,Nat.add_sub_cancel_left,List.take_append_of_le_length (by omega),List.drop_append_of_le_length (by omega)]
 simp
theorem AtC.hop (ha : AtC h l off cs) {c : C} {s : Stamp} {ds : List C} (hj : cs[j]? = some c) (hd : c.node s = some ds) : AtC h (l.hop (off + j) s) 0 ds:=by
 obtain ⟨p,q,hn,hp⟩:=ha
 have hlt:=(List.getElem?_eq_some_iff.1 hj).1
 refine ⟨[],[],?_,rfl⟩
 rw [nd_in hn (c:=c) (ds:=ds) _ hd]
 ·simp
 ·rw [List.append_assoc,List.getElem?_append_right (by omega),show off + j - p.length = j by omega,List.getElem?_append_left hlt,hj]
theorem AtC.hop_pt (ha : AtC h l off cs) {c : C} {s : Stamp} {ds ds' : List C} (hj : cs[j]? = some c) (hd : c.node s = some ds) (hl : ds'.length = ds.length) : ptC h (l.hop (off + j) s) 0 ds' = ptC h l off (cs.set j (c.withNode ds')):=by
 have h0:=ha
 obtain ⟨p,q,hn,hp⟩:=ha
 have hlt:=(List.getElem?_eq_some_iff.1 hj).1
 have hc : (p ++ cs ++ q)[off + j]? = some c:=by rw [List.append_assoc,List.getElem?_append_right (by omega),show off + j - p.length = j by omega,List.getElem?_append_left hlt,hj]
 have h1 : nd h (l.hop (off + j) s) = some ([] ++ ds ++ []):=by rw [nd_in hn hc hd]; simp
 rw [ptC_eq (off:=0) h1 rfl hl,ptC_eq hn hp (by simp)]
 simp only [List.nil_append,List.append_nil]
 rw [setNd_in hn hc hd]
 congr 1
 rw [List.append_assoc,List.set_append_right _ _ (by omega),List.set_append_left _ _ (by omega),← List.append_assoc]
 congr 3
 omega
end

section
variable {α : Type} {h : H} {d : Dt α} {xs : List α} {v : V}
structure El (h : H) (v : V) (o : Nat) (ws : List V) : Prop where
 ld : ∀ {j y},ws[j]? = some y→ldO false 1 h (adr v (o + j)) = some y
 fa : ∀ {j},j ≤ ws.length→fA (adr v o) j = some (adr v (o + j))
 all : 0 < ws.length→ldO true ws.length h (adr v o) = some (.agg ws)
 ldn : ∀ {j n},0 < n→j + n ≤ ws.length→ldO true n h (adr v (o + j)) = some (.agg ((ws.drop j).take n))
theorem SlH.len (hv : SlH h d xs v) : lenO v = some (.p (.int .i64 xs.length)):=by obtain ⟨cs,h1,h2⟩:=hv; exact h1.lenO
theorem SlH.iS (hv : SlH h d xs v) {i : Int} {x : α} (hx : ix xs i = some x) {e : Nat} (he : d.sz = e) : Go.Ev.iS e v i = some (adr v (i.toNat * e)):=by
 subst he
 obtain ⟨cs,h1,h2⟩:=hv
 obtain ⟨h0,hi,_⟩:=ix_some hx
 exact h1.iS h0 (by omega)
theorem SlH.el (hv : SlH h d xs v) {i : Int} {x : α} (hx : ix xs i = some x) {e : Nat} (he : d.sz = e) : ∃ ws,d.R x ws∧El h v (i.toNat * e) ws:=by
 subst he
 obtain ⟨cs,h1,h2⟩:=hv
 obtain ⟨h0,hi,rfl⟩:=ix_some hx
 obtain ⟨ws,hR,hw⟩:=RL.get (fun h => d.len h) h2 hi
 have hl:=d.len hR
 have hc:=h1.clen
 have hle : i.toNat * d.sz + d.sz ≤ cs.length:=by
  have:=Nat.mul_le_mul_right d.sz (Nat.succ_le_of_lt hi)
  rw [Nat.succ_mul] at this; omega
 refine ⟨ws,hR,⟨fun {j y} hj => ?_,fun {j} hj => ?_,fun hp => ?_,fun {j n} hp hj => ?_⟩⟩
 ·have hjl:=(List.getElem?_eq_some_iff.1 hj).1
  refine h1.ld1 ?_
  rw [← hw,List.getElem?_take_of_lt (by omega),List.getElem?_drop] at hj
  exact hj
 ·by_cases hz : d.sz = 0
  ·have : j = 0:=by omega
   subst this
   rcases h1.cases with ⟨rfl,h3,rfl⟩ | ⟨t,rfl⟩ | ⟨l,off,av,ds,rfl,hn,hl,hv,hav⟩
   ·omega
   ·simp [adr,fA]
   ·simp [adr,fA]
  ·exact h1.fA (Nat.mul_pos (by omega) (by omega)) (by omega)
 ·rw [hl] at hp ⊢
  rw [h1.ld hle hp,hw]; rfl
 ·rw [h1.ld (by omega) hp,← hw,List.drop_take,List.take_take,Nat.min_eq_left (by omega),List.drop_drop]; rfl
theorem SlH.sub (hv : SlH h d xs v) {a b : Int} {ys : List α} (hs : Ev.sub xs a b = some ys) {e : Nat} (he : d.sz = e) : SlH h d ys (subV e v a.toNat b.toNat):=by
 subst he
 obtain ⟨cs,h1,h2⟩:=hv
 obtain ⟨⟨q0,q1,q2⟩,rfl⟩:=sub_some hs
 have e1 : (b - a).toNat = b.toNat - a.toNat:=by omega
 refine ⟨_,?_,(RL.take (fun h => d.len h) (b - a).toNat (RL.drop (fun h => d.len h) a.toNat h2))⟩
 rw [e1]
 have:=h1.sub (a:=a.toNat) (b:=b.toNat) (by omega) (by omega)
 rwa [List.length_take,List.length_drop,Nat.min_eq_left (by omega)]
theorem SlF.sub (hv : SlF d xs v) {a b : Int} {ys : List α} (hs : Ev.sub xs a b = some ys) {e : Nat} (he : d.sz = e) : SlF d ys (subV e v a.toNat b.toNat):=by
 subst he
 obtain ⟨cs,h1,h2⟩:=hv
 obtain ⟨⟨q0,q1,q2⟩,rfl⟩:=sub_some hs
 have e1 : (b - a).toNat = b.toNat - a.toNat:=by omega
 refine ⟨_,?_,(RL.take (fun h => d.len h) (b - a).toNat (RL.drop (fun h => d.len h) a.toNat h2))⟩
 rw [e1]
 intro h
 have:=(h1 h).sub (a:=a.toNat) (b:=b.toNat) (by omega) (by omega)
 rwa [List.length_take,List.length_drop,Nat.min_eq_left (by omega)]
theorem SlH.slS (hv : SlH h d xs v) {a b : Int} {ys : List α} (hs : Ev.sub xs a b = some ys) {lo hi : Option Int} (ha : lo.getD 0 = a) (hb : hi.getD xs.length = b) {e : Nat} (he : d.sz = e) : Go.Ev.slS e v lo hi none = some (subV e v a.toNat b.toNat):=by
 subst he
 obtain ⟨cs,h1,h2⟩:=hv
 obtain ⟨⟨q0,q1,q2⟩,rfl⟩:=sub_some hs
 exact h1.slS ha hb q0 q1 q2
theorem SlF.nil (d : Dt α) : SlF d [] (.p (.slice none 0 0)):=⟨[],.nil _,rfl⟩
theorem SlF.lit {cs : List V} {n : Nat} (hl : d.L xs cs) (hn : xs.length = n) {e : Nat} (he : d.sz = e) (t : Bool) : SlF d xs (.fz cs n e t):=by
 subst hn; subst he
 exact ⟨cs,.fz (RL.length (fun h => d.len h) hl) t,hl⟩
end

structure Gw where
 {α : Type}
 D : List Nat
 v : V
 d : Dt α
 xs : List α
def Gw.ok (g : Gw) (L : Layer) (n0 : Nat) : Prop:=∃ cs,g.d.L g.xs cs∧GrowS g.D L n0 g.v g.d.sz g.xs.length cs
def freeG (Γ : List (Nat × Stamp × List C)) (d : Nat) : Bool:=Γ.all fun e => e.1 != d
def freeD (Δ : List Gw) (d : Nat) : Bool:=Δ.all fun g => !g.D.contains d
def freeL (D : List Nat) (Γ : List (Nat × Stamp × List C)) (Δ : List Gw) : Bool:=D.all fun d => freeG Γ d && freeD Δ d
def Fm (N : Nat) (h0 : H) (B : List Rt) (Γ : List (Nat × Stamp × List C)) (Δ : List Gw) (Hp : H) : Prop :=
 ∃ L,Hp = L::pts h0 B∧L.length = N∧BOk h0 B∧(∀ e ∈ Γ,L[e.1]? = some [.own e.2.1 e.2.2])∧(∀ g ∈ Δ,g.ok L h0.length)
section
variable {N : Nat} {h0 Hp : H} {B : List Rt} {Γ Γ' : List (Nat × Stamp × List C)} {Δ Δ' : List Gw}
theorem Fm.start (hB : BOk h0 B) (hs : ∀ r ∈ B,AtC h0 r.l r.off r.cs) : Fm N h0 B [] [] (List.replicate N []::h0) :=
 ⟨List.replicate N [],by rw [BOk.same hs],List.length_replicate,hB,by simp,by simp⟩
theorem Fm.start0 : Fm N h0 [] [] [] (List.replicate N []::h0):=Fm.start trivial (by simp)
theorem Fm.wk (S : Fm N h0 B Γ Δ Hp) (hG : ∀ e ∈ Γ',e ∈ Γ) (hD : ∀ g ∈ Δ',g ∈ Δ) : Fm N h0 B Γ' Δ' Hp:=by
 obtain ⟨L,h1,h2,h3,h4,h5⟩:=S
 exact ⟨L,h1,h2,h3,fun e he => h4 e (hG e he),fun g hg => h5 g (hD g hg)⟩
theorem Fm.len (S : Fm N h0 B Γ Δ Hp) : Hp.length = h0.length + 1:=by
 obtain ⟨L,rfl,_⟩:=S; simp [pts_length]
theorem Fm.nil (S : Fm N h0 B Γ Δ Hp) {α : Type} (d : Dt α) (D : List Nat) : Fm N h0 B Γ (⟨D,.p (.slice none 0 0),d,[]⟩::Δ) Hp:=by
 obtain ⟨L,h1,h2,h3,h4,h5⟩:=S
 refine ⟨L,h1,h2,h3,h4,fun g hg => ?_⟩
 rcases List.mem_cons.1 hg with rfl | hg
 ·exact ⟨[],rfl,.inl ⟨rfl,rfl,.inl rfl⟩⟩
 ·exact h5 g hg
theorem Fm.nil' (S : Fm N h0 B Γ Δ Hp) {α : Type} (d : Dt α) (D : List Nat) {e : Nat} (he : d.sz = e) : Fm N h0 B Γ (⟨D,.fz [] 0 e true,d,[]⟩::Δ) Hp:=by
 subst he
 obtain ⟨L,h1,h2,h3,h4,h5⟩:=S
 refine ⟨L,h1,h2,h3,h4,fun g hg => ?_⟩
 rcases List.mem_cons.1 hg with rfl | hg
 ·exact ⟨[],rfl,.inl ⟨rfl,rfl,.inr rfl⟩⟩
 ·exact h5 g hg
theorem Fm.lit (S : Fm N h0 B Γ Δ Hp) {α : Type} {d : Dt α} {xs : List α} {cs : List V} {n e m : Nat} (hl : d.L xs cs) (he : d.sz = e) (hn : xs.length = n) (hm : 1000000 ≤ m) : Fm N h0 B Γ (⟨[m],.fz cs n e true,d,xs⟩::Δ) Hp:=by
 subst he; subst hn
 obtain ⟨L,h1,h2,h3,h4,h5⟩:=S
 refine ⟨L,h1,h2,h3,h4,fun g hg => ?_⟩
 rcases List.mem_cons.1 hg with rfl | hg
 ·exact ⟨cs,hl,.inr (.inr ⟨rfl,RL.length (fun h => d.len h) hl,RL.stills hl,m,List.mem_singleton.2 rfl,hm⟩)⟩
 ·exact h5 g hg
theorem Fm.sl (S : Fm N h0 B Γ Δ Hp) {i : Nat} {g : Gw} (hi : Δ[i]? = some g) : SlH Hp g.d g.xs g.v:=by
 obtain ⟨L,rfl,h2,h3,h4,h5⟩:=S
 obtain ⟨cs,q1,q2⟩:=h5 g (List.mem_of_getElem? hi)
 rw [← pts_length B] at q2
 exact ⟨cs,q2.sl,q1⟩
theorem Fm.low (S : Fm N h0 [] Γ Δ Hp) {α : Type} {d : Dt α} {xs : List α} {v : V} (hv : SlH h0 d xs v) : SlH Hp d xs v:=by
 obtain ⟨L,rfl,_⟩:=S
 obtain ⟨cs,q1,q2⟩:=hv
 exact ⟨cs,q1.up L,q2⟩
theorem Fm.atG (S : Fm N h0 B Γ Δ Hp) {i d : Nat} {s : Stamp} {cs : List C} (hi : Γ[i]? = some (d,s,cs)) : AtC Hp ⟨h0.length,d,0,s,[]⟩ 0 cs:=by
 obtain ⟨L,rfl,h2,h3,h4,h5⟩:=S
 have:=h4 _ (List.mem_of_getElem? hi)
 refine ⟨[],[],?_,rfl⟩
 rw [← pts_length B,nd_own this]; simp
theorem mem_set.{u} {α : Type u} {xs : List α} {i : Nat} {x y : α} (h : y ∈ xs.set i x) (hi : i < xs.length) : y = x ∨ y ∈ xs.eraseIdx i:=by
 obtain ⟨j,hj⟩:=List.mem_iff_getElem?.1 h
 rw [List.getElem?_set] at hj
 split at hj
 ·rename_i hij; subst hij
  first
   | exact .inl (Option.some.inj hj).symm
   | (rw [if_pos hi] at hj; exact .inl (Option.some.inj hj).symm)
 ·rename_i hij
  exact .inr (List.mem_eraseIdx_iff_getElem?.2 ⟨j,Ne.symm hij,hj⟩)
theorem mem_erase.{u} {α : Type u} {xs : List α} {i : Nat} {y : α} (h : y ∈ xs.eraseIdx i) : y ∈ xs:=by
 obtain ⟨j,_,hj⟩:=List.mem_eraseIdx_iff_getElem?.1 h
 exact List.mem_of_getElem? hj
theorem freeG_ne {d : Nat} (h : freeG Γ d = true) {e : Nat × Stamp × List C} (he : e ∈ Γ) : e.1 ≠ d:=by
 have:=List.all_eq_true.1 h e he
 simpa using this
theorem freeD_ne {d : Nat} (h : freeD Δ d = true) {g : Gw} (hg : g ∈ Δ) : d ∉ g.D:=by
 have:=List.all_eq_true.1 h g hg
 simpa using this
theorem Gw.ok.frame {g : Gw} {L L' : Layer} {n0 : Nat} (h : g.ok L n0) (hL : ∀ d ∈ g.D,L'[d]? = L[d]?) : g.ok L' n0:=by
 obtain ⟨cs,q1,q2⟩:=h
 exact ⟨cs,q1,q2.frame hL⟩
theorem Fm.setG (S : Fm N h0 B Γ Δ Hp) {i d : Nat} {s : Stamp} {cs cs' : List C} (hi : Γ[i]? = some (d,s,cs)) (hf : (freeG (Γ.eraseIdx i) d && freeD Δ d) = true) (hc : cs'.length = cs.length) : Fm N h0 B (Γ.set i (d,s,cs')) Δ (ptC Hp ⟨h0.length,d,0,s,[]⟩ 0 cs'):=by
 obtain ⟨L,rfl,h2,h3,h4,h5⟩:=S
 have hL:=h4 _ (List.mem_of_getElem? hi)
 have hlt:=(List.getElem?_eq_some_iff.1 hi).1
 have hdl:=(List.getElem?_eq_some_iff.1 hL).1
 simp only [Bool.and_eq_true] at hf
 refine ⟨L.set d [.own s cs'],?_,by simpa using h2,h3,fun e he => ?_,fun g hg => ?_⟩
 ·have hn:=nd_own (h:=pts h0 B) hL
  rw [← pts_length B]
  rw [ptC_eq (off:=0) (p:=[]) (q:=[]) (cs:=cs) (by rw [hn]; simp) rfl hc,setNd_own hL]
  simp
 ·rcases mem_set he hlt with rfl | he
  ·simp only; rw [List.getElem?_set_self hdl]
  ·rw [List.getElem?_set_ne (Ne.symm (freeG_ne hf.1 he))]; exact h4 e (mem_erase he)
 ·exact (h5 g hg).frame fun x hx => by rw [List.getElem?_set_ne (fun e => freeD_ne hf.2 hg (by rw [e]; exact hx))]
theorem Fm.atB (S : Fm N h0 B Γ Δ Hp) {i : Nat} {r : Rt} (hi : B[i]? = some r) : AtC Hp r.l r.off r.cs:=by
 obtain ⟨L,rfl,h2,h3,h4,h5⟩:=S
 exact (h3.at hi).up L
theorem Fm.setB (S : Fm N h0 B Γ Δ Hp) {i : Nat} {r : Rt} {cs : List C} (hi : B[i]? = some r) (hc : cs.length = r.cs.length) : Fm N h0 (B.set i ⟨r.l,r.off,cs⟩) Γ Δ (ptC Hp r.l r.off cs):=by
 obtain ⟨L,rfl,h2,h3,h4,h5⟩:=S
 exact ⟨L,by rw [(h3.at hi).put_up L hc,h3.pt hi hc],h2,h3.set hi hc,h4,h5⟩
theorem Fm.stG (S : Fm N h0 B Γ Δ Hp) {i d j : Nat} {s σ : Stamp} {own : Bool} {x : V} {cs : List C} (hi : Γ[i]? = some (d,s,cs)) (hf : (freeG (Γ.eraseIdx i) d && freeD Δ d) = true) (hx : Still x) (hj : (cs[j]?).isSome = true) :
  ∃ H',stO own 1 σ Hp (.ref ⟨h0.length,d,0,s,[]⟩ j) x = some H'∧Fm N h0 B (Γ.set i (d,s,cs.set j (.v x))) Δ H':=by
 have hlt : j < cs.length:=by
  obtain ⟨y,hy⟩:=Option.isSome_iff_exists.1 hj
  exact (List.getElem?_eq_some_iff.1 hy).1
 have e:=(S.atG hi).st (own:=own) (σ:=σ) hx hlt
 rw [Nat.zero_add] at e
 exact ⟨_,e,S.setG hi hf (by simp)⟩
theorem Fm.stGv (S : Fm N h0 B Γ Δ Hp) {i d j n : Nat} {s σ : Stamp} {own : Bool} {xs : List V} {cs : List C} (hi : Γ[i]? = some (d,s,cs)) (hf : (freeG (Γ.eraseIdx i) d && freeD Δ d) = true) (hx : Stills xs) (hn : xs.length = n) (hj : decide (j + n ≤ cs.length) = true) :
  ∃ H',stO own n σ Hp (.ref ⟨h0.length,d,0,s,[]⟩ j) (.agg xs) = some H'∧Fm N h0 B (Γ.set i (d,s,cs.take j ++ xs.map .v ++ cs.drop (j + n))) Δ H':=by
 have hj:=of_decide_eq_true hj
 have e:=(S.atG hi).stVs (own:=own) (σ:=σ) hx hn hj
 rw [Nat.zero_add] at e
 exact ⟨_,e,S.setG hi hf (by simp; omega)⟩
theorem Fm.stB (S : Fm N h0 B Γ Δ Hp) {i off j : Nat} {l : Loc} {σ : Stamp} {own : Bool} {x : V} {cs : List C} (hi : B[i]? = some ⟨l,off,cs⟩) (hx : Still x) (hj : (cs[j]?).isSome = true) :
  ∃ H',stO own 1 σ Hp (.ref l (off + j)) x = some H'∧Fm N h0 (B.set i ⟨l,off,cs.set j (.v x)⟩) Γ Δ H':=by
 have hlt : j < cs.length:=by
  obtain ⟨y,hy⟩:=Option.isSome_iff_exists.1 hj
  exact (List.getElem?_eq_some_iff.1 hy).1
 exact ⟨_,(S.atB hi).st (own:=own) (σ:=σ) hx hlt,S.setB hi (by simp)⟩
theorem Fm.stBv (S : Fm N h0 B Γ Δ Hp) {i off j n : Nat} {l : Loc} {σ : Stamp} {own : Bool} {xs : List V} {cs : List C} (hi : B[i]? = some ⟨l,off,cs⟩) (hx : Stills xs) (hn : xs.length = n) (hj : decide (j + n ≤ cs.length) = true) :
  ∃ H',stO own n σ Hp (.ref l (off + j)) (.agg xs) = some H'∧Fm N h0 (B.set i ⟨l,off,cs.take j ++ xs.map .v ++ cs.drop (j + n)⟩) Γ Δ H':=by
 have hj:=of_decide_eq_true hj
 exact ⟨_,(S.atB hi).stVs (own:=own) (σ:=σ) hx hn hj,S.setB hi (by simp; omega)⟩
theorem Fm.add (S : Fm N h0 B Γ Δ Hp) {d : Nat} {s : Stamp} {cs : List C} (hd : d < N) (hf : (freeG Γ d && freeD Δ d) = true) : Fm N h0 B ((d,s,cs)::Γ) Δ (setSlot Hp d [.own s cs]):=by
 obtain ⟨L,rfl,h2,h3,h4,h5⟩:=S
 simp only [Bool.and_eq_true] at hf
 refine ⟨L.set d [.own s cs],rfl,by simpa using h2,h3,fun e he => ?_,fun g hg => ?_⟩
 ·rcases List.mem_cons.1 he with rfl | he
  ·simp only; rw [List.getElem?_set_self (by omega)]
  ·rw [List.getElem?_set_ne (Ne.symm (freeG_ne hf.1 he))]; exact h4 e he
 ·exact (h5 g hg).frame fun x hx => by rw [List.getElem?_set_ne (fun e => freeD_ne hf.2 hg (by rw [e]; exact hx))]
theorem Fm.newLoc (S : Fm N h0 B Γ Δ Hp) (d : Nat) (s : Stamp) : Ev.newLoc Hp d s = ⟨h0.length,d,0,s,[]⟩:=by
 obtain ⟨L,rfl,_⟩:=S; rw [newLoc_cons,pts_length]
theorem Fm.al (S : Fm N h0 B Γ Δ Hp) {d : Nat} {s : Stamp} {z : List V} (hd : d < N) (hf : (freeG Γ d && freeD Δ d) = true) : ∃ H',alO z s d Hp = (.ref ⟨h0.length,d,0,s,[]⟩ 0,H')∧Fm N h0 B ((d,s,z.map .v)::Γ) Δ H' :=
 ⟨_,by rw [alO,S.newLoc],S.add hd hf⟩
theorem Fm.box (S : Fm N h0 B Γ Δ Hp) {d : Nat} {s : Stamp} {own : Bool} {xs : List V} (hx : Stills xs) (hd : d < N) (hf : (freeG Γ d && freeD Δ d) = true) : ∃ H',boxO own s d Hp (.agg xs) = some (.ref ⟨h0.length,d,0,s,[]⟩ 0,H')∧Fm N h0 B ((d,s,xs.map .v)::Γ) Δ H' :=
 ⟨_,by unfold boxO; rw [show (V.agg xs).cells = xs from rfl,layCs_still own _ hx]; simp only [Option.bind_some]; rw [S.newLoc],S.add hd hf⟩
theorem Fm.slot (S : Fm N h0 B Γ Δ Hp) {i d : Nat} {s : Stamp} {cs : List C} (hi : Γ[i]? = some (d,s,cs)) : slotOf Hp d = some [.own s cs]:=by
 obtain ⟨L,rfl,h2,h3,h4,h5⟩:=S
 exact h4 _ (List.mem_of_getElem? hi)

def YsH {α : Type} (h : H) (d : Dt α) (ys : List α) (y : V) : Prop:=∃ cs,Ys h y d.sz ys.length cs∧d.L ys cs
theorem SlH.y {α : Type} {h : H} {d : Dt α} {ys : List α} {y : V} (hy : SlH h d ys y) : YsH h d ys y:=by
 obtain ⟨cs,h1,h2⟩:=hy; exact ⟨cs,h1.ys,h2⟩
theorem Fm.app (S : Fm N h0 B Γ Δ Hp) {i d b e : Nat} {g : Gw} {own : Bool} {σ : Stamp} {y : V} {ys zs : List g.α} (hi : Δ[i]? = some g) (hy : YsH Hp g.d ys y) (hz : ap b g.xs ys = some zs) (he : g.d.sz = e) (hk : e ≠ 0) (hd : d < N) (hf : freeL (d::g.D) Γ (Δ.eraseIdx i) = true) :
  ∃ v H',apO own e b σ d Hp g.v y = some (v,H')∧Fm N h0 B Γ (Δ.set i ⟨d::g.D,v,g.d,zs⟩) H':=by
 subst he
 obtain ⟨⟨hb1,hb2⟩,rfl⟩:=ap_some hz
 obtain ⟨L,rfl,h2,h3,h4,h5⟩:=S
 obtain ⟨cs,q1,q2⟩:=h5 g (List.mem_of_getElem? hi)
 obtain ⟨ds,r1,r2⟩:=hy
 rw [← pts_length B] at q2
 have hlt:=(List.getElem?_eq_some_iff.1 hi).1
 obtain ⟨v',L',e1,e2,e3,e4⟩:=q2.app (own:=own) (σ:=σ) (d:=d) (by omega) r1 (RL.stills r2) hk hb1 hb2
 have hfr:=List.all_eq_true.1 hf
 have nG : ∀ e ∈ Γ,e.1 ∉ d::g.D:=fun e he hm => by
  have:=hfr _ hm
  simp only [Bool.and_eq_true] at this
  exact freeG_ne this.1 he rfl
 have nD : ∀ g' ∈ Δ.eraseIdx i,∀ x ∈ g'.D,x ∉ d::g.D:=fun g' hg' x hx hm => by
  have:=hfr _ hm
  simp only [Bool.and_eq_true] at this
  exact freeD_ne this.2 hg' hx
 refine ⟨v',_,e1,L',rfl,by omega,h3,fun e he => by rw [e4 _ (nG e he)]; exact h4 e he,fun g' hg' => ?_⟩
 rcases mem_set hg' hlt with rfl | hg'
 ·refine ⟨cs ++ ds,q1.append r2,?_⟩
  rw [← pts_length B,List.length_append]
  exact e2
 ·exact (h5 g' (mem_erase hg')).frame fun x hx => e4 x (nD g' hg' x hx)
theorem Fm.setD (S : Fm N h0 B Γ Δ Hp) {i e : Nat} {g : Gw} {own : Bool} {σ : Stamp} {k : Int} {x : g.α} {xv : V} {zs : List g.α} (hi : Δ[i]? = some g) (hz : stx g.xs k x = some zs) (he : g.d.sz = 1) (hx : g.d.R x [xv]) (hD : noLit g.D = true) (hf : freeL g.D Γ (Δ.eraseIdx i) = true) :
  ∃ H',stO own 1 σ Hp (adr g.v (k.toNat * 1)) xv = some H'∧Fm N h0 B Γ (Δ.set i ⟨g.D,g.v,g.d,zs⟩) H':=by
 obtain ⟨⟨hk0,hk1⟩,rfl⟩:=stx_some hz
 obtain ⟨L,rfl,h2,h3,h4,h5⟩:=S
 obtain ⟨cs,q1,q2⟩:=h5 g (List.mem_of_getElem? hi)
 rw [← pts_length B] at q2
 have hlt:=(List.getElem?_eq_some_iff.1 hi).1
 have hcl:=RL.length (fun h => g.d.len h) q1
 rw [he,Nat.mul_one] at hcl
 have hs : Still xv:=g.d.still hx xv (List.mem_cons_self ..)
 obtain ⟨L',e1,e2,e3,e4⟩:=q2.set hD (own:=own) (σ:=σ) (j:=k.toNat * 1) (x:=xv) (by omega) hs
 have hfr:=List.all_eq_true.1 hf
 refine ⟨_,e1,L',rfl,by omega,h3,fun e he => by
  rw [e4 _ fun hm => ?_]
  ·exact h4 e he
  ·have:=hfr _ hm
   simp only [Bool.and_eq_true] at this
   exact freeG_ne this.1 he rfl,fun g' hg' => ?_⟩
 rcases mem_set hg' hlt with rfl | hg'
 ·refine ⟨_,?_,by rw [← pts_length B]; simpa using e2⟩
  have:=q1.set (k:=1) (fun h => by rw [g.d.len h,he]) (i:=k.toNat) (y:=x) (by omega) hx
  rw [Nat.mul_one] at this
  rw [set_take_drop cs _ _ (by omega)] at this
  exact this
 ·exact (h5 g' (mem_erase hg')).frame fun x hx => e4 x fun hm => by
   have:=hfr _ hm
   simp only [Bool.and_eq_true] at this
   exact freeD_ne this.2 hg' hx
theorem Fm.mk (S : Fm N h0 B Γ Δ Hp) {α : Type} {dt : Dt α} {d b e : Nat} {z : α} {zv : List V} {n : Int} {σ : Stamp} {zs : List α} (hz : Ev.mk b z n = some zs) (hR : dt.R z zv) (he : dt.sz = e) (hk : e ≠ 0) (hd : d < N) (hf : (freeG Γ d && freeD Δ d) = true) :
  ∃ v H',mkO e b zv σ d Hp n n = some (v,H')∧Fm N h0 B Γ (⟨[d],v,dt,zs⟩::Δ) H':=by
 subst he
 obtain ⟨⟨z0,z1,z2⟩,rfl⟩:=mk_some hz
 obtain ⟨L,rfl,h2,h3,h4,h5⟩:=S
 simp only [Bool.and_eq_true] at hf
 obtain ⟨v,L',e1,e2,e3,e4⟩:=GrowS.make (L:=L) (h:=pts h0 B) (b:=b) (d:=d) (z:=zv) (n:=n) (σ:=σ) (by omega) z0 z1 (by omega) (dt.len hR) hk
 refine ⟨v,_,e1,L',rfl,by omega,h3,fun e he => by rw [e4 _ (freeG_ne hf.1 he)]; exact h4 e he,fun g hg => ?_⟩
 rcases List.mem_cons.1 hg with rfl | hg
 ·refine ⟨_,RL.rep hR _,?_⟩
  rw [← pts_length B]
  simpa using e2
 ·exact (h5 g hg).frame fun x hx => e4 x fun h => freeD_ne hf.2 hg (h ▸ hx)
theorem Fm.land (S : Fm N h0 B Γ Δ Hp) {α : Type} {dt : Dt α} {d e n : Nat} {c : C} {cs : List V} {xs : List α} (ho : OwnS c dt.sz xs.length cs) (hl : dt.L xs cs) (hd : d < N) (hf : (freeG Γ d && freeD Δ d) = true) :
  ∃ v H',Ev.land Hp (some d) [c] = (v,H')∧Fm N h0 B Γ (⟨[d],v,dt,xs⟩::Δ) H':=by
 obtain ⟨L,rfl,h2,h3,h4,h5⟩:=S
 simp only [Bool.and_eq_true] at hf
 obtain ⟨v,L',e1,e2,e3,e4⟩:=ho.land (L:=L) (h:=pts h0 B) (d:=d) (by omega)
 refine ⟨v,_,e1,L',rfl,by omega,h3,fun e he => by rw [e4 _ (freeG_ne hf.1 he)]; exact h4 e he,fun g hg => ?_⟩
 rcases List.mem_cons.1 hg with rfl | hg
 ·exact ⟨cs,hl,by rw [← pts_length B]; exact e2⟩
 ·exact (h5 g hg).frame fun x hx => e4 x fun h => freeD_ne hf.2 hg (h ▸ hx)
def Lv1 (x : V) : Prop:=∀ frz τ h,expF frz τ h x = some (.v x,h)
theorem Still.lv {x : V} (h : Still x) : Lv1 x:=h.exp
theorem Stills.lv {xs : List V} (h : Stills xs) : Lv1 (.agg xs):=fun _ τ h' => expF_agg h τ h'
theorem Fm.finN (S : Fm N h0 B Γ Δ Hp) {frz : Bool} {σ : Stamp} {xs : List V} (hx : ∀ x ∈ xs,Lv1 x) : fin frz σ Hp xs = some (xs.map .v,pts h0 B):=by
 obtain ⟨L,rfl,_⟩:=S
 have : ∀ (xs : List V) (j : Nat),(∀ x ∈ xs,Lv1 x)→expCs frz (1::σ) j (L::pts h0 B) xs = some (xs.map .v,L::pts h0 B):=fun xs => by
  induction xs with
  | nil => intro j _; rfl
  | cons x xs ih => intro j hx; simp only [expCs,hx x (List.mem_cons_self ..) frz,Option.bind_some,ih (j + 1) (fun y hy => hx y (List.mem_cons_of_mem _ hy)),Option.map_some,List.map_cons]
 simp [fin,this xs 0 hx]
theorem Fm.finOwn (S : Fm N h0 B Γ Δ Hp) {i : Nat} {g : Gw} (hi : Δ[i]? = some g) (hD : noLit g.D = true) {σ : Stamp} : ∃ c cs,fin false σ Hp [g.v] = some ([c],pts h0 B)∧OwnS c g.d.sz g.xs.length cs∧g.d.L g.xs cs:=by
 obtain ⟨L,rfl,h2,h3,h4,h5⟩:=S
 obtain ⟨cs,q1,q2⟩:=h5 g (List.mem_of_getElem? hi)
 rw [← pts_length B] at q2
 obtain ⟨c,e1,e2⟩:=q2.own hD σ
 exact ⟨c,cs,e1,e2,q1⟩
end
end Go.Ev
namespace Go.Ev
set_option linter.unusedVariables false
set_option linter.unusedSimpArgs false
section
variable {β α γ δ : Type} {x : Option β} {Q : β→α→Prop} {K : δ→Option α}
theorem Sim.as {A : Option γ} {g : γ→Option δ} (s : Sim x (A.bind fun v => (g v).bind K) Q) : Sim x ((A.bind g).bind K) Q:=by
 rw [Option.bind_assoc]; exact s
theorem Sim.ext {Y Y' : Option δ} (e : Y = Y') (s : Sim x (Y'.bind K) Q) : Sim x (Y.bind K) Q:=by rw [e]; exact s
theorem Sim.pure {v : δ} (s : Sim x (K v) Q) : Sim x ((some v).bind K) Q:=s
end
theorem sM {o : Option H} {h : H} (e : o = some h) : (o.map fun h => ((udf : V),h)) = some (udf,h):=by rw [e]; rfl
theorem lN : ∀ x ∈ ([] : List V),Lv1 x:=fun _ h => by cases h
theorem lC {x : V} {xs : List V} (h : Lv1 x) (t : ∀ y ∈ xs,Lv1 y) : ∀ y ∈ x::xs,Lv1 y:=fun y hy => by
 rcases List.mem_cons.1 hy with rfl | hy
 ·exact h
 ·exact t y hy
def Ex (frz : Bool) (τ : Stamp) (j : Nat) (h : H) (xs : List V) (cs : List C) (h' : H) : Prop:=expCs frz τ j h xs = some (cs,h')
theorem Ex.nil {frz : Bool} {τ : Stamp} {j : Nat} {h : H} : Ex frz τ j h [] [] h:=rfl
theorem Ex.st {frz : Bool} {τ : Stamp} {j : Nat} {h h1 h' : H} {x : V} {c : C} {xs : List V} {cs : List C} (hx : expF frz (j::τ) h x = some (c,h1)) (t : Ex frz τ (j + 1) h1 xs cs h') : Ex frz τ j h (x::xs) (c::cs) h':=by
 unfold Ex at t ⊢; simp only [expCs,hx,Option.bind_some,t,Option.map_some]
section
variable {N : Nat} {h0 Hp : H} {B : List Rt} {Γ : List (Nat × Stamp × List C)} {Δ : List Gw}
theorem Fm.finE (S : Fm N h0 B Γ Δ Hp) {frz : Bool} {σ : Stamp} {H : Ev.H} {xs : List V} {cs : List C} (e : Ex frz (1::σ) 0 H xs cs Hp) : fin frz σ H xs = some (cs,pts h0 B):=by
 obtain ⟨L,rfl,_⟩:=S
 unfold Ex at e
 simp [fin,e]
theorem dead_ok {L : Layer} {d : Nat} (S : Fm N h0 B Γ Δ (L::pts h0 B)) (hf : (freeG Γ d && freeD Δ d) = true) (c : List C) : Fm N h0 B Γ Δ (L.set d c::pts h0 B):=by
 obtain ⟨L',he,h2,h3,h4,h5⟩:=S
 obtain ⟨rfl,_⟩:=List.cons.inj he
 simp only [Bool.and_eq_true] at hf
 refine ⟨_,rfl,by simpa using h2,h3,fun e he => ?_,fun g hg => ?_⟩
 ·rw [List.getElem?_set_ne (Ne.symm (freeG_ne hf.1 he))]; exact h4 e he
 ·exact (h5 g hg).frame fun x hx => by rw [List.getElem?_set_ne (fun e => freeD_ne hf.2 hg (by rw [e]; exact hx))]
theorem mem_one {D : List Nat} {Γ : List (Nat × Stamp × List C)} {Δ : List Gw} (hf : freeL D Γ Δ = true) {d : Nat} (hd : d ∈ D) : (freeG Γ d && freeD Δ d) = true:=List.all_eq_true.1 hf d hd
theorem Fm.expFrz (S : Fm N h0 B Γ Δ Hp) {i : Nat} {g : Gw} (hi : Δ[i]? = some g) (hf : freeL g.D Γ (Δ.eraseIdx i) = true) {τ : Stamp} : ∃ v H',expF true τ Hp g.v = some (.v v,H')∧SlF g.d g.xs v∧Fm N h0 B Γ (Δ.eraseIdx i) H':=by
 have S' : Fm N h0 B Γ (Δ.eraseIdx i) Hp:=S.wk (fun _ h => h) (fun _ h => mem_erase h)
 obtain ⟨L,rfl,h2,h3,h4,h5⟩:=S
 obtain ⟨cs,q1,q2⟩:=h5 g (List.mem_of_getElem? hi)
 rw [← pts_length B] at q2
 rcases q2 with ⟨e1,e2,e3⟩ | ⟨q2,d',hd',s,tl,hv,h6⟩ | ⟨hv,q2,_⟩
 ·refine ⟨g.v,_,?_,⟨cs,?_,q1⟩,S'⟩
  ·rcases e3 with e | e <;> rw [e]
   ·exact still_nilS.exp ..
   ·exact (still_fz ..).exp ..
  ·rw [e1,e2]
   rcases e3 with e | e <;> rw [e]
   ·exact .nil _
   ·exact .fz (by simp) _
 ·refine ⟨.fz cs g.xs.length g.d.sz false,_,?_,⟨cs,.fz q2 _,q1⟩,dead_ok S' (mem_one hf hd') (.dead::tl)⟩
  rw [hv,expF_frz h6 q2]
 ·exact ⟨g.v,_,by rw [hv]; exact (still_fz ..).exp ..,⟨cs,by rw [hv]; exact .fz q2 _,q1⟩,S'⟩
theorem Fm.expOwn (S : Fm N h0 B Γ Δ Hp) {i : Nat} {g : Gw} (hi : Δ[i]? = some g) (hD : noLit g.D = true) (hf : freeL g.D Γ (Δ.eraseIdx i) = true) {τ : Stamp} : ∃ c cs H',expF false τ Hp g.v = some (c,H')∧OwnS c g.d.sz g.xs.length cs∧g.d.L g.xs cs∧Fm N h0 B Γ (Δ.eraseIdx i) H':=by
 have S' : Fm N h0 B Γ (Δ.eraseIdx i) Hp:=S.wk (fun _ h => h) (fun _ h => mem_erase h)
 obtain ⟨L,rfl,h2,h3,h4,h5⟩:=S
 obtain ⟨cs,q1,q2⟩:=h5 g (List.mem_of_getElem? hi)
 rw [← pts_length B] at q2
 rcases q2 with ⟨e1,e2,e3⟩ | ⟨q2,d',hd',s,tl,hv,h6⟩ | ⟨_,_,_,hd⟩
 ·refine ⟨.v g.v,cs,_,?_,⟨by rw [e1,e2]; simp,.inl ⟨e1,e2,?_⟩⟩,q1,S'⟩
  ·rcases e3 with e | e <;> rw [e]
   ·exact still_nilS.exp ..
   ·exact (still_fz ..).exp ..
  ·rcases e3 with e | e <;> rw [e] <;> simp
 ·refine ⟨.arr s g.xs.length g.d.sz (cs.map .v),cs,_,?_,⟨q2,.inr ⟨s,rfl⟩⟩,q1,dead_ok S' (mem_one hf hd') (.dead::tl)⟩
  rw [hv,expF_arr h6 (by simpa using q2)]
 ·exact (noLit_no hD hd).elim
end
def fillC (places : Nat→Option (Nat × Nat)) (cells : List V) : List (Nat × List V)→Option (List V)
 | [] => some cells
 | (i,v)::rest =>
  match places i with
  | none => none
  | some (off,size) =>
   if v.length ≠ size ∨ off + v.length > cells.length then none
   else fillC places (cells.take off ++ v ++ cells.drop (off + v.length)) rest
theorem fillC_ok (places : Nat→Option (Nat × Nat)) : ∀ (parts : List (Nat × V)) (cells : List V),fillV places cells parts = fillC places cells (parts.map fun q => (q.1,q.2.cells))
 | [],cells => rfl
 | (i,v)::rest,cells => by
  simp only [fillV,fillC,List.map_cons]
  cases places i with
  | none => rfl
  | some q =>
   simp only
   split
   ·rfl
   ·exact fillC_ok places rest _
def buildC (P : Program) (t : TypeId) (parts : List (Nat × List V)) : Option V :=
 (tzero P t).bind fun zero =>
 match P.underlying t with
 | some (.struct fs) => if fs.toList.all (fun f => known P f.type) then (fillC (fun i => (fs[i]?).map fun f => (f.offset,tsize P f.type)) zero parts).map .agg else none
 | some (.array _ e) => if known P e then (fillC (fun i => some (i * tsize P e,tsize P e)) zero parts).map .agg else none
 | _ => none
def buildSliceC (P : Program) (t : TypeId) (len : Nat) (parts : List (Nat × List V)) : Option V :=
 (telem P t).bind fun e => (tzero P e).bind fun zero =>
 if zero.length ≠ tsize P e ∨ tsize P e = 0 ∨ len * tsize P e > 2 ^ 24 then none else
 (fillC (fun i => some (i * tsize P e,tsize P e)) (rept len zero) parts).map fun cs => .fz cs len (tsize P e) true
theorem bldV {P : Program} {t : TypeId} {parts : List (Nat × V)} {cs : List (Nat × List V)} {r : V} (hp : (parts.map fun q => (q.1,q.2.cells)) = cs) (hb : buildC P t cs = some r) : buildV P t parts = some r:=by
 rw [← hb,← hp]; unfold buildV buildC; simp only [fillC_ok]; rfl
theorem bldS {P : Program} {t : TypeId} {n : Nat} {parts : List (Nat × V)} {cs : List (Nat × List V)} {r : V} (hp : (parts.map fun q => (q.1,q.2.cells)) = cs) (hb : buildSliceC P t n cs = some r) : bSV P t n parts = some r:=by
 rw [← hb,← hp]; unfold bSV buildSliceC; simp only [fillC_ok]
theorem pN : (([] : List (Nat × V)).map fun q => (q.1,q.2.cells)) = []:=rfl
theorem pC {i : Nat} {v : V} {c : List V} {ps : List (Nat × V)} {cs : List (Nat × List V)} (h : v.cells = c) (t : (ps.map fun q => (q.1,q.2.cells)) = cs) : (((i,v)::ps).map fun q => (q.1,q.2.cells)) = (i,c)::cs:=by rw [List.map_cons,h,t]
def remP (a b : Int) : Option Int:=if b = 0 then none else some (a.tmod b)
theorem remP_ok {k : IntKind} {a b n : Int} (h : remP a b = some n) : remI k a b = some (.p (.int k n)):=by
 unfold remP at h; unfold remI
 split at h
 ·cases h
 ·rename_i h0; rw [if_neg h0]; cases h; rfl
def strB (xs : List Int) : ByteArray:=⟨(xs.map fun n => UInt8.ofNat n.toNat).toArray⟩
def bytesS (s : ByteArray) : List Int:=s.data.toList.map fun b => (b.toNat : Int)
theorem RL.ints {k : IntKind} : ∀ {xs : List Int} {cs : List V},(dI k).L xs cs→cs = xs.map fun n => .p (.int k n)
 | [],cs,h => h
 | x::xs,cs,⟨a,b,h1,h2,h3⟩ => by
  have e : a = [.p (.int k x)]:=h2
  subst h1; subst e
  rw [RL.ints h3]; rfl
theorem RL.of_ints (k : IntKind) : ∀ (xs : List Int),(dI k).L xs (xs.map fun n => .p (.int k n))
 | [] => rfl
 | x::xs => .cons (show (dI k).R x [.p (.int k x)] from rfl) (RL.of_ints k xs)
theorem bytesOfV_ints : ∀ (xs : List Int),bytesOfV (xs.map fun n => .p (.int .u8 n)) = some (xs.map fun n => UInt8.ofNat n.toNat)
 | [] => rfl
 | x::xs => by simp [bytesOfV,bytesOfV_ints xs]
theorem SlH.str {h : H} {xs : List Int} {v : V} (hv : SlH h (dI .u8) xs v) : strO h v = some (.p (.string (strB xs))):=by
 obtain ⟨cs,h1,h2⟩:=hv
 have e:=RL.ints h2
 subst e
 have hl:=h1.sl
 unfold strO
 split
 ·simp [isSl] at hl
 ·simp only [toS,hl,h1.cells,h1.len,Option.bind_some,and_self,if_true]
  rw [if_pos (by simp),bytesOfV_ints]; rfl
theorem SlF.bytes (s : ByteArray) : SlF (dI .u8) (bytesS s) (.fz (s.data.toList.map fun b => .p (.int .u8 b.toNat)) s.size 1 false):=by
 have e : (bytesS s).map (fun n => V.p (.int .u8 n)) = s.data.toList.map fun b => .p (.int .u8 b.toNat):=by unfold bytesS; rw [List.map_map]; rfl
 have:=RL.of_ints .u8 (bytesS s)
 rw [e] at this
 refine SlF.lit this ?_ rfl false
 unfold bytesS; rw [List.length_map]; rfl
end Go.Ev
namespace Go.Ev
set_option linter.unusedVariables false
set_option linter.unusedSimpArgs false
theorem Sim.cdk {β α γ δ : Type} {Q : β→α→Prop} {K : δ→Option α} {c : Bool} {a b : Option β} {A B : Option γ} {g : γ→Option δ} (s : c = true→Sim a ((A.bind g).bind K) Q) (t : c = false→Sim b ((B.bind g).bind K) Q) :
  Sim (bif c then a else b) (((bif c then A else B).bind g).bind K) Q:=by
 cases c
 ·exact t rfl
 ·exact s rfl
theorem aN.{u} {α : Type u} {P : α→Prop} : ∀ x ∈ ([] : List α),P x:=fun _ h => by cases h
theorem aC.{u} {α : Type u} {P : α→Prop} {a : α} {l : List α} (h : P a) (t : ∀ x ∈ l,P x) : ∀ x ∈ a::l,P x:=fun x hx => by
 rcases List.mem_cons.1 hx with rfl | hx
 ·exact h
 ·exact t x hx
theorem aM.{u} {α : Type u} {a : α} {l : List α} (i : Nat) (h : l[i]? = some a) : a ∈ l:=List.mem_of_getElem? h
section
variable {N : Nat} {h0 Hp : H} {B : List Rt} {Γ Γ' : List (Nat × Stamp × List C)} {Δ Δ' : List Gw}
theorem Fm.wk2 (S : Fm N h0 B Γ Δ Hp) (hG : ∀ e ∈ Γ',e ∈ Γ) (hD : ∀ g ∈ Δ',∃ D,(∀ d ∈ D,d ∈ g.D)∧(⟨D,g.v,g.d,g.xs⟩ : Gw) ∈ Δ) : Fm N h0 B Γ' Δ' Hp:=by
 obtain ⟨L,h1,h2,h3,h4,h5⟩:=S
 refine ⟨L,h1,h2,h3,fun e he => h4 e (hG e he),fun g hg => ?_⟩
 obtain ⟨D,q1,q2⟩:=hD g hg
 obtain ⟨cs,r1,r2⟩:=h5 _ q2
 refine ⟨cs,r1,?_⟩
 rcases r2 with q | ⟨r2,d',hd',r⟩ | ⟨a1,a2,a3,d',hd',a4⟩
 ·exact .inl q
 ·exact .inr (.inl ⟨r2,d',q1 d' hd',r⟩)
 ·exact .inr (.inr ⟨a1,a2,a3,d',q1 d' hd',a4⟩)
theorem Fm.start1 {l : Loc} {off : Nat} {cs : List C} (ha : AtC h0 l off cs) : Fm N h0 [⟨l,off,cs⟩] [] [] (List.replicate N []::h0) :=
 Fm.start ⟨⟨cs,rfl,ha⟩,aN,trivial⟩ (aC ha aN)
def clipBody (e n : Nat) (σ : Stamp) (x : V) (h : H) : Option (List C × H) :=
 (lenO x).bind fun t1 => (castI .i64 t1).bind fun n2 => (lenO x).bind fun t3 => (castI .i64 t3).bind fun n4 => (slS e x none (some n2) (some n4)).bind fun t5 => fin false σ (List.replicate n []::h) [t5]
theorem clip_body {e n : Nat} {σ : Stamp} {x : V} {h : H} {m : Nat} {y : V} (hl : lenO x = some (.p (.int .i64 m))) (hs : slS e x none (some m) (some m) = some y) (hf : fin false σ (List.replicate n []::h) [y] = some ([.v y],h)) : clipBody e n σ x h = some ([.v y],h):=by
 unfold clipBody
 simp only [hl,Option.bind_some,castI_p,hs,hf]
end
end Go.Ev
namespace Go.Ev
section
variable {N : Nat} {h0 Hp : H} {B : List Rt} {Γ Γ' : List (Nat × Stamp × List C)} {Δ Δ' : List Gw}
end
theorem Sim.clo {β α δ : Type} {x : Option β} {Q : β→α→Prop} {K : δ→Option α} {rec : CallF} {f : FuncId} {σ : Stamp} {args caps : List V} {H : H} {d : Option Nat} {g : V × Go.Ev.H→Option δ} (s : Sim x (((callO rec f σ (args ++ caps) H d).bind g).bind K) Q) : Sim x (((cloO rec (.clo f caps) σ args H d).bind g).bind K) Q:=s
def p_clone {α : Type} (b : Nat) (xs : List α) : Option (List α):=ap b [] xs
theorem clone_ok {G : Cfg} {X : CallF} {f n d e b t tt : Nat} {P : Program} {own : Bool} {τ : Stamp→Stamp} {α : Type} {dt : Dt α} {h : H} {σ : Stamp} {xs : List α} {x : V}
  (entry : ∀ (x : V) (h : H),cvBody G (ev G X) (cvL G X) f σ [x] h = (binV P (List.replicate n []::h) .eql t x (.p (.slice .none 0 0))).bind fun t1 => (asB t1).bind fun b2 => bif b2 then (fin false σ (List.replicate n []::h) [(.p (.slice .none 0 0))]) else ((bSV P t 0 []).bind fun t3 => (apO own e b (τ σ) d (List.replicate n []::h) t3 x).bind fun q4 => fin false σ q4.2 [q4.1]))
  (hx : SlH h dt xs x) (he : dt.sz = e) (hk : e ≠ 0) (hd : d < n) (hdd : d < 1000000) (hu : P.underlying t = some (.slice tt)) (hb : bSV P t 0 [] = some (.fz [] 0 e true)) (hX : X f σ [x] h = none) :
  Sim (p_clone b xs) (ev G X f σ [x] h) (fun r s => ∃ (c : C) (a : List V),OwnS c dt.sz r.length a∧dt.L r a∧s = ([c],h)):=by
 intro r hr
 have S0 : Fm n h [] [] [] (List.replicate n []::h):=Fm.start0
 have hn : ∀ (y : V),isSl y = true→y ≠ .p (.slice none 0 0)→binV P (List.replicate n []::h) .eql t y (.p (.slice none 0 0)) = some (.p (.bool false)):=fun y hy hne => by
  unfold isSl at hy
  split at hy
  ·exact absurd rfl hne
  ·simp [binV,eqlV,hu]
  ·simp [binV,eqlV,hu]
  ·cases hy
 have hnil : binV P (List.replicate n []::h) .eql t (.p (.slice none 0 0)) (.p (.slice none 0 0)) = some (.p (.bool true)):=by simp [binV,eqlV,hu]
 obtain ⟨⟨b1,b2⟩,hrr⟩:=ap_some hr
 obtain rfl : xs = r:=hrr.symm
 by_cases hnl : x = .p (.slice none 0 0)
 ·subst hnl
  obtain ⟨cs,q1,q2⟩:=hx
  have hlen:=q1.len
  simp only [lenOf,Option.some.injEq] at hlen
  have : xs = []:=List.length_eq_zero_iff.1 hlen.symm
  subst this
  refine ⟨_,ev_cv hX ?_,.v (.p (.slice none 0 0)),[],⟨by simp,.inl ⟨rfl,rfl,.inl rfl⟩⟩,rfl,rfl⟩
  rw [entry,hnil]
  simp only [Option.bind_some,asB_p,cond_true]
  exact fin_1 still_nilS
 ·have S1:=S0.nil' dt [] he
  have hsl : isSl x = true:=by obtain ⟨cs,q1,q2⟩:=hx; exact q1.sl
  obtain ⟨v,H1,e1,S2⟩:=S1.app (i:=0) (d:=d) (b:=b) (own:=own) (σ:=τ σ) (e:=e) rfl (S1.low hx).y hr he hk hd (by simp [freeL,freeG,freeD])
  obtain ⟨c,a,f1,f2,f3⟩:=S2.finOwn (i:=0) (σ:=σ) rfl (by simp [noLit]; omega)
  refine ⟨_,ev_cv hX ?_,c,a,f2,f3,rfl⟩
  rw [entry,hn x hsl hnl]
  simp only [Option.bind_some,asB_p,cond_false,hb]
  rw [e1]
  exact f1
end Go.Ev
namespace Go.Ev
set_option linter.unusedVariables false
set_option linter.unusedSimpArgs false
def SoC {α : Type} (d : Dt α) (xs : List α) (c : C) : Prop:=(∃ v,c = .v v∧SlF d xs v) ∨ ∃ s ws,c = .arr s xs.length d.sz (ws.map .v)∧d.L xs ws
theorem SoC.frz {α : Type} {d : Dt α} {xs : List α} {v : V} (h : SlF d xs v) : SoC d xs (.v v):=.inl ⟨v,rfl,h⟩
theorem SoC.own {α : Type} {d : Dt α} {xs : List α} {c : C} {ws : List V} (h : OwnS c d.sz xs.length ws) (hl : d.L xs ws) : SoC d xs c:=by
 obtain ⟨h1,⟨h2,h3,rfl | rfl⟩ | ⟨s,rfl⟩⟩:=h
 ·exact .inl ⟨_,rfl,ws,by rw [h2,h3]; exact .nil _,hl⟩
 ·exact .inl ⟨_,rfl,ws,by rw [h2,h3]; exact .fz (by simp) _,hl⟩
 ·exact .inr ⟨s,ws,rfl,hl⟩
def cellV (l : Loc) (o : Nat) (c : C) : V:=(toV l o c).getD udf
section
variable {α : Type} {h : H} {l : Loc} {off j : Nat} {cs : List C} {c : C} {d : Dt α} {xs : List α}
theorem SoC.ld (hc : SoC d xs c) (ha : AtC h l off cs) (hj : cs[j]? = some c) : ldO false 1 h (.ref l (off + j)) = some (cellV l (off + j) c):=by
 rcases hc with ⟨v,rfl,_⟩ | ⟨s,ws,rfl,_⟩
 ·exact ha.ldC hj rfl
 ·exact ha.ldC hj rfl
theorem SoC.sl (hc : SoC d xs c) (ha : AtC h l off cs) (hj : cs[j]? = some c) : SlH h d xs (cellV l (off + j) c):=by
 rcases hc with ⟨v,rfl,hv⟩ | ⟨s,ws,rfl,hl⟩
 ·exact hv.h h
 ·have hlen:=RL.length (fun h => d.len h) hl
  refine ⟨ws,.mk_sl (l:=l.hop (off + j) s) (ds:=ws.map .v) ?_ (by simp [hlen]) ?_ (Nat.le_refl _),hl⟩
  ·obtain ⟨p,q,hn,hp⟩:=ha.hop hj (s:=s) (ds:=ws.map .v) (by simp [C.node])
   have : p = []:=List.length_eq_zero_iff.1 hp
   subst this
   have hq:=ha.hop hj (s:=s) (ds:=ws.map .v) (by simp [C.node])
   obtain ⟨p,q,hn,hp⟩:=ha
   have hlt:=(List.getElem?_eq_some_iff.1 hj).1
   rw [nd_in hn (c:=.arr s xs.length d.sz (ws.map .v)) (ds:=ws.map .v)]
   ·rw [List.append_assoc,List.getElem?_append_right (by omega),show off + j - p.length = j by omega,List.getElem?_append_left hlt,hj]
   ·simp [C.node]
  ·rw [List.drop_zero,List.take_of_length_le (by simp [hlen]),toVs_plain]
end
section
variable {N : Nat} {h0 Hp : H} {B : List Rt} {Γ : List (Nat × Stamp × List C)} {Δ : List Gw}
theorem getElem_app {p cs q : List C} {off j : Nat} (hp : p.length = off) (hj : j < cs.length) : (p ++ cs ++ q)[off + j]? = cs[j]?:=by
 rw [List.append_assoc,List.getElem?_append_right (by omega),show off + j - p.length = j by omega,List.getElem?_append_left hj]
theorem at_killed {l : Loc} {off j : Nat} {cs : List C} {c : C} {s : Stamp} (ha : AtC Hp l off cs) (hj : cs[j]? = some c) (hc : (c.node s).isSome) : setAt Hp (l.hop (off + j) s) .dead = ptC Hp l off (cs.set j .dead):=by
 obtain ⟨p,q,hn,hp⟩:=ha
 have hlt:=(List.getElem?_eq_some_iff.1 hj).1
 have hcell : (p ++ cs ++ q)[off + j]? = some c:=by rw [getElem_app hp hlt,hj]
 rw [setAt_hop hn hcell,ptC_eq hn hp (by simp)]
 congr 1
 rw [List.append_assoc,List.set_append_right _ _ (by omega),List.set_append_left _ _ (by omega),← List.append_assoc]
 congr 3
 omega
structure Spot (N : Nat) (h0 : H) (Hp : H) (l : Loc) (off : Nat) (cs : List C) (T : List C→H→Prop) : Prop where
 at_ : AtC Hp l off cs
 put : ∀ cs',cs'.length = cs.length→T cs' (ptC Hp l off cs')
theorem app_cell {l : Loc} {off j d b e : Nat} {cs : List C} {c : C} {α : Type} {dt : Dt α} {xs ys zs : List α} {own : Bool} {σ : Stamp} {y : V}
  (ha : AtC Hp l off cs) (hj : cs[j]? = some c) (hc : SoC dt xs c) (hy : YsH Hp dt ys y) (hz : ap b xs ys = some zs) (hn : ys.length ≠ 0) (he : dt.sz = e) (hk : e ≠ 0) (hnt : ∀ v,c = .v v→v = .p (.slice none 0 0) ∨ v = .fz [] 0 e true) :
  ∃ ws s,dt.L zs ws∧∃ c',(c' = c ∨ c' = .dead)∧apO own e b σ d Hp (cellV l (off + j) c) y = some (.sl (newLoc Hp d s) 0 zs.length zs.length e,setSlot (ptC Hp l off (cs.set j c')) d [.arr s zs.length e (ws.map .v)]):=by
 subst he
 obtain ⟨⟨hb1,hb2⟩,rfl⟩:=ap_some hz
 obtain ⟨us,hu,hul⟩:=hy
 have hlt:=(List.getElem?_eq_some_iff.1 hj).1
 have same : ptC Hp l off (cs.set j c) = Hp:=by
  rw [show cs.set j c = cs from by rw [← (List.getElem?_eq_some_iff.1 hj).2]; exact List.set_getElem_self ..]
  exact ha.same
 have base : ∀ x,apO own dt.sz b σ d Hp x y = apTo dt.sz b σ d Hp ys.length (us.map .v) x:=fun x => by
  unfold apO
  rw [hu.len,hu.cells]
  simp only [Option.bind_some]
  rw [if_neg (by simp [hu.clen,hk]),if_neg hn,layCs_still own _ (RL.stills hul)]
  rfl
 rcases hc with ⟨v,rfl,hv⟩ | ⟨s,ws,rfl,hl⟩
 ·obtain ⟨vs,q1,q2⟩:=hv
  have hx0 : xs = []∧vs = []:=by
   rcases hnt v rfl with rfl | rfl
   ·have h1:=(q1 []).len
    simp only [lenOf,Option.some.injEq] at h1
    have h1 : xs = []:=List.length_eq_zero_iff.1 h1.symm
    subst h1
    exact ⟨rfl,by have:=(q1 []).clen; simpa using this⟩
   ·have h1:=(q1 []).len
    simp only [lenOf,Option.some.injEq] at h1
    have h1 : xs = []:=List.length_eq_zero_iff.1 h1.symm
    subst h1
    exact ⟨rfl,by have:=(q1 []).clen; simpa using this⟩
  obtain ⟨rfl,rfl⟩:=hx0
  refine ⟨us,σ,by simpa using hul,_,.inl rfl,?_⟩
  rw [base,same]
  rcases hnt v rfl with rfl | rfl
  ·simp only [cellV,toV,Option.getD_some,apTo]
   rw [if_pos ⟨by simpa using hb1,by simpa using hb2⟩]; simp
  ·simp only [cellV,toV,Option.getD_some,apTo]
   rw [if_pos ⟨trivial,trivial,by simp,by simpa using hb1,by simpa using hb2,by simp⟩]; simp
 ·refine ⟨ws ++ us,σ,hl.append hul,_,.inr rfl,?_⟩
  have hlen:=RL.length (fun h => dt.len h) hl
  have hnode : nd Hp (l.hop (off + j) s) = some (ws.map .v):=by
   obtain ⟨p,q,hn2,hp⟩:=ha
   exact nd_in hn2 (c:=.arr s xs.length dt.sz (ws.map .v)) (by rw [getElem_app hp hlt,hj]) (by simp [C.node])
  rw [base]
  simp only [cellV,toV,Option.getD_some,apTo]
  rw [if_neg (by simp),hnode]
  simp only [Option.bind_some]
  rw [if_neg (by omega),if_pos ⟨trivial,by simpa using hlen,hb1,hb2⟩,at_killed ha hj (by simp [C.node])]
  simp [newLoc,top,ptC_length]
theorem Fm.addArr (S : Fm N h0 B Γ Δ Hp) {α : Type} {dt : Dt α} {d e : Nat} {s : Stamp} {ws : List V} {xs : List α} (hl : dt.L xs ws) (he : dt.sz = e) (hd : d < N) (hf : (freeG Γ d && freeD Δ d) = true) :
  Fm N h0 B Γ (⟨[d],.sl ⟨h0.length,d,0,s,[]⟩ 0 xs.length xs.length e,dt,xs⟩::Δ) (setSlot Hp d [.arr s xs.length e (ws.map .v)]):=by
 subst he
 obtain ⟨L,rfl,h2,h3,h4,h5⟩:=S
 simp only [Bool.and_eq_true] at hf
 refine ⟨L.set d [.arr s xs.length dt.sz (ws.map .v)],rfl,by simpa using h2,h3,fun e he => ?_,fun g hg => ?_⟩
 ·rw [List.getElem?_set_ne (Ne.symm (freeG_ne hf.1 he))]; exact h4 e he
 ·rcases List.mem_cons.1 hg with rfl | hg
  ·exact ⟨ws,hl,.inr (.inl ⟨RL.length (fun h => dt.len h) hl,d,List.mem_singleton.2 rfl,s,[],rfl,by rw [List.getElem?_set_self (by omega)]⟩)⟩
  ·exact (h5 g hg).frame fun x hx => by rw [List.getElem?_set_ne (fun e => freeD_ne hf.2 hg (by rw [e]; exact hx))]
theorem Fm.appG (S : Fm N h0 B Γ Δ Hp) {i j d d0 b e : Nat} {s0 σ : Stamp} {cs : List C} {c : C} {α : Type} {dt : Dt α} {xs ys zs : List α} {own : Bool} {y : V}
  (hi : Γ[i]? = some (d0,s0,cs)) (hj : cs[j]? = some c) (hc : SoC dt xs c) (hnt : ∀ v,c = .v v→v = .p (.slice none 0 0) ∨ v = .fz [] 0 e true) (hy : YsH Hp dt ys y) (hz : ap b xs ys = some zs) (hn : ys.length ≠ 0) (he : dt.sz = e) (hk : e ≠ 0) (hd : d < N)
  (hf : (freeG (Γ.eraseIdx i) d0 && freeD Δ d0) = true) (hf2 : (freeG Γ d && freeD Δ d) = true) :
  ∃ v c' H',apO own e b σ d Hp (cellV ⟨h0.length,d0,0,s0,[]⟩ j c) y = some (v,H')∧Fm N h0 B (Γ.set i (d0,s0,cs.set j c')) (⟨[d],v,dt,zs⟩::Δ) H':=by
 obtain ⟨ws,s,hl,c',_,e1⟩:=app_cell (own:=own) (σ:=σ) (d:=d) (S.atG hi) hj hc hy hz hn he hk hnt
 rw [Nat.zero_add] at e1
 refine ⟨_,c',_,e1,?_⟩
 rw [S.newLoc]
 refine (S.setG (cs':=cs.set j c') hi hf (by simp)).addArr hl he hd ?_
 simp only [Bool.and_eq_true] at hf2 ⊢
 refine ⟨List.all_eq_true.2 fun x hx => ?_,hf2.2⟩
 rcases mem_set hx (List.getElem?_eq_some_iff.1 hi).1 with rfl | hx
 ·have:=List.all_eq_true.1 hf2.1 (d0,s0,cs) (List.mem_of_getElem? hi)
  simpa using this
 ·exact List.all_eq_true.1 hf2.1 _ (mem_erase hx)
theorem mv_cell {l : Loc} {off j k : Nat} {cs : List C} {g : Gw} {σ : Stamp} (S : Fm N h0 B Γ Δ Hp) (hk : Δ[k]? = some g) (hD : noLit g.D = true) (hf : freeL g.D Γ (Δ.eraseIdx k) = true) (hloc : ∀ d ∈ g.D,∀ s,l.key ≠ (⟨h0.length,d,0,s,[]⟩ : Loc).key) (ha : AtC Hp l off cs) (hj : j < cs.length) :
  ∃ c ws H1,layC true Hp g.v = some (c,H1)∧stO true 1 σ Hp (.ref l (off + j)) g.v = some (ptC H1 l off (cs.set j c))∧OwnS c g.d.sz g.xs.length ws∧g.d.L g.xs ws∧AtC H1 l off cs∧Fm N h0 B Γ (Δ.eraseIdx k) H1:=by
 have S' : Fm N h0 B Γ (Δ.eraseIdx k) Hp:=S.wk (fun _ h => h) (fun _ h => mem_erase h)
 obtain ⟨L,rfl,h2,h3,h4,h5⟩:=S
 obtain ⟨ws,q1,q2⟩:=h5 g (List.mem_of_getElem? hk)
 have key : ∀ (v : V) (c : C) (H1 : H),v.cells = [v]→(∀ s n e ds,sameArr l (off + j) (some (.arr s n e ds)) v = false)→layC true (L::pts h0 B) v = some (c,H1)→AtC H1 l off cs→stO true 1 σ (L::pts h0 B) (.ref l (off + j)) v = some (ptC H1 l off (cs.set j c)):=fun v c H1 hv hs hl ha1 => by
  obtain ⟨p,q,hn,hp⟩:=ha
  obtain ⟨p1,q1',hn1,hp1⟩:=ha1
  have hsm : sameArr l (off + j) (p ++ cs ++ q)[off + j]? v = false:=by
   cases hx : (p ++ cs ++ q)[off + j]? with
   | none => rfl
   | some x =>
    cases x with
    | arr s n e ds => exact hs s n e ds
    | _ => rfl
  unfold stO
  simp only [hv,hn,hsm,Option.bind_some,layCs,hl]
  simp only [List.length_cons,List.length_nil,Bool.not_true,Bool.false_or,Nat.zero_add,bne_self_eq_false,Bool.false_eq_true,if_false,hn1,Option.bind_some]
  rw [if_pos (by simp; omega),set_take_drop _ _ _ (by simp; omega),ptC_eq hn1 hp1 (by simp)]
  congr 2
  rw [List.append_assoc,List.set_append_right _ _ (by omega),List.set_append_left _ _ (by omega),← List.append_assoc]
  congr 3
  omega
 rcases q2 with ⟨e1,e2,e3⟩ | ⟨q2,d',hd',s,tl,hv,h6⟩ | ⟨_,_,_,hd⟩
 ·refine ⟨.v g.v,ws,_,?_,key _ _ _ ?_ ?_ ?_ ha,⟨by rw [e1,e2]; simp,.inl ⟨e1,e2,?_⟩⟩,q1,ha,S'⟩
  all_goals rcases e3 with e | e <;> rw [e]
  all_goals first
   | rfl
   | (intro s n e' ds; rfl)
   | (exact .inl rfl)
   | (exact .inr rfl)
 ·have hr : rootC (L::pts h0 B) ⟨h0.length,d',0,s,[]⟩ = some (.arr s g.xs.length g.d.sz (ws.map .v)):=by simp [rootC,pts_length,h6]
  have hs : setRoot (L::pts h0 B) ⟨h0.length,d',0,s,[]⟩ .dead = L.set d' (.dead::tl)::pts h0 B:=by simp [setRoot,pts_length,h6]
  have hlay : layC true (L::pts h0 B) g.v = some (.arr s g.xs.length g.d.sz (ws.map .v),L.set d' (.dead::tl)::pts h0 B):=by
   rw [hv]; simp [layC,pts_length,hr,hs]
  have ha1 : AtC (L.set d' (.dead::tl)::pts h0 B) l off cs:=by
   obtain ⟨p,q,hn,hp⟩:=ha
   refine ⟨p,q,?_,hp⟩
   rw [← hs]
   have : (⟨h0.length,d',0,s,[]⟩ : Loc).key ≠ l.key:=Ne.symm (hloc d' hd' s)
   have e:=root_setRoot_ne (h:=L::pts h0 B) (l:=⟨h0.length,d',0,s,[]⟩) (l':=l) (c:=.dead) this
   rw [← hn]
   simp only [nd,at_,e]
  refine ⟨_,ws,_,hlay,key _ _ _ (by rw [hv]; rfl) ?_ hlay ha1,⟨q2,.inr ⟨s,rfl⟩⟩,q1,ha1,dead_ok S' (mem_one hf hd') (.dead::tl)⟩
  intro s' n' e' ds
  rw [hv]
  simp [sameArr,Loc.hop]
 ·exact (noLit_no hD hd).elim
theorem Fm.mvG (S : Fm N h0 B Γ Δ Hp) {i j k d0 : Nat} {s0 σ : Stamp} {cs : List C} {g : Gw} (hk : Δ[k]? = some g) (hD : noLit g.D = true) (hf : freeL g.D Γ (Δ.eraseIdx k) = true) (hi : Γ[i]? = some (d0,s0,cs)) (hf0 : (freeG (Γ.eraseIdx i) d0 && freeD (Δ.eraseIdx k) d0) = true) (hj : (cs[j]?).isSome = true) :
  ∃ c H',stO true 1 σ Hp (.ref ⟨h0.length,d0,0,s0,[]⟩ j) g.v = some H'∧SoC g.d g.xs c∧(∀ v,c = .v v→v = .p (.slice none 0 0) ∨ v = .fz [] 0 g.d.sz true)∧Fm N h0 B (Γ.set i (d0,s0,cs.set j c)) (Δ.eraseIdx k) H':=by
 have hlt : j < cs.length:=by
  obtain ⟨y,hy⟩:=Option.isSome_iff_exists.1 hj
  exact (List.getElem?_eq_some_iff.1 hy).1
 obtain ⟨c,ws,H1,_,e1,o1,o2,a1,S1⟩:=mv_cell (σ:=σ) S hk hD hf (fun d hd s he => by
  have:=mem_one hf hd
  simp only [Bool.and_eq_true] at this
  have:=freeG_ne this.1 (List.mem_of_getElem? hi)
  simp only [Loc.key,Prod.mk.injEq] at he
  exact this he.2.1) (S.atG hi) hlt
 rw [Nat.zero_add] at e1
 refine ⟨c,_,e1,SoC.own o1 o2,fun v hv => ?_,S1.setG hi hf0 (by simp)⟩
 obtain ⟨_,⟨_,_,h | h⟩ | ⟨s,h⟩⟩:=o1 <;> rw [hv] at h <;> cases h <;> simp
theorem Fm.mvB (S : Fm N h0 B Γ Δ Hp) {i j k off : Nat} {l : Loc} {σ : Stamp} {cs : List C} {g : Gw} (hk : Δ[k]? = some g) (hD : noLit g.D = true) (hf : freeL g.D Γ (Δ.eraseIdx k) = true) (hi : B[i]? = some ⟨l,off,cs⟩) (hj : (cs[j]?).isSome = true) :
  ∃ c H',stO true 1 σ Hp (.ref l (off + j)) g.v = some H'∧SoC g.d g.xs c∧(∀ v,c = .v v→v = .p (.slice none 0 0) ∨ v = .fz [] 0 g.d.sz true)∧Fm N h0 (B.set i ⟨l,off,cs.set j c⟩) Γ (Δ.eraseIdx k) H':=by
 have hlt : j < cs.length:=by
  obtain ⟨y,hy⟩:=Option.isSome_iff_exists.1 hj
  exact (List.getElem?_eq_some_iff.1 hy).1
 have hlow : l.lvl < h0.length:=by
  obtain ⟨L,rfl,h2,h3,h4,h5⟩:=S
  have:=(h3.at hi).lt
  rwa [pts_length] at this
 obtain ⟨c,ws,H1,_,e1,o1,o2,a1,S1⟩:=mv_cell (σ:=σ) S hk hD hf (fun d hd s he => by
  simp only [Loc.key,Prod.mk.injEq] at he
  omega) (S.atB hi) hlt
 refine ⟨c,_,e1,SoC.own o1 o2,fun v hv => ?_,S1.setB hi (by simp)⟩
 obtain ⟨_,⟨_,_,h | h⟩ | ⟨s,h⟩⟩:=o1 <;> rw [hv] at h <;> cases h <;> simp
end
end Go.Ev
namespace Go.Ev
def FrC (c : C) (y : V) : Prop:=(c = .v y∧Still y) ∨ ∃ s n k ws,c = .arr s n k (ws.map .v)∧ws.length = n * k∧y = .fz ws n k false
def FrCs : List C→List V→Prop
 | [],[] => True
 | c::cs,y::ys => FrC c y∧FrCs cs ys
 | _,_ => False
theorem FrC.v {x : V} (h : Still x) : FrC (.v x) x:=.inl ⟨rfl,h⟩
theorem SoC.fr {α : Type} {d : Dt α} {xs : List α} {c : C} (h : SoC d xs c) : ∃ y,FrC c y∧SlF d xs y:=by
 rcases h with ⟨v,rfl,hv⟩ | ⟨s,ws,rfl,hl⟩
 ·exact ⟨v,.inl ⟨rfl,hv.still⟩,hv⟩
 ·have hlen:=RL.length (fun h => d.len h) hl
  exact ⟨_,.inr ⟨s,_,_,ws,rfl,hlen,rfl⟩,ws,.fz hlen _,hl⟩
theorem FrC.still {c : C} {y : V} (h : FrC c y) : Still y:=by
 rcases h with ⟨_,h⟩ | ⟨s,n,k,ws,_,_,rfl⟩
 ·exact h
 ·exact still_fz ..
theorem FrCs.len : ∀ {cs : List C} {ys : List V},FrCs cs ys→ys.length = cs.length
 | [],[],_ => rfl
 | c::cs,y::ys,⟨_,h⟩ => by simp [FrCs.len h]
 | [],_::_,h => by cases h
 | _::_,[],h => by cases h
theorem FrCs.stills : ∀ {cs : List C} {ys : List V},FrCs cs ys→Stills ys
 | [],[],_ => sN
 | c::cs,y::ys,⟨h1,h⟩ => sC h1.still (FrCs.stills h)
 | [],_::_,h => by cases h
 | _::_,[],h => by cases h
theorem lay_fr {H : Ev.H} {l : Loc} {pre post : List C} {c : C} {y : V} (hl : l.lvl = top H) (ha : AtC H l 0 (pre ++ c::post)) (hf : FrC c y) : ∃ x,toV l pre.length c = some x∧layC false H x = some (.v y,ptC H l 0 (pre ++ .v y::post)):=by
 have hj : (pre ++ c::post)[pre.length]? = some c:=by simp
 rcases hf with ⟨rfl,hs⟩ | ⟨s,n,k,ws,rfl,hlen,rfl⟩
 ·exact ⟨y,rfl,by rw [ha.same]; exact hs.lay false H⟩
 ·refine ⟨_,rfl,?_⟩
  have h1 : (l.hop pre.length s).lvl = top H:=hl
  have ha0:=ha
  obtain ⟨p,q,hn,hp⟩:=ha
  have hp0 : p = []:=List.length_eq_zero_iff.1 hp
  subst hp0
  rw [List.nil_append] at hn
  have hcell : ((pre ++ C.arr s n k (ws.map C.v)::post) ++ q)[pre.length]? = some (.arr s n k (ws.map .v)):=by simp
  have h2 : at_ H (l.hop pre.length s) = some (.arr s n k (ws.map .v)):=by rw [at_hop,hn]; simp [C.node]
  have h3 : rng ws 0 (n * k) = some ws:=by unfold rng; rw [if_pos (by omega)]; simp [← hlen]
  simp only [layC,h1,h2,Bool.false_eq_true,if_false,if_true,hop_last,true_and,List.length_map,hlen,plainCells_map,Option.bind_some,h3]
  rw [if_neg (by simp [Loc.hop]),setAt_hop hn hcell,ptC_eq (off:=0) (p:=[]) (q:=q) (cs:=pre ++ C.arr s n k (ws.map C.v)::post) hn rfl (by simp)]
  simp
theorem top_pt {H : Ev.H} (l : Loc) (off : Nat) (cs : List C) : top (ptC H l off cs) = top H:=by simp [top,ptC_length]
theorem frz_all {l : Loc} : ∀ {cs : List C} {ys : List V} {H : Ev.H} {pre : List C},l.lvl = top H→AtC H l 0 (pre ++ cs)→FrCs cs ys →
  ∃ xs,toVs l pre.length cs = some xs∧frzCs H xs = some (ys,ptC H l 0 (pre ++ ys.map .v))∧layCs false H xs = some (ys.map .v,ptC H l 0 (pre ++ ys.map .v))
 | [],[],H,pre,hl,ha,_ => ⟨[],rfl,by rw [show pre ++ [].map C.v = pre ++ [] from rfl,ha.same]; rfl,by rw [show pre ++ [].map C.v = pre ++ [] from rfl,ha.same]; rfl⟩
 | c::cs,y::ys,H,pre,hl,ha,⟨h1,h2⟩ => by
  obtain ⟨x,e1,e2⟩:=lay_fr hl ha h1
  have ha2 : AtC (ptC H l 0 (pre ++ .v y::cs)) l 0 ((pre ++ [.v y]) ++ cs):=by
   have:=ha.put (cs':=pre ++ .v y::cs) (by simp)
   simpa using this
  obtain ⟨xs,q1,q2,q3⟩:=frz_all (pre:=pre ++ [.v y]) (by rw [top_pt]; exact hl) ha2 h2
  have hp : ptC (ptC H l 0 (pre ++ .v y::cs)) l 0 (pre ++ [C.v y] ++ ys.map .v) = ptC H l 0 (pre ++ (y::ys).map .v):=by
   rw [ha.put_put (by simp) (by have:=h2.len; simp; omega)]
   simp
  refine ⟨x::xs,?_,?_,?_⟩
  ·simp only [List.length_append,List.length_cons,List.length_nil] at q1
   simp only [toVs,e1,Option.bind_some,q1]
  ·simp only [frzCs,e2,Option.bind_some,q2,Option.map_some]
   rw [hp]
  ·simp only [layCs,e2,Option.bind_some,q3]
   rw [hp]; rfl
 | [],_::_,_,_,_,_,h => by cases h
 | _::_,[],_,_,_,_,h => by cases h
section
variable {N : Nat} {h0 Hp : H} {B : List Rt} {Γ : List (Nat × Stamp × List C)} {Δ : List Gw}
theorem Fm.frzV (S : Fm N h0 B Γ Δ Hp) {i d n : Nat} {s : Stamp} {cs : List C} {ys : List V} (hi : Γ[i]? = some (d,s,cs)) (hf : (freeG (Γ.eraseIdx i) d && freeD Δ d) = true) (hy : FrCs cs ys) (hn : ys.length = n) (_ : 0 < n) :
  ∃ xs H',xs.length = ys.length∧ldO true n Hp (.ref ⟨h0.length,d,0,s,[]⟩ 0) = some (.agg xs)∧(∀ frz τ,expF frz τ Hp (.agg xs) = some (.v (.agg ys),H'))∧layCs false Hp xs = some (ys.map .v,H')∧Fm N h0 B (Γ.set i (d,s,ys.map .v)) Δ H':=by
 have ha:=S.atG hi
 have hl : (⟨h0.length,d,0,s,[]⟩ : Loc).lvl = top Hp:=by simp [top,S.len]
 have hlen:=hy.len
 obtain ⟨xs,e1,e2,e3⟩:=frz_all (pre:=[]) hl (by simpa using ha) hy
 refine ⟨xs,_,by rw [toVs_length e1,hlen],?_,?_,e3,by simpa using S.setG (cs':=ys.map .v) hi hf (by simp [hlen])⟩
 ·have:=ha.ldAgg (j:=0) (n:=n) (agg:=true) (xs:=xs) (by omega) (by rw [List.drop_zero,List.take_of_length_le (by omega)]; exact e1)
  simpa [mkV] using this
 ·intro frz τ
  cases frz <;> simp [expF,expC,e2]
end
end Go.Ev
namespace Go.Ev
theorem GrowS.to {D : List Nat} {L : Layer} {h : H} {v : V} {k n : Nat} {xs : List V} (ha : GrowS D L h.length v k n xs) {b d m : Nat} {σ : Stamp} {ys : List V} (hd : d < L.length) (hm : m ≠ 0) (hcl : ys.length = m * k) (hb : (n + m) * b ≤ 2 ^ 47) (hb2 : n + m < 2 ^ 61) :
  ∃ v' L',apTo k b σ d (L::h) m (ys.map .v) v = some (v',L'::h)∧GrowS (d::D) L' h.length v' k (n + m) (xs ++ ys)∧L'.length = L.length∧∀ j,j ∉ d::D→L'[j]? = L[j]?:=by
 rcases ha with ⟨rfl,rfl,rfl | rfl⟩ | ⟨h2,d',hd',s,tl,rfl,h3⟩ | ⟨rfl,h2,h3,_⟩
 ·refine ⟨_,L.set d [.arr σ m k (ys.map .v)],?_,.inr (.inl ⟨by simpa using hcl,d,List.mem_cons_self ..,σ,[],by rw [Nat.zero_add],by simp [hd]⟩),by simp,fun j hj => ?_⟩
  ·rw [apTo,if_pos ⟨by simpa using hb,by simpa using hb2⟩]; simp
  ·rw [List.getElem?_set_ne (fun e => hj (by rw [← e]; exact List.mem_cons_self ..))]
 ·refine ⟨_,L.set d [.arr σ (0 + m) k (ys.map .v)],?_,.inr (.inl ⟨by simpa using hcl,d,List.mem_cons_self ..,σ,[],rfl,by simp [hd]⟩),by simp,fun j hj => ?_⟩
  ·rw [apTo,if_pos ⟨rfl,rfl,by simp,by simpa using hb,by simpa using hb2,by simp⟩]; simp
  ·rw [List.getElem?_set_ne (fun e => hj (by rw [← e]; exact List.mem_cons_self ..))]
 ·refine ⟨_,(L.set d' (.dead::tl)).set d [.arr σ (n + m) k (xs.map .v ++ ys.map .v)],?_,.inr (.inl ⟨by rw [List.length_append,h2,hcl,Nat.add_mul],d,List.mem_cons_self ..,σ,[],rfl,by simp [hd]⟩),by simp,fun j hj => ?_⟩
  ·rw [apTo,if_neg (by simp),nd_arr h3]
   simp only [Option.bind_some]
   rw [if_neg (by omega),if_pos ⟨trivial,by simpa using h2,hb,hb2⟩,setAt_root h3]
   simp
  ·rw [List.getElem?_set_ne (fun e => hj (by rw [← e]; exact List.mem_cons_self ..)),List.getElem?_set_ne (fun e => hj (by rw [← e]; exact List.mem_cons_of_mem _ hd'))]
 ·refine ⟨_,L.set d [.arr σ (n + m) k (xs.map .v ++ ys.map .v)],?_,.inr (.inl ⟨by rw [List.length_append,h2,hcl,Nat.add_mul],d,List.mem_cons_self ..,σ,[],rfl,by simp [hd]⟩),by simp,fun j hj => ?_⟩
  ·rw [apTo,if_pos ⟨rfl,rfl,h2,hb,hb2,Still.leafs h3⟩]; simp
  ·rw [List.getElem?_set_ne (fun e => hj (by rw [← e]; exact List.mem_cons_self ..))]
section
variable {N : Nat} {h0 Hp : H} {B : List Rt} {Γ : List (Nat × Stamp × List C)} {Δ : List Gw}
theorem bldS1 {P : Program} {t te e : Nat} {xs : List V} {z : List V} (h1 : telem P t = some te) (h2 : tzero P te = some z) (h3 : (z.length = e∧tsize P te = e∧e ≠ 0∧e ≤ 2 ^ 24)∧True) (hx : xs.length = e) : bSV P t 1 [(0,.agg xs)] = some (.fz xs 1 e true):=by
 obtain ⟨⟨a1,a2,a3,a4⟩,_⟩:=h3
 unfold bSV
 simp only [h1,h2,Option.bind_some,a1,a2,fillV,Nat.zero_mul]
 have hr : rept 1 z = z:=by simp [rept]
 rw [if_neg (by simp; omega),hr]
 simp only [V.cells,hx,a1,ne_eq,not_true_eq_false,false_or,Nat.zero_add]
 rw [if_neg (by omega)]
 simp [← a1]
theorem Fm.appFrz {H : Ev.H} (S : Fm N h0 B Γ Δ Hp) {i d b e : Nat} {g : Gw} {σ : Stamp} {t : Bool} {x : g.α} {ws xs : List V} {zs : List g.α} (hl : layCs false H xs = some (ws.map .v,Hp)) (hi : Δ[i]? = some g) (hx : g.d.R x ws) (hlen : xs.length = ws.length) (hz : ap b g.xs [x] = some zs) (he : g.d.sz = e) (hk : e ≠ 0) (hd : d < N) (hf : freeL (d::g.D) Γ (Δ.eraseIdx i) = true) :
  ∃ v H',apO false e b σ d H g.v (.fz xs 1 e t) = some (v,H')∧Fm N h0 B Γ (Δ.set i ⟨d::g.D,v,g.d,zs⟩) H':=by
 subst he
 obtain ⟨⟨hb1,hb2⟩,rfl⟩:=ap_some hz
 obtain ⟨L,rfl,h2,h3,h4,h5⟩:=S
 obtain ⟨cs,q1,q2⟩:=h5 g (List.mem_of_getElem? hi)
 rw [← pts_length B] at q2
 have hlt:=(List.getElem?_eq_some_iff.1 hi).1
 have hw:=g.d.len hx
 obtain ⟨v',L',e1,e2,e3,e4⟩:=q2.to (b:=b) (σ:=σ) (d:=d) (m:=1) (ys:=ws) (by omega) (by omega) (by omega) hb1 hb2
 have hfr:=List.all_eq_true.1 hf
 refine ⟨v',_,?_,L',rfl,by omega,h3,fun e he => ?_,fun g' hg' => ?_⟩
 ·unfold apO
  simp only [lenOf,cellsOf,Option.bind_some]
  rw [if_neg (by simp [hlen,hw,hk]),if_neg (by simp),hl]
  exact e1
 ·rw [e4 _ fun hm => ?_]
  ·exact h4 e he
  ·have:=hfr _ hm
   simp only [Bool.and_eq_true] at this
   exact freeG_ne this.1 he rfl
 ·rcases mem_set hg' hlt with rfl | hg'
  ·refine ⟨cs ++ ws,q1.append (RL.one hx),?_⟩
   rw [← pts_length B,List.length_append]
   exact e2
  ·exact (h5 g' (mem_erase hg')).frame fun x hx => e4 x fun hm => by
    have:=hfr _ hm
    simp only [Bool.and_eq_true] at this
    exact freeD_ne this.2 hg' hx
end
end Go.Ev
namespace Go.Ev
section
variable {N : Nat} {h0 Hp : H} {B : List Rt} {Γ : List (Nat × Stamp × List C)} {Δ : List Gw}
theorem Fm.stFrz {H : Ev.H} (S : Fm N h0 B Γ Δ Hp) {i d j n : Nat} {s σ : Stamp} {cs cs0 : List C} {B0 : List Rt} {Γ0 : List (Nat × Stamp × List C)} {Δ0 : List Gw} {i0 : Nat} {xs ys : List V} (S0 : Fm N h0 B0 Γ0 Δ0 H) (hi0 : Γ0[i0]? = some (d,s,cs0)) (hl : layCs false H xs = some (ys.map .v,Hp)) (hi : Γ[i]? = some (d,s,cs)) (hf : (freeG (Γ.eraseIdx i) d && freeD Δ d) = true) (hx : xs.length = ys.length) (hn : ys.length = n) (hj : decide (j + n ≤ cs.length) = true) :
  ∃ H',stO false n σ H (.ref ⟨h0.length,d,0,s,[]⟩ j) (.agg xs) = some H'∧Fm N h0 B (Γ.set i (d,s,cs.take j ++ ys.map .v ++ cs.drop (j + n))) Δ H':=by
 have hj:=of_decide_eq_true hj
 obtain ⟨p0,q0,hn0,hp0⟩:=S0.atG hi0
 have ha:=S.atG hi
 have h00 : p0 = []:=List.length_eq_zero_iff.1 hp0
 subst h00
 obtain ⟨p,q,hn1,hp⟩:=ha
 have h01 : p = []:=List.length_eq_zero_iff.1 hp
 subst h01
 refine ⟨_,?_,S.setG (cs':=cs.take j ++ ys.map .v ++ cs.drop (j + n)) hi hf (by simp; omega)⟩
 unfold stO
 have hsm : sameArr ⟨h0.length,d,0,s,[]⟩ j ([] ++ cs0 ++ q0)[j]? (.agg xs) = false:=same_no (by simp)
 have hc : (V.agg xs).cells = xs:=rfl
 simp only [hc,hx,hn,hn0,hsm,hl,Option.bind_some,hn1,List.length_map]
 simp only [Bool.not_true,Bool.false_or,bne_self_eq_false,Bool.false_eq_true,if_false]
 rw [if_pos (by simp; omega),ptC_eq (off:=0) hn1 rfl (by simp; omega)]
 simp only [List.nil_append]
 rw [List.take_append_of_le_length (by omega),List.drop_append_of_le_length (by omega)]
 simp
end
end Go.Ev
namespace Go.Ev
def andL : List Bool→Option Bool
 | [] => some true
 | b::bs => (some b).bind fun r => if r = true then andL bs else some false
def andB : List Bool→Bool
 | [] => true
 | b::bs => b && andB bs
theorem andL_ok : ∀ bs : List Bool,andL bs = some (andB bs)
 | [] => rfl
 | b::bs => by cases b <;> simp [andL,andB,andL_ok bs]
theorem eqS_v {P : Program} {h : H} {t : TypeId} {xs ys : List V} {b : Bool} (hb : flatE P t xs ys = some b) : eqlV P h t (.agg xs) (.agg ys) = some b:=by
 have hb0:=hb
 unfold flatE at hb
 split at hb
 ·rename_i fs hu
  simp only [eqlV,hu,hb0]
 ·rename_i n e hu
  simp only [eqlV,hu,hb0]
 ·cases hb
theorem eqS_ok {P : Program} {h : H} {t : TypeId} {xs ys : List V} {bs : List Bool} (hb : flatE P t xs ys = andL bs) : binV P h .eql t (.agg xs) (.agg ys) = some (.p (.bool (andB bs))):=by
 show (eqlV P h t (.agg xs) (.agg ys)).map _ = _
 rw [eqS_v (hb.trans (andL_ok bs))]; rfl
end Go.Ev
namespace Go.Ev
theorem lc_nil {H : Ev.H} : layCs false H [] = some (([] : List V).map C.v,H):=rfl
theorem lc_pl {H H' : Ev.H} {x : V} {xs ys : List V} (hx : Still x) (t : layCs false H xs = some (ys.map C.v,H')) : layCs false H (x::xs) = some ((x::ys).map C.v,H'):=by
 simp only [layCs,hx.lay,Option.bind_some,t,List.map_cons]
theorem lc_st {H H1 H' : Ev.H} {x y : V} {xs ys : List V} (hx : layC false H x = some (.v y,H1)) (t : layCs false H1 xs = some (ys.map C.v,H')) : layCs false H (x::xs) = some ((y::ys).map C.v,H'):=by
 simp only [layCs,hx,Option.bind_some,t,List.map_cons]
section
variable {N : Nat} {h0 Hp : H} {B : List Rt} {Γ : List (Nat × Stamp × List C)} {Δ : List Gw}
theorem Fm.cellsD (S : Fm N h0 B Γ Δ Hp) {i : Nat} {g : Gw} (hi : Δ[i]? = some g) : g.v.cells = [g.v]:=by
 obtain ⟨L,rfl,h2,h3,h4,h5⟩:=S
 obtain ⟨cs,q1,q2⟩:=h5 g (List.mem_of_getElem? hi)
 rcases q2 with ⟨e1,e2,e3⟩ | ⟨q2,d',hd',s,tl,hv,h6⟩ | ⟨hv,q2,_⟩
 ·rcases e3 with e | e <;> rw [e] <;> rfl
 ·rw [hv]; rfl
 ·rw [hv]; rfl
theorem Fm.layD (S : Fm N h0 B Γ Δ Hp) {i : Nat} {g : Gw} (hi : Δ[i]? = some g) (hf : freeL g.D Γ (Δ.eraseIdx i) = true) : ∃ y H',layC false Hp g.v = some (.v y,H')∧SlF g.d g.xs y∧Fm N h0 B Γ (Δ.eraseIdx i) H':=by
 have S' : Fm N h0 B Γ (Δ.eraseIdx i) Hp:=S.wk (fun _ h => h) (fun _ h => mem_erase h)
 obtain ⟨L,rfl,h2,h3,h4,h5⟩:=S
 obtain ⟨cs,q1,q2⟩:=h5 g (List.mem_of_getElem? hi)
 rw [← pts_length B] at q2
 rcases q2 with ⟨e1,e2,e3⟩ | ⟨q2,d',hd',s,tl,hv,h6⟩ | ⟨hv,q2,_⟩
 ·refine ⟨g.v,_,?_,⟨cs,?_,q1⟩,S'⟩
  ·rcases e3 with e | e <;> rw [e]
   ·exact still_nilS.lay ..
   ·exact (still_fz ..).lay ..
  ·rw [e1,e2]
   rcases e3 with e | e <;> rw [e]
   ·exact .nil _
   ·exact .fz (by simp) _
 ·refine ⟨.fz cs g.xs.length g.d.sz false,_,?_,⟨cs,.fz q2 _,q1⟩,dead_ok S' (mem_one hf hd') (.dead::tl)⟩
  have h1 : at_ (L::pts h0 B) ⟨(pts h0 B).length,d',0,s,[]⟩ = some (.arr s g.xs.length g.d.sz (cs.map .v)):=at_root h6 (by simp [C.node])
  have h7:=setAt_root (h:=pts h0 B) (s:=s) h6 .dead
  have h8 : rng cs 0 (g.xs.length * g.d.sz) = some cs:=by unfold rng; rw [if_pos (by omega)]; simp [← q2]
  rw [hv]
  simp [layC,h1,h7,h8,plainCells_map,Loc.last,q2]
 ·exact ⟨g.v,_,by rw [hv]; exact (still_fz ..).lay ..,⟨cs,by rw [hv]; exact .fz q2 _,q1⟩,S'⟩
end
end Go.Ev
namespace Go.Ev
theorem range_getD {α : Type} (d : α) : ∀ (xs : List α),(List.range xs.length).map (fun i => xs.getD i d) = xs:=fun xs => by
 apply List.ext_getElem
 ·simp
 ·intro i h1 h2; simp [List.getElem?_eq_getElem h2]
theorem dA_int {n : Nat} {k : IntKind} {xs : List Int} {us : List V} (h : (dA n (dI k)).R xs us) : us = (List.range n).map fun i => .p (.int k (xs.getD i 0)):=by
 obtain ⟨hn,hl⟩:=h
 have e:=RL.ints hl
 subst hn
 rw [e]
 conv => lhs; rw [← range_getD 0 xs]
 rw [List.map_map]; rfl
theorem map_lit {α β : Type} {n : Nat} {xs : List α} (h : xs.length = n) (d : α) (f : α→β) : xs.map f = (List.range n).map fun i => f (xs.getD i d):=by
 subst h
 conv => lhs; rw [← range_getD d xs]
 rw [List.map_map]; rfl
theorem iA_ok {α : Type} {xs : List α} {n e : Nat} {l : Loc} {o : Nat} {i : Int} {x : α} (hx : ix xs i = some x) (hn : xs.length = n) : iA n e (.ref l o) i = some (.ref l (o + i.toNat * e)):=by
 obtain ⟨h0,hi,_⟩:=ix_some hx
 unfold iA
 simp only
 rw [if_pos ⟨h0,by omega⟩]
section
variable {h : H} {l : Loc} {off j n : Nat} {cs : List C} {α : Type} {xs : List α} {f : α→V}
theorem AtC.ldIx (ha : AtC h l off cs) (hs : (cs.drop j).take n = xs.map fun z => .v (f z)) {i : Int} {x : α} (hx : ix xs i = some x) (hn : xs.length = n) : ldO false 1 h (.ref l (off + j + i.toNat * 1)) = some (f x):=by
 obtain ⟨h0,hi,rfl⟩:=ix_some hx
 rw [Nat.mul_one,Nat.add_assoc]
 refine ha.ld ?_
 have:=congrArg (·[i.toNat]?) hs
 simp only [List.getElem?_take_of_lt (show i.toNat < n by omega),List.getElem?_drop,List.getElem?_map,List.getElem?_eq_getElem hi,Option.map_some] at this
 exact this
theorem take_set {α : Type} {cs : List α} {j n i : Nat} {x : α} (hi : i < n) (hl : j + n ≤ cs.length) : cs.set (j + i) x = cs.take j ++ ((cs.drop j).take n).set i x ++ cs.drop (j + n):=by
 have e : cs = cs.take j ++ (cs.drop j).take n ++ cs.drop (j + n):=by
  rw [List.append_assoc,← List.drop_drop,List.take_append_drop,List.take_append_drop]
 conv => lhs; rw [e]
 rw [List.append_assoc,List.set_append_right _ _ (by simp; omega),List.set_append_left _ _ (by simp; omega),← List.append_assoc]
 congr 3
 simp; omega
theorem slA_ok (ha : AtC h l off cs) (hs : (cs.drop j).take n = xs.map fun z => .v (f z)) {d : Dt α} (hd : d.L xs (xs.map f)) (hn : xs.length = n) (hp : 0 < n) (h1 : d.sz = 1) : slA n 1 h (.ref l (off + j)) none none none = some (.sl l (off + j) n n 1)∧SlH h d xs (.sl l (off + j) n n 1):=by
 have hlen : j + n ≤ cs.length:=by
  have:=congrArg List.length hs
  simp only [List.length_take,List.length_drop,List.length_map] at this
  omega
 obtain ⟨all,e1,e2⟩:=ha.rng hlen
 have hall:=(rng_some e2).1
 constructor
 ·simp only [slA,e1,Option.bind_some,Nat.mul_one]
  rw [if_neg (by omega)]
  simp [bI]
  omega
 ·refine ⟨xs.map f,?_,hd⟩
  rw [h1,hn]
  unfold Ev.rng at e2
  rw [if_pos hall] at e2
  refine .mk_sl e1 (by omega) ?_ (Nat.le_refl _)
  rw [Nat.mul_one,Option.some.inj e2,hs]
  have:=toVs_plain l (off + j) (xs.map f)
  rw [List.map_map] at this
  exact this
end
section
variable {N : Nat} {h0 Hp : H} {B : List Rt} {Γ : List (Nat × Stamp × List C)} {Δ : List Gw}
theorem Fm.stIxG (S : Fm N h0 B Γ Δ Hp) {i d j n : Nat} {s σ : Stamp} {own : Bool} {cs : List C} {α : Type} {xs zs : List α} {f : α→V} {q : Int} {y : α} (hi : Γ[i]? = some (d,s,cs)) (hf : (freeG (Γ.eraseIdx i) d && freeD Δ d) = true) (hst : ∀ a,Still (f a))
  (hs : (cs.drop j).take n = xs.map fun z => .v (f z)) (hz : stx xs q y = some zs) (hn : xs.length = n) (dflt : α) :
  ∃ H',stO own 1 σ Hp (.ref ⟨h0.length,d,0,s,[]⟩ (j + q.toNat * 1)) (f y) = some H'∧Fm N h0 B (Γ.set i (d,s,cs.take j ++ (List.range n).map (fun i => .v (f (zs.getD i dflt))) ++ cs.drop (j + n))) Δ H':=by
 obtain ⟨⟨q0,q1⟩,rfl⟩:=stx_some hz
 have hlen : j + n ≤ cs.length:=by
  have:=congrArg List.length hs
  simp only [List.length_take,List.length_drop,List.length_map] at this
  by_cases h0 : n = 0
  ·subst h0; omega
  ·omega
 have e:=(S.atG hi).st (own:=own) (σ:=σ) (hst y) (j:=j + q.toNat) (by omega)
 rw [Nat.zero_add] at e
 rw [Nat.mul_one]
 refine ⟨_,e,?_⟩
 have:=S.setG (cs':=cs.set (j + q.toNat) (.v (f y))) hi hf (by simp)
 rw [take_set (n:=n) (by omega) hlen,hs] at this
 rw [take_set (n:=n) (by omega) hlen,hs]
 have e2 : (xs.map fun z => C.v (f z)).set q.toNat (.v (f y)) = (List.range n).map (fun i => .v (f ((xs.set q.toNat y).getD i dflt))):=by
  rw [← map_lit (xs:=xs.set q.toNat y) (by simp [hn]) dflt (fun z => C.v (f z)),List.map_set]
 rw [e2] at this ⊢
 exact this
end
end Go.Ev
namespace Go.Ev
theorem rl_val {t : DT} {α : Type} {d : Dt α} (f : t.D→α) (hc : ∀ x,d.R (f x) (t.cells x)) : ∀ l : List t.D,d.L (l.map f) (l.flatMap t.cells)
 | [] => RL.nil
 | x::l => by
  rw [List.map_cons,List.flatMap_cons]
  exact RL.cons (hc x) (rl_val f hc l)
theorem slF_val {b : Nat} {t : DT} {α : Type} {d : Dt α} (f : t.D→α) (hc : ∀ x,d.R (f x) (t.cells x)) (hz : d.sz = t.size) (x : Option (List t.D)) : SlF d ((x.getD []).map f) ((DT.slice b t).val x):=by
 refine ⟨(x.getD []).flatMap t.cells,?_,rl_val f hc _⟩
 rw [hz,List.length_map]
 exact fun h => isSl_val x h
theorem slF_ints {b : Nat} {k : IntKind} (x : Option (List Int)) : SlF (dI k) (x.getD []) ((DT.slice b (.int k)).val x):=by
 have:=slF_val (b:=b) (t:=.int k) (d:=dI k) (fun x => x) (fun x => rfl) rfl x
 rwa [List.map_id'] at this
def StN (x : V) (nv : List V) : Prop:=∀ (own : Bool) (σ : Stamp) (h : H) (l : Loc) (cs : List C) (o : Nat),nd h l = some cs→o + nv.length ≤ cs.length→stO own nv.length σ h (.ref l o) x = some (setNd h l (cs.take o ++ nv.map .v ++ cs.drop (o + nv.length)))
theorem stN_one {x : V} (hx : Still x) : StN x [x]:=fun _ _ _ _ _ _ hn ho => by
 simp only [List.length_cons,List.length_nil,Nat.zero_add] at ho ⊢
 rw [stO_still hx hn (by omega)]
 congr 2
 rw [List.map_cons,List.map_nil,set_take_drop _ _ _ (by omega)]
end Go.Ev
namespace Go.Ev
theorem ix_at {α : Type} {xs : List α} {i : Nat} {x : α} (h : xs[i]? = some x) : ix xs (i : Int) = some x:=by
 unfold ix; rw [if_pos (by omega)]; simpa using h
theorem ap_eq {α : Type} {b : Nat} {xs ys : List α} (hb : b ≤ 64) (h : xs.length + ys.length < 2 ^ 40) : ap b xs ys = some (xs ++ ys):=by
 unfold ap
 refine if_pos ⟨?_,by omega⟩
 have : (xs.length + ys.length) * b ≤ (xs.length + ys.length) * 64:=Nat.mul_le_mul_left _ hb
 omega
theorem clone_eq {α : Type} {b : Nat} {xs : List α} (hb : b ≤ 64) (h : xs.length < 2 ^ 40) : p_clone b xs = some xs:=by
 unfold p_clone; rw [ap_eq hb (by simpa using h)]; rfl
theorem wrap_i64 {n : Int} (h1 : -9223372036854775808 ≤ n) (h2 : n < 9223372036854775808) : IntKind.wrap .i64 n = n:=wrap64 h1 h2
end Go.Ev
namespace Go.Ev
def OwnA {α : Type} (D : List Nat) (h : H) (dt : Dt α) (xs : List α) (v : V) : Prop:=∃ cs L h1,h = L::h1∧dt.L xs cs∧GrowS D L h1.length v dt.sz xs.length cs
def KillA (D : List Nat) (h h' : H) : Prop:=∃ L L' h1,h = L::h1∧h' = L'::h1∧L'.length = L.length∧∀ j,j ∉ D→L'[j]? = L[j]?
theorem OwnA.h {α : Type} {D : List Nat} {h : H} {dt : Dt α} {xs : List α} {v : V} (ho : OwnA D h dt xs v) : SlH h dt xs v:=by
 obtain ⟨cs,L,h1,rfl,hl,hg⟩:=ho
 exact ⟨cs,hg.sl,hl⟩
theorem OwnA.refl {α : Type} {D : List Nat} {h : H} {dt : Dt α} {xs : List α} {v : V} (ho : OwnA D h dt xs v) : KillA D h h:=by
 obtain ⟨cs,L,h1,rfl,_,_⟩:=ho
 exact ⟨L,L,h1,rfl,rfl,rfl,fun _ _ => rfl⟩
theorem GrowS.copy {D : List Nat} {L : Layer} {h : H} {v : V} {k n : Nat} {xs : List V} (ha : GrowS D L h.length v k n xs) (hD : noLit D = true) {a b m : Nat} (hab : a ≤ b) (hb : b ≤ n) {y : V} {ys : List V} (hy : IsSl (L::h) y k m ys) (hs : Stills ys) :
  ∃ L',cpO k (L::h) (subV k v a b) y = some (.p (.int .i64 ((min m (b - a) : Nat) : Int)),L'::h)∧GrowS D L' h.length v k n (xs.take (a * k) ++ ys.take (min m (b - a) * k) ++ xs.drop (a * k + min m (b - a) * k))∧L'.length = L.length∧∀ j,j ∉ D→L'[j]? = L[j]?:=by
 have hyl:=hy.clen
 by_cases h0 : min m (b - a) = 0
 ·refine ⟨L,?_,?_,rfl,fun j _ => rfl⟩
  ·have h1:=(ha.sl.sub hab hb).len
   have hsl : isSl (subV k v a b) = true:=by
    rcases ha with ⟨_,_,rfl | rfl⟩ | ⟨_,_,_,_,_,rfl,_⟩ | ⟨rfl,_⟩ <;> rfl
   unfold cpO
   rw [h1,Option.bind_some,hy.len,Option.bind_some,hy.cells,Option.bind_some,if_neg (by rw [hyl]; simp),if_neg (by rw [hsl]; simp),if_pos h0,h0]
   rfl
  ·rw [h0,Nat.zero_mul,List.take_zero,List.append_nil,Nat.add_zero,List.take_append_drop]
   exact ha
 ·rcases ha with ⟨rfl,_,_⟩ | ⟨h2,d',hd',s,tl,rfl,h3⟩ | ⟨_,_,_,hd⟩
  ·omega
  ·generalize hq : min m (b - a) = q at h0 ⊢
   have hlt:=(List.getElem?_eq_some_iff.1 h3).1
   have hqk : q * k ≤ m * k:=Nat.mul_le_mul_right _ (by omega)
   have hqb : a * k + q * k ≤ n * k:=by rw [← Nat.add_mul]; exact Nat.mul_le_mul_right _ (by omega)
   have hyt : (ys.take (q * k)).length = q * k:=by rw [List.length_take,hyl]; omega
   have hst : Stills (ys.take (q * k)):=fun x hx => hs x (List.mem_of_mem_take hx)
   have hlen : (xs.take (a * k) ++ ys.take (q * k) ++ xs.drop (a * k + q * k)).length = n * k:=by
    rw [List.length_append,List.length_append,hyt,List.length_take,List.length_drop]; omega
   refine ⟨L.set d' (.arr s n k ((xs.take (a * k) ++ ys.take (q * k) ++ xs.drop (a * k + q * k)).map .v)::tl),?_,.inr (.inl ⟨hlen,d',hd',s,tl,rfl,by simp [hlt]⟩),by simp,fun j hj => ?_⟩
   ·unfold cpO
    rw [subV,hy.len,hy.cells]
    simp only [lenOf,Option.bind_some]
    rw [if_neg (by rw [hyl]; simp),if_neg (by simp [isSl]),if_neg (by rw [hq]; exact h0),if_pos (by simp [eszIs]),hq]
    simp only [cpO.ovO]
    rw [if_neg (by rw [hyt]; omega),layCs_still true (L::h) hst,Option.bind_some,nd_arr h3,Option.bind_some]
    simp only [List.length_map,hyt]
    rw [if_pos (by omega),setNd_arr h3,Option.map_some]
    simp [List.map_take,List.map_drop]
   ·rw [List.getElem?_set_ne (fun e => hj (by rw [← e]; exact hd'))]
  ·exact (noLit_no hD hd).elim
theorem SlF.int1 (k : IntKind) (n : Int) : SlF (dI k) [n] (.fz [.p (.int k n)] 1 1 true):=SlF.lit (cs:=[.p (.int k n)]) (RL.cons (show (dI k).R n [.p (.int k n)] from rfl) RL.nil) rfl rfl true
abbrev vOf {α : Type} {d : Dt α} {xs : List α} {v : V} (_ : SlF d xs v) : V:=v
section
variable {β α γ δ : Type} {Q : β→α→Prop} {x : Option β} {K : δ→Option α}
theorem Sim.ci {k : IntKind} {n : Int} {f : Int→Option δ} (s : Sim x ((f n).bind K) Q) : Sim x (((castI k (.p (.int k n))).bind f).bind K) Q:=Sim.op (castI_p _ _) s
theorem Sim.ab {b : Bool} {f : Bool→Option δ} (s : Sim x ((f b).bind K) Q) : Sim x (((asB (.p (.bool b))).bind f).bind K) Q:=Sim.op (asB_p _) s
theorem Sim.nc {l : Loc} {o : Nat} {f : V→Option δ} (s : Sim x ((f (.ref l o)).bind K) Q) : Sim x (((nilChk (.ref l o)).bind f).bind K) Q:=Sim.op (nilChk_ref _ _) s
theorem Sim.fa {l : Loc} {o k : Nat} {f : V→Option δ} (s : Sim x ((f (.ref l (o + k))).bind K) Q) : Sim x (((fA (.ref l o) k).bind f).bind K) Q:=Sim.op (fA_ref _ _ _) s
theorem Sim.or {v : γ} {g : γ→Option δ} (s : Sim x ((g v).bind K) Q) : Sim x (((some v).bind g).bind K) Q:=s
theorem Sim.cq {c : Bool} {a b : Option β} {A B : Option δ} (s : Sim a (A.bind K) Q) (t : Sim b (B.bind K) Q) : Sim (bif c then a else b) ((bif c then A else B).bind K) Q:=Sim.cd (fun _ => s) (fun _ => t)
theorem Sim.cqk {c : Bool} {a b : Option β} {A B : Option γ} {g : γ→Option δ} (s : Sim a ((A.bind g).bind K) Q) (t : Sim b ((B.bind g).bind K) Q) : Sim (bif c then a else b) (((bif c then A else B).bind g).bind K) Q:=Sim.cdk (fun _ => s) (fun _ => t)
end
abbrev Nn (c : C) (k : Nat) : Prop:=∀ v,c = .v v→v = .p (.slice none 0 0) ∨ v = .fz [] 0 k true
end Go.Ev
namespace Go.Ev
def Nq (c : C) (k : Nat) : Prop:=c = .v (.p (.slice none 0 0)) ∨ ∃ s n ws,c = .arr s (n + 1) k ws
def neO {α : Type} (xs : List α) : Option Unit:=if xs.isEmpty then none else some ()
theorem Nq.nil {k : Nat} : Nq (.v (.p (.slice none 0 0))) k:=.inl rfl
theorem Nq.nn {c : C} {k : Nat} (h : Nq c k) : Nn c k:=fun v e => by
 rcases h with h | ⟨s,n,ws,h⟩
 ·rw [h] at e; cases e; exact .inl rfl
 ·rw [h] at e; cases e
theorem SlF.nil_len {α : Type} {d : Dt α} {xs : List α} {v : V} (h : SlF d xs v) (hv : v = .p (.slice none 0 0) ∨ v = .fz [] 0 d.sz true) : xs = []:=by
 obtain ⟨cs,h1,h2⟩:=h
 have h3:=(h1 []).len
 rcases hv with rfl | rfl
 ·exact List.eq_nil_of_length_eq_zero (Option.some.inj h3).symm
 ·exact List.eq_nil_of_length_eq_zero (Option.some.inj h3).symm
theorem Nq.mk {α : Type} {d : Dt α} {xs : List α} {c : C} {k : Nat} {u : Unit} (hS : SoC d xs c) (nt : Nn c k) (hk : d.sz = k) (hne : neO xs = some u) : Nq c k:=by
 unfold neO at hne
 rcases hS with ⟨v,rfl,hv⟩ | ⟨s,ws,rfl,_⟩
 ·have:=hv.nil_len (by rw [hk]; exact nt v rfl)
  subst this
  cases hne
 ·cases xs with
  | nil => cases hne
  | cons x xs => exact .inr ⟨s,xs.length,_,by rw [hk]; rfl⟩
theorem SoC.eqNil {P : Program} {h : H} {t e : TypeId} {α : Type} {d : Dt α} {xs : List α} {c : C} {k : Nat} {l : Loc} {o : Nat} (hu : P.underlying t = some (.slice e)) (hS : SoC d xs c) (hq : Nq c k) : binV P h .eql t (cellV l o c) (.p (.slice none 0 0)) = some (.p (.bool xs.isEmpty)):=by
 rcases hq with rfl | ⟨s,n,ws,rfl⟩
 ·rcases hS with ⟨v,e1,hv⟩ | ⟨s,ws,e1,_⟩
  ·cases e1
   have:=hv.nil_len (.inl rfl)
   subst this
   show (eqlV P h t (.p (.slice none 0 0)) (.p (.slice none 0 0))).map _ = _
   simp only [eqlV,hu]; rfl
  ·cases e1
 ·rcases hS with ⟨v,e1,hv⟩ | ⟨s',ws',e1,_⟩
  ·cases e1
  ·injection e1 with _ e2 _ _
   have : xs.isEmpty = false:=by cases xs with
    | nil => cases e2
    | cons => rfl
   rw [this]
   show (eqlV P h t (.sl _ _ _ _ _) (.p (.slice none 0 0))).map _ = _
   simp only [eqlV,hu]; rfl
section
variable {N : Nat} {h0 Hp : H} {B : List Rt} {Γ : List (Nat × Stamp × List C)} {Δ : List Gw}
theorem dI_map {k : IntKind} : ∀ xs : List Int,(dI k).L xs (xs.map fun n => .p (.int k n))
 | [] => rfl
 | _::xs => ⟨_,_,rfl,rfl,dI_map xs⟩
end
theorem Dt.setL {α : Type} {d : Dt α} {xs zs : List α} {cs : List V} (q1 : d.L xs cs) {k : Int} {old x : α} (ho : ix xs k = some old) (hz : stx xs k x = some zs) {off : Nat} {nv : List V} (hoff : off + nv.length ≤ d.sz)
  (hx : ∀ ws,d.R old ws→d.R x (ws.take off ++ nv ++ ws.drop (off + nv.length))) : d.L zs (cs.take (k.toNat * d.sz + off) ++ nv ++ cs.drop (k.toNat * d.sz + off + nv.length))∧k.toNat * d.sz + off + nv.length ≤ cs.length:=by
 obtain ⟨⟨hk0,hk1⟩,rfl⟩:=stx_some hz
 have hcl:=RL.length (fun h => d.len h) q1
 obtain ⟨_,hix,hold⟩:=ix_some ho
 obtain ⟨ws,hR,hw⟩:=RL.get (fun h => d.len h) q1 hix
 rw [hold] at hR
 have hwl:=d.len hR
 have hin : k.toNat * d.sz + d.sz ≤ cs.length:=by
  have:=Nat.mul_le_mul_right d.sz (Nat.succ_le_of_lt hix)
  rw [Nat.succ_mul] at this; omega
 refine ⟨?_,by omega⟩
 have:=RL.set (k:=d.sz) (fun h => d.len h) (i:=k.toNat) (y:=x) q1 hix (hx ws hR)
 have hsplit : cs = cs.take (k.toNat * d.sz) ++ (ws ++ cs.drop (k.toNat * d.sz + d.sz)):=by
  rw [← hw,← List.drop_drop,List.take_append_drop,List.take_append_drop]
 have hA : (cs.take (k.toNat * d.sz)).length = k.toNat * d.sz:=by rw [List.length_take]; omega
 generalize cs.take (k.toNat * d.sz) = A at hsplit hA this
 generalize cs.drop (k.toNat * d.sz + d.sz) = Bc at hsplit this
 rw [hsplit]
 rw [List.take_append,List.take_append,List.drop_append,List.drop_append,hA,hwl]
 rw [List.take_of_length_le (l:=A) (by omega),List.drop_of_length_le (l:=A) (by omega)]
 have t1 : k.toNat * d.sz + off - k.toNat * d.sz = off:=by omega
 have t2 : k.toNat * d.sz + off + nv.length - k.toNat * d.sz = off + nv.length:=by omega
 have t3 : off - d.sz = 0:=by omega
 have t4 : off + nv.length - d.sz = 0:=by omega
 rw [t1,t2,t3,t4,List.take_zero,List.drop_zero,List.append_nil,List.nil_append]
 simp only [List.append_assoc] at this ⊢
 exact this
theorem Dt.whole {α : Type} {d : Dt α} {old x : α} {nv : List V} {n : Nat} (hR : d.R x nv) (hn : d.sz = n) : ∀ ws,d.R old ws→d.R x (ws.take 0 ++ nv ++ ws.drop (0 + n)):=fun ws hw => by
 have:=d.len hw
 rw [List.take_zero,List.nil_append,Nat.zero_add,List.drop_of_length_le (by omega),List.append_nil]
 exact hR
theorem cell_set {Hp : H} {l : Loc} {off0 j : Nat} {cs0 : List C} {c : C} {α : Type} {d : Dt α} {xs zs : List α} {own : Bool} {σ : Stamp} {k : Int} {old x : α} {nv : List V} {xv : V} {n e off : Nat} (ha : AtC Hp l off0 cs0) (hj : cs0[j]? = some c) (hS : SoC d xs c) (nt : Nn c e)
  (ho : ix xs k = some old) (hz : stx xs k x = some zs) (he : d.sz = e) (hn : nv.length = n) (hoff : off + n ≤ e) (hst : StN xv nv) (hx : ∀ ws,d.R old ws→d.R x (ws.take off ++ nv ++ ws.drop (off + n))) :
  ∃ c',stO own n σ Hp (adr (cellV l (off0 + j) c) (k.toNat * e + off)) xv = some (ptC Hp l off0 (cs0.set j c'))∧SoC d zs c'∧Nq c' e:=by
 subst he; subst hn
 obtain ⟨⟨hk0,hk1⟩,hzs⟩:=stx_some hz
 rcases hS with ⟨v,rfl,hv⟩ | ⟨s,ws,rfl,hl⟩
 ·have:=hv.nil_len (nt v rfl)
  subst this
  simp only [List.length_nil] at hk1; omega
 ·obtain ⟨hL,hle⟩:=Dt.setL hl ho hz hoff hx
  have hA:=ha.hop hj (s:=s) (ds:=ws.map .v) (by simp [C.node])
  obtain ⟨p,q,hnd,hp⟩:=hA
  have hp0 : p = []:=List.eq_nil_of_length_eq_zero hp
  subst hp0
  have e1:=hst own σ Hp (l.hop (off0 + j) s) _ (k.toNat * d.sz + off) hnd (by simp only [List.nil_append,List.length_append,List.length_map]; omega)
  have hlen : (ws.take (k.toNat * d.sz + off) ++ nv ++ ws.drop (k.toNat * d.sz + off + nv.length)).length = ws.length:=by
   simp only [List.length_append,List.length_take,List.length_drop]; omega
  have hpt:=ha.hop_pt hj (s:=s) (ds:=ws.map .v) (ds':=(ws.take (k.toNat * d.sz + off) ++ nv ++ ws.drop (k.toNat * d.sz + off + nv.length)).map .v) (by simp [C.node]) (by simp only [List.length_map]; exact hlen)
  refine ⟨.arr s xs.length d.sz ((ws.take (k.toNat * d.sz + off) ++ nv ++ ws.drop (k.toNat * d.sz + off + nv.length)).map .v),?_,.inr ⟨s,_,?_,hL⟩,?_⟩
  ·show stO own nv.length σ Hp (.ref (l.hop (off0 + j) s) (0 + (k.toNat * d.sz + off))) xv = _
   rw [Nat.zero_add,e1]
   congr 1
   refine Eq.trans ?_ hpt
   rw [ptC_eq (off:=0) (p:=[]) (cs:=ws.map .v) (cs':=(ws.take (k.toNat * d.sz + off) ++ nv ++ ws.drop (k.toNat * d.sz + off + nv.length)).map .v) hnd rfl (by simp only [List.length_map]; exact hlen)]
   congr 1
   simp only [List.nil_append,List.map_append,List.map_take,List.map_drop]
   rw [List.take_append_of_le_length (by simp only [List.length_map]; omega),List.drop_append_of_le_length (by simp only [List.length_map]; omega)]
   simp only [List.append_assoc]
  ·rw [hzs,List.length_set]
  ·obtain ⟨m,hm⟩ : ∃ m,xs.length = m + 1:=⟨xs.length - 1,by omega⟩
   exact .inr ⟨s,m,_,by rw [hm]⟩
section
variable {N : Nat} {h0 Hp : H} {B : List Rt} {Γ : List (Nat × Stamp × List C)} {Δ : List Gw}
theorem Fm.seB (S : Fm N h0 B Γ Δ Hp) {i off0 j : Nat} {l : Loc} {cs0 : List C} {c : C} {α : Type} {d : Dt α} {xs zs : List α} {own : Bool} {σ : Stamp} {k : Int} {old x : α} {nv : List V} {xv : V} {n e off : Nat} (hi : B[i]? = some ⟨l,off0,cs0⟩) (hj : cs0[j]? = some c) (hS : SoC d xs c) (nt : Nn c e)
  (ho : ix xs k = some old) (hz : stx xs k x = some zs) (he : d.sz = e) (hn : nv.length = n) (hoff : off + n ≤ e) (hst : StN xv nv) (hx : ∀ ws,d.R old ws→d.R x (ws.take off ++ nv ++ ws.drop (off + n))) :
  ∃ c' H',stO own n σ Hp (adr (cellV l (off0 + j) c) (k.toNat * e + off)) xv = some H'∧SoC d zs c'∧Nq c' e∧Fm N h0 (B.set i ⟨l,off0,cs0.set j c'⟩) Γ Δ H':=by
 obtain ⟨c',e1,h1,h2⟩:=cell_set (own:=own) (σ:=σ) (S.atB hi) hj hS nt ho hz he hn hoff hst hx
 exact ⟨c',_,e1,h1,h2,S.setB hi (by simp)⟩
end
end Go.Ev
namespace Go.Ev
theorem lo_nil {H : Ev.H} : layCs true H [] = some (([] : List C),H):=rfl
theorem lo_pl {H H' : Ev.H} {x : V} {xs : List V} {cs : List C} (hx : Still x) (t : layCs true H xs = some (cs,H')) : layCs true H (x::xs) = some (.v x::cs,H'):=by
 simp only [layCs,hx.lay,Option.bind_some,t]
theorem lo_ow {H H1 H' : Ev.H} {x : V} {c : C} {xs : List V} {cs : List C} (hx : layC true H x = some (c,H1)) (t : layCs true H1 xs = some (cs,H')) : layCs true H (x::xs) = some (c::cs,H'):=by
 simp only [layCs,hx,Option.bind_some,t]
section
variable {N : Nat} {h0 Hp : H} {B : List Rt} {Γ : List (Nat × Stamp × List C)} {Δ : List Gw}
theorem Fm.layO (S : Fm N h0 B Γ Δ Hp) {k : Nat} {g : Gw} (hk : Δ[k]? = some g) (hD : noLit g.D = true) (hf : freeL g.D Γ (Δ.eraseIdx k) = true) :
  ∃ c H1,layC true Hp g.v = some (c,H1)∧SoC g.d g.xs c∧Nn c g.d.sz∧Fm N h0 B Γ (Δ.eraseIdx k) H1:=by
 have S' : Fm N h0 B Γ (Δ.eraseIdx k) Hp:=S.wk (fun _ h => h) (fun _ h => mem_erase h)
 obtain ⟨L,rfl,h2,h3,h4,h5⟩:=S
 obtain ⟨ws,q1,q2⟩:=h5 g (List.mem_of_getElem? hk)
 rcases q2 with ⟨e1,e2,e3⟩ | ⟨q2,d',hd',s,tl,hv,h6⟩ | ⟨_,_,_,hd⟩
 ·have o : OwnS (.v g.v) g.d.sz g.xs.length ws:=⟨by rw [e1,e2]; simp,.inl ⟨e1,e2,by rcases e3 with e | e <;> rw [e] <;> simp⟩⟩
  refine ⟨.v g.v,_,?_,SoC.own o q1,fun v hv => ?_,S'⟩
  ·rcases e3 with e | e <;> rw [e] <;> rfl
  ·cases hv; exact e3
 ·have hr : rootC (L::pts h0 B) ⟨h0.length,d',0,s,[]⟩ = some (.arr s g.xs.length g.d.sz (ws.map .v)):=by simp [rootC,pts_length,h6]
  have hs : setRoot (L::pts h0 B) ⟨h0.length,d',0,s,[]⟩ .dead = L.set d' (.dead::tl)::pts h0 B:=by simp [setRoot,pts_length,h6]
  have o : OwnS (.arr s g.xs.length g.d.sz (ws.map .v)) g.d.sz g.xs.length ws:=⟨q2,.inr ⟨s,rfl⟩⟩
  refine ⟨_,L.set d' (.dead::tl)::pts h0 B,?_,SoC.own o q1,?_,dead_ok S' (mem_one hf hd') (.dead::tl)⟩
  ·rw [hv]; simp [layC,pts_length,hr,hs]
  ·intro v hv; cases hv
 ·exact (noLit_no hD hd).elim
theorem Fm.boxL {H1 : Ev.H} (S : Fm N h0 B Γ Δ H1) {d : Nat} {s : Stamp} {xs : List V} {cs : List C} (e : layCs true Hp xs = some (cs,H1)) (hd : d < N) (hf : (freeG Γ d && freeD Δ d) = true) :
  ∃ H',boxO true s d Hp (.agg xs) = some (.ref ⟨h0.length,d,0,s,[]⟩ 0,H')∧Fm N h0 B ((d,s,cs)::Γ) Δ H' :=
 ⟨_,by unfold boxO; rw [show (V.agg xs).cells = xs from rfl,e]; simp only [Option.bind_some]; rw [S.newLoc],S.add hd hf⟩
theorem Fm.clipC (S : Fm N h0 B Γ Δ Hp) {G : Cfg} {X : CallF} {f n e i d0 j d : Nat} {s0 σ : Stamp} {cs : List C} {c : C} {α : Type} {dt : Dt α} {xs : List α} (entry : ∀ (x : V) (h : H),cvBody G (ev G X) (cvL G X) f σ [x] h = clipBody e n σ x h)
  (hi : Γ[i]? = some (d0,s0,cs)) (hf : (freeG (Γ.eraseIdx i) d0 && freeD Δ d0) = true) (hj : cs[j]? = some c) (hS : SoC dt xs c) (nt : Nn c e) (he : dt.sz = e) (hX : ∀ y,X f σ [y] Hp = none) :
  ∃ y,callO (ev G X) f σ [cellV ⟨h0.length,d0,0,s0,[]⟩ j c] Hp (some d) = some (y,Hp)∧∃ c2 a H',(∀ τ,expF false τ Hp y = some (c2,H'))∧OwnS c2 dt.sz xs.length a∧dt.L xs a∧Fm N h0 B (Γ.eraseIdx i) Δ H':=by
 subst he
 have Se : ∀ {H' : Ev.H} {cs' : List C},Fm N h0 B (Γ.set i (d0,s0,cs')) Δ H'→Fm N h0 B (Γ.eraseIdx i) Δ H':=fun S => by
  have:=S.wk (Γ':=(Γ.set i (d0,s0,_)).eraseIdx i) (fun _ h => mem_erase h) (fun _ h => h)
  rwa [List.eraseIdx_set_eq] at this
 have ha:=S.atG hi
 have hsl:=hS.sl ha hj
 rw [Nat.zero_add] at hsl
 have len:=hsl.len
 have hlt:=(List.getElem?_eq_some_iff.1 hj).1
 have key : ∃ y,slS dt.sz (cellV ⟨h0.length,d0,0,s0,[]⟩ j c) none (some xs.length) (some xs.length) = some y∧fin false σ (List.replicate n []::Hp) [y] = some ([.v y],Hp)∧∃ c2 a H',(∀ τ,expF false τ Hp y = some (c2,H'))∧OwnS c2 dt.sz xs.length a∧dt.L xs a∧Fm N h0 B (Γ.eraseIdx i) Δ H':=by
  have same : Γ.set i (d0,s0,cs) = Γ:=by rw [← (List.getElem?_eq_some_iff.1 hi).2]; exact List.set_getElem_self ..
  rcases hS with ⟨v,rfl,hv⟩ | ⟨s,ws,rfl,hl⟩
  ·have hx:=hv.nil_len (nt v rfl)
   subst hx
   rcases nt v rfl with rfl | rfl
   ·exact ⟨_,rfl,fin_1 still_nilS,_,[],Hp,fun τ => still_nilS.exp ..,⟨by simp,.inl ⟨rfl,rfl,.inl rfl⟩⟩,rfl,Se (by rw [same]; exact S)⟩
   ·exact ⟨.fz [] 0 dt.sz true,by simp [cellV,toV,slS,bI],fin_1 (still_fz ..),_,[],Hp,fun τ => (still_fz ..).exp ..,⟨by simp,.inl ⟨rfl,rfl,.inr rfl⟩⟩,rfl,Se (by rw [same]; exact S)⟩
  ·have hlen:=RL.length (fun h => dt.len h) hl
   by_cases h0' : xs.length = 0
   ·have : xs = []:=List.eq_nil_of_length_eq_zero h0'
    subst this
    exact ⟨.fz [] 0 dt.sz true,by simp [cellV,toV,slS,bI],fin_1 (still_fz ..),_,[],Hp,fun τ => (still_fz ..).exp ..,⟨by simp,.inl ⟨rfl,rfl,.inr rfl⟩⟩,rfl,Se (by rw [same]; exact S)⟩
   ·have hT : h0.length < Hp.length:=by
     obtain ⟨L,rfl,_⟩:=S
     simp [pts_length]
    have htop : top Hp = h0.length:=by
     obtain ⟨L,rfl,_⟩:=S
     simp [top,pts_length]
    refine ⟨.sl ((⟨h0.length,d0,0,s0,[]⟩ : Loc).hop j s) 0 xs.length xs.length dt.sz,by simp [cellV,toV,slS,bI,h0'],fin_low (by simpa [Loc.hop] using hT),.arr s xs.length dt.sz (ws.map .v),ws,_,fun τ => ?_,⟨hlen,.inr ⟨s,rfl⟩⟩,hl,Se (S.setG (cs':=cs.set j .dead) hi hf (by simp))⟩
    have hat : at_ Hp ((⟨h0.length,d0,0,s0,[]⟩ : Loc).hop j s) = some (.arr s xs.length dt.sz (ws.map .v)):=by
     obtain ⟨p,q,hn,hp⟩:=ha
     have hp0 : p = []:=List.length_eq_zero_iff.1 hp
     subst hp0
     rw [at_hop,hn]
     simp only [Option.bind_some]
     rw [List.nil_append,List.getElem?_append_left hlt,hj]
     simp [C.node]
    have hk:=at_killed ha hj (s:=s) (by simp [C.node])
    rw [Nat.zero_add] at hk
    have hr : rng (ws.map C.v) 0 (xs.length * dt.sz) = some (ws.map C.v):=by
     unfold rng; rw [if_pos (by simp; omega),← hlen,List.drop_zero,List.take_of_length_le (by simp)]
    have hlv : ((⟨h0.length,d0,0,s0,[]⟩ : Loc).hop j s).lvl = top Hp:=htop.symm
    simp only [expF,expC,hlv,if_true,hat,hr,Option.bind_some,hk]
 obtain ⟨y,k1,k2,k3⟩:=key
 exact ⟨y,callO_1 (ev_cv (hX _) (by rw [entry]; exact clip_body len k1 k2)),k3⟩
end
end Go.Ev
namespace Go.Ev
def SlU {α : Type} (m : Nat) (h : H) (d : Dt α) (xs : List α) (v : V) : Prop:=m ≤ h.length∧SlH (h.drop (h.length - m)) d xs v
theorem SlH.ups {α : Type} {d : Dt α} {xs : List α} {v : V} : ∀ (k : Nat) {h : H},SlH (h.drop k) d xs v→SlH h d xs v
 | 0,_,hv => hv
 | k + 1,[],hv => by simpa using hv
 | k + 1,L::h,hv => by
  obtain ⟨cs,q1,q2⟩:=SlH.ups k (h:=h) (by simpa using hv)
  exact ⟨cs,q1.up L,q2⟩
theorem SlU.sl {α : Type} {m : Nat} {h : H} {d : Dt α} {xs : List α} {v : V} (hu : SlU m h d xs v) : SlH h d xs v:=SlH.ups _ hu.2
theorem SlH.cells {α : Type} {h : H} {d : Dt α} {xs : List α} {v : V} (hv : SlH h d xs v) : v.cells = [v]:=by
 obtain ⟨cs,q1,_⟩:=hv
 rcases q1.cases with ⟨rfl,_,_⟩ | ⟨t,rfl⟩ | ⟨l,off,av,ds,rfl,_⟩ <;> rfl
section
variable {N : Nat} {h0 Hp : H} {B : List Rt} {Γ : List (Nat × Stamp × List C)} {Δ : List Gw} {α : Type} {d : Dt α} {xs : List α} {v : V} {m : Nat}
end
end Go.Ev
namespace Go.Ev
def WL (l : Loc) (off : Nat) {α : Type} (d : Dt α) (xs : List α) (v : V) (cs : List C) : Prop:=∃ ws a,cs = ws.map .v∧d.L xs ws∧v = .sl l off xs.length a d.sz∧xs.length ≤ a
theorem WL.len {l : Loc} {off : Nat} {α : Type} {d : Dt α} {xs : List α} {v : V} {cs : List C} (h : WL l off d xs v cs) : cs.length = xs.length * d.sz:=by
 obtain ⟨ws,a,rfl,h2,_⟩:=h
 rw [List.length_map]; exact RL.length (fun h => d.len h) h2
theorem WL.same {l : Loc} {off : Nat} {α : Type} {d : Dt α} {xs ys : List α} {v : V} {cs cs' : List C} (h : WL l off d xs v cs) (h' : WL l off d ys v cs') : cs'.length = cs.length:=by
 rw [h.len,h'.len]
 obtain ⟨_,_,_,_,e,_⟩:=h
 obtain ⟨_,_,_,_,e',_⟩:=h'
 rw [e] at e'
 injection e' with _ _ e1
 rw [e1]
theorem WL.sl {H : Ev.H} {l : Loc} {off : Nat} {α : Type} {d : Dt α} {xs : List α} {v : V} {cs : List C} (ha : AtC H l off cs) (h : WL l off d xs v cs) : SlH H d xs v:=by
 have hlen:=h.len
 obtain ⟨ws,a,rfl,h2,rfl,h4⟩:=h
 obtain ⟨p,q,hn,hp⟩:=ha
 refine ⟨ws,.mk_sl hn (by simp only [List.length_append,hlen]; omega) ?_ h4,h2⟩
 rw [← hlen,← hp,List.append_assoc,List.drop_left,List.take_left,toVs_plain]
def KN (v : V) (l : Loc) : Prop:=∀ l' o n a e,v = .sl l' o n a e→l'.key ≠ l.key
section
variable {N : Nat} {h0 Hp : H} {B : List Rt} {Γ : List (Nat × Stamp × List C)} {Δ : List Gw} {α : Type} {d : Dt α} {xs zs : List α} {v : V}
theorem Fm.lowN (S : Fm N h0 B Γ Δ Hp) (hB : ∀ r ∈ B,KN v r.l) (hu : SlH h0 d xs v) : SlH Hp d xs v:=by
 obtain ⟨L,rfl,_,h3,_⟩:=S
 obtain ⟨ws,q1,q2⟩:=hu
 refine SlH.ups 1 (h:=L::pts h0 B) ⟨ws,?_,q2⟩
 show IsSl (pts h0 B) _ _ _ _
 rcases q1.cases with ⟨rfl,h1,h2⟩ | ⟨t,rfl⟩ | ⟨l,off,av,ds,rfl,hn,hl,hv,hav⟩
 ·rw [h1,h2]; exact .nil _ _
 ·exact Fz.fz q1.clen t _
 ·have ha : AtC h0 l 0 ds:=⟨[],[],by simpa using hn,rfl⟩
  have : ∀ (B : List Rt),(∀ r ∈ B,KN (.sl l off xs.length av d.sz) r.l)→AtC (pts h0 B) l 0 ds:=by
   intro B
   induction B with
   | nil => intro _; exact ha
   | cons r rs ih => intro hB; exact (ih fun q hq => hB q (List.mem_cons_of_mem _ hq)).frame (Ne.symm (hB r (List.mem_cons_self ..) _ _ _ _ _ rfl))
  obtain ⟨p,q,hn',hp⟩:=this B hB
  have hp0 : p = []:=List.length_eq_zero_iff.1 hp
  subst hp0
  refine .mk_sl hn' (by simp only [List.nil_append,List.length_append]; omega) ?_ hav
  rw [List.nil_append,List.drop_append_of_le_length (by omega),List.take_append_of_le_length (by rw [List.length_drop]; omega)]
  exact hv
theorem KN.key {l l' : Loc} (hk : KN v l) (he : l'.key = l.key) : KN v l':=fun _ _ _ _ _ hv => by rw [he]; exact hk _ _ _ _ _ hv
theorem KN.frz (hv : SlF d xs v) {l : Loc} : KN v l:=fun l' o n a e hv' => by
 subst hv'
 obtain ⟨ws,q1,_⟩:=hv
 rcases (q1 []).cases with ⟨h,_,_⟩ | ⟨t,h⟩ | ⟨l2,off,av,ds,h,hn,_⟩
 ·cases h
 ·cases h
 ·have:=nd_lt hn
  simp at this
end
end Go.Ev
namespace Go.Ev
section
variable {N : Nat} {h0 Hp : H} {B : List Rt} {Γ : List (Nat × Stamp × List C)} {Δ : List Gw} {α : Type} {d : Dt α} {xs zs : List α} {v : V}
end
end Go.Ev
namespace Go.Ev
section
variable {N : Nat} {h0 Hp : H} {B : List Rt} {Γ : List (Nat × Stamp × List C)} {Δ : List Gw}
theorem Fm.ltB (S : Fm N h0 B Γ Δ Hp) {i : Nat} {r : Rt} (hi : B[i]? = some r) : r.l.lvl < h0.length:=by
 obtain ⟨L,rfl,h2,h3,h4,h5⟩:=S
 have:=(h3.at hi).lt
 rwa [pts_length] at this
theorem Fm.knD (S : Fm N h0 B Γ Δ Hp) {k : Nat} {g : Gw} (hk : Δ[k]? = some g) {l : Loc} (hl : l.lvl < h0.length) : KN g.v l:=fun l' o n a e hv => by
 obtain ⟨L,rfl,h2,h3,h4,h5⟩:=S
 obtain ⟨ws,q1,q2⟩:=h5 g (List.mem_of_getElem? hk)
 rcases q2 with ⟨_,_,e3⟩ | ⟨_,d',_,s,tl,hv',_⟩ | ⟨hv',_⟩
 ·rcases e3 with e3 | e3 <;> rw [e3] at hv <;> cases hv
 ·rw [hv'] at hv
  injection hv with e1
  subst e1
  intro hk
  simp only [Loc.key,Prod.mk.injEq] at hk
  omega
 ·rw [hv'] at hv; cases hv
end
end Go.Ev
namespace Go.Ev
section
variable {N : Nat} {h0 Hp : H} {B : List Rt} {Γ : List (Nat × Stamp × List C)} {Δ : List Gw}
theorem Fm.expCell (S : Fm N h0 B Γ Δ Hp) {e i d0 j : Nat} {s0 : Stamp} {cs : List C} {c : C} {α : Type} {dt : Dt α} {xs : List α}
  (hi : Γ[i]? = some (d0,s0,cs)) (hf : (freeG (Γ.eraseIdx i) d0 && freeD Δ d0) = true) (hj : cs[j]? = some c) (hS : SoC dt xs c) (nt : Nn c e) (he : dt.sz = e) :
  ∃ c2 a H',(∀ τ,expF false τ Hp (cellV ⟨h0.length,d0,0,s0,[]⟩ j c) = some (c2,H'))∧OwnS c2 dt.sz xs.length a∧dt.L xs a∧Fm N h0 B (Γ.eraseIdx i) Δ H':=by
 subst he
 have Se : ∀ {H' : Ev.H} {cs' : List C},Fm N h0 B (Γ.set i (d0,s0,cs')) Δ H'→Fm N h0 B (Γ.eraseIdx i) Δ H':=fun S => by
  have:=S.wk (Γ':=(Γ.set i (d0,s0,_)).eraseIdx i) (fun _ h => mem_erase h) (fun _ h => h)
  rwa [List.eraseIdx_set_eq] at this
 have ha:=S.atG hi
 have hlt:=(List.getElem?_eq_some_iff.1 hj).1
 have same : Γ.set i (d0,s0,cs) = Γ:=by rw [← (List.getElem?_eq_some_iff.1 hi).2]; exact List.set_getElem_self ..
 rcases hS with ⟨v,rfl,hv⟩ | ⟨s,ws,rfl,hl⟩
 ·have hx:=hv.nil_len (nt v rfl)
  subst hx
  rcases nt v rfl with rfl | rfl
  ·exact ⟨_,[],Hp,fun τ => still_nilS.exp ..,⟨by simp,.inl ⟨rfl,rfl,.inl rfl⟩⟩,rfl,Se (by rw [same]; exact S)⟩
  ·exact ⟨_,[],Hp,fun τ => (still_fz ..).exp ..,⟨by simp,.inl ⟨rfl,rfl,.inr rfl⟩⟩,rfl,Se (by rw [same]; exact S)⟩
 ·have hlen:=RL.length (fun h => dt.len h) hl
  have htop : top Hp = h0.length:=by
   obtain ⟨L,rfl,_⟩:=S
   simp [top,pts_length]
  refine ⟨.arr s xs.length dt.sz (ws.map .v),ws,_,fun τ => ?_,⟨hlen,.inr ⟨s,rfl⟩⟩,hl,Se (S.setG (cs':=cs.set j .dead) hi hf (by simp))⟩
  have hat : at_ Hp ((⟨h0.length,d0,0,s0,[]⟩ : Loc).hop j s) = some (.arr s xs.length dt.sz (ws.map .v)):=by
   obtain ⟨p,q,hn,hp⟩:=ha
   have hp0 : p = []:=List.length_eq_zero_iff.1 hp
   subst hp0
   rw [at_hop,hn]
   simp only [Option.bind_some]
   rw [List.nil_append,List.getElem?_append_left hlt,hj]
   simp [C.node]
  have hk:=at_killed ha hj (s:=s) (by simp [C.node])
  rw [Nat.zero_add] at hk
  have hr : rng (ws.map C.v) 0 (xs.length * dt.sz) = some (ws.map C.v):=by
   unfold rng; rw [if_pos (by simp; omega),← hlen,List.drop_zero,List.take_of_length_le (by simp)]
  have hlv : ((⟨h0.length,d0,0,s0,[]⟩ : Loc).hop j s).lvl = top Hp:=htop.symm
  show expF false τ Hp (.sl ((⟨h0.length,d0,0,s0,[]⟩ : Loc).hop j s) 0 xs.length xs.length dt.sz) = _
  simp only [expF,expC,hlv,if_true,hat,hr,Option.bind_some,hk]
end
end Go.Ev
namespace Go.Ev
set_option linter.unusedVariables false
structure TzTape where
 f_L : (List Int)
 f_At : Int
def TzTape.tp (x : TzTape) : ((List Int) × (Int × Unit)):=(x.f_L,(x.f_At,()))
def dTzTape : Dt TzTape:=(dP (dSl (dI .i64)) (dP (dI .i64) dU)).via TzTape.tp
theorem dTzTape.inv {x : TzTape} {vs : List V} (h : dTzTape.R x vs) : ∃ v0,vs = [v0,.p (.int .i64 x.f_At)]∧SlF (dI .i64) x.f_L v0:=by
 obtain ⟨u0,w0,e0,h0,u1,w1,e1,h1,hend⟩:=h
 obtain ⟨v0,rfl,s0⟩:=h0
 obtain rfl : u1 = [.p (.int .i64 x.f_At)]:=h1
 obtain rfl:=(show _ = [] from hend)
 subst e1
 subst e0
 exact ⟨v0,rfl,s0⟩
theorem dTzTape.mk {y_f_L : (List Int)} {y_f_At : Int} {v0 : V} (s0 : SlF (dI .i64) y_f_L v0) : dTzTape.R (⟨y_f_L,y_f_At⟩ : TzTape) [v0,.p (.int .i64 y_f_At)]:=⟨[v0],[.p (.int .i64 y_f_At)],rfl,⟨v0,rfl,s0⟩,⟨[.p (.int .i64 y_f_At)],[],rfl,rfl,rfl⟩⟩
structure TaiChoice where
 Class : Int
 Costs : (List Int)
 Goods : (List Int)
def TaiChoice.tp (x : TaiChoice) : (Int × ((List Int) × ((List Int) × Unit))):=(x.Class,(x.Costs,(x.Goods,())))
def dTaiChoice : Dt TaiChoice:=(dP (dI .i64) (dP (dSl (dI .i64)) (dP (dSl (dI .i64)) dU))).via TaiChoice.tp
theorem dTaiChoice.inv {x : TaiChoice} {vs : List V} (h : dTaiChoice.R x vs) : ∃ v1 v2,vs = [.p (.int .i64 x.Class),v1,v2]∧SlF (dI .i64) x.Costs v1∧SlF (dI .i64) x.Goods v2:=by
 obtain ⟨u0,w0,e0,h0,u1,w1,e1,h1,u2,w2,e2,h2,hend⟩:=h
 obtain rfl : u0 = [.p (.int .i64 x.Class)]:=h0
 obtain ⟨v1,rfl,s1⟩:=h1
 obtain ⟨v2,rfl,s2⟩:=h2
 obtain rfl:=(show _ = [] from hend)
 subst e2
 subst e1
 subst e0
 exact ⟨v1,v2,rfl,s1,s2⟩
theorem dTaiChoice.mk {y_Class : Int} {y_Costs : (List Int)} {y_Goods : (List Int)} {v1 : V} {v2 : V} (s1 : SlF (dI .i64) y_Costs v1) (s2 : SlF (dI .i64) y_Goods v2) : dTaiChoice.R (⟨y_Class,y_Costs,y_Goods⟩ : TaiChoice) [.p (.int .i64 y_Class),v1,v2]:=⟨[.p (.int .i64 y_Class)],[v1,v2],rfl,rfl,⟨[v1],[v2],rfl,⟨v1,rfl,s1⟩,⟨[v2],[],rfl,⟨v2,rfl,s2⟩,rfl⟩⟩⟩
structure Tz18search where
 l : (List TaiChoice)
 budget : Int
 best : (List Int)
 good : (List Int)
 cost : Int
def Tz18search.tp (x : Tz18search) : ((List TaiChoice) × (Int × ((List Int) × ((List Int) × (Int × Unit))))):=(x.l,(x.budget,(x.best,(x.good,(x.cost,())))))
structure T_knap_search where
 l : (List TaiChoice)
 now : (List Int)
 best : (List Int)
 good : (List Int)
 cost : Int
def T_knap_search.tp (x : T_knap_search) : ((List TaiChoice) × ((List Int) × ((List Int) × ((List Int) × (Int × Unit))))):=(x.l,(x.now,(x.best,(x.good,(x.cost,())))))
end Go.Ev
namespace Go.Ev
open Go.RowKit (Below)
set_option linter.unusedVariables false

theorem SimN.below {ι : Inj} {B : Nat} {w w' : World} {ns : Nodes} (h : SimN ι B w.heap ns) (hb : Below w.heap.size w w') : SimN ι B w'.heap ns:=by
 refine ⟨h.nodup,fun s cs hm p hp => ?_,h.inj,fun b f hf => ?_,h.apart,h.nwb⟩
 ·obtain ⟨a1,c1,e1,a2,a3⟩:=h.lie s cs hm p hp
  exact ⟨a1,c1,e1,by rw [hb.block _ (Array.getElem?_eq_some_iff.1 a2).1]; exact a2,a3⟩
 ·obtain ⟨c,e,fr,k1,k2⟩:=h.frz b f hf
  exact ⟨c,e,fr,by rw [hb.block _ (Array.getElem?_eq_some_iff.1 k1).1]; exact k1,k2⟩
def plainX (t : FuncId→List V→Option Value) : CallF:=fun f _ args h => (t f args).map fun v => ([.v (.p v)],h)
theorem plainX_ok {G : Cfg} {t : FuncId→List V→Option Value}
  (ht : ∀ f args v, t f args = some v → ∃ us : List Value, args = us.map .p ∧ (∃ fn, G.P.funcs[f]? = some fn ∧ (fn.name == "runtime.NumGoroutine") = false ∧ fn.body.isNone = false) ∧
   ∀ w,Calls G.P f us.toArray w fun e w' => e = .returned v∧Below w.heap.size w w') (B : Nat) : CallOk G B (plainX t):=by
 intro f σ args h cs h' hev ι w us hS hargs hf hB
 simp only [plainX,Option.map_eq_some_iff,Prod.mk.injEq] at hev
 obtain ⟨v,hv,rfl,rfl⟩:=hev
 obtain ⟨us0,rfl,hfn,hc⟩:=ht f args v hv
 have e : us = us0.toArray:=by
  apply Array.ext'
  refine List.ext_getElem? fun i => ?_
  simp only
  by_cases hi : i < us0.length
  ·have h1 : (us0.map V.p)[i]? = some (.p us0[i]):=by simp [hi]
   obtain ⟨u,hu,r⟩:=hargs.get h1
   cases r
   rw [hu]; simp [hi]
  ·have:=hargs.length
   simp only [List.length_map] at this
   rw [List.getElem?_eq_none (by omega),List.getElem?_eq_none (by omega)]
 subst e
 refine ⟨hfn,(hc w).mono fun e w' he => ?_⟩
 obtain ⟨rfl,hb⟩:=he
 exact ⟨v,ι,rfl,hS.below hb,⟨fun h d => .p v⟩,.refl _,.refl _ _ _,hb.mono hB⟩

theorem Below.setIter {w : World} {k : Nat} {o : Obj} {B : Nat} (hk : B ≤ k) : Below B w { w with heap:=w.heap.setIfInBounds k o }:=by
 refine ⟨rfl,rfl,rfl,by simp,fun i hi => ?_⟩
 simp only
 rw [Array.getElem?_setIfInBounds_ne (by omega)]
def itAt (w : World) (k : Nat) (s : ByteArray) (pos : Nat) : World:={ w with heap:=w.heap.setIfInBounds k (.stringIter s pos) }
theorem itAt_heap {w : World} {k : Nat} {s : ByteArray} {pos p : Nat} (h : w.heap[k]? = some (.stringIter s p)) : (itAt w k s pos).heap[k]? = some (.stringIter s pos):=by
 have:=(Array.getElem?_eq_some_iff.1 h).1
 simp [itAt,this]
theorem run_next_at {P : Program} {w : World} {k : Nat} {s : ByteArray} {pos : Nat} (hk : w.heap[k]? = some (.stringIter s pos)) (ty : TypeId) (h : pos < s.size) :
  (Instr.next (.pointer (some ⟨k,0,none⟩)) true ty).run P w = .ok (.tuple #[.bool true,.int .i64 pos,.int .i32 (Utf8.decode s pos).1]) (itAt w k s (pos + (Utf8.decode s pos).2)):=by
 simp only [Instr.next,getObj,setObj,Sem.run_bind,Sem.run,hk,Result.andThen,h,if_true]
 simp [goInt,itAt]
theorem run_next_over {P : Program} {w : World} {k : Nat} {s : ByteArray} {pos : Nat} (hk : w.heap[k]? = some (.stringIter s pos)) (ty : TypeId) (h : ¬ pos < s.size) :
  (Instr.next (.pointer (some ⟨k,0,none⟩)) true ty).run P w = .ok (.tuple #[.bool false]) w:=by
 simp [Instr.next,getObj,Sem.run,hk,h]
theorem dec_pos (s : ByteArray) (pos : Nat) (h : pos < s.size) : 1 ≤ (Utf8.decode s pos).2:=by
 by_cases ha : (s[pos]'h).toNat < 128
 ·rw [decode_ascii s pos h ha]
  exact Nat.le_refl _
 ·exact (decode_high s pos h (by omega)).2
def runesF (s : ByteArray) : Nat→Nat→List Int
 | 0,_ => []
 | n + 1,pos => if pos < s.size then ((Utf8.decode s pos).1 : Int)::runesF s n (pos + (Utf8.decode s pos).2) else []
theorem runesF_stable (s : ByteArray) : ∀ (n m pos : Nat),s.size - pos ≤ n→s.size - pos ≤ m→runesF s n pos = runesF s m pos
 | 0,0,_,_,_ => rfl
 | 0,m + 1,pos,h,_ => by
  have : ¬ pos < s.size:=by omega
  simp [runesF,this]
 | n + 1,0,pos,_,h => by
  have : ¬ pos < s.size:=by omega
  simp [runesF,this]
 | n + 1,m + 1,pos,h1,h2 => by
  simp only [runesF]
  split
  ·rename_i hp
   have:=dec_pos s pos hp
   rw [runesF_stable s n m _ (by omega) (by omega)]
  ·rfl
def runes (s : ByteArray) (pos : Nat) : List Int:=runesF s s.size pos
theorem runes_cons {s : ByteArray} {pos : Nat} (h : pos < s.size) : runes s pos = ((Utf8.decode s pos).1 : Int)::runes s (pos + (Utf8.decode s pos).2):=by
 have hw:=dec_pos s pos h
 unfold runes
 rw [runesF_stable s s.size (s.size + 1) pos (by omega) (by omega)]
 simp [runesF,h]
theorem runes_end {s : ByteArray} {pos : Nat} (h : ¬ pos < s.size) : runes s pos = []:=by
 unfold runes
 cases hs : s.size with
 | zero => rfl
 | succ n => simp only [runesF]; rw [if_neg h]
end Go.Ev
namespace Go.RidX
open Go.Ev (runes runes_cons runes_end run_next_at run_next_over itAt itAt_heap dec_pos V)
open Go.Proofs Go.Proofs.Ytceljnchfgimbaa
open Go.RowKit (Below wrap64 Hid)
set_option maxRecDepth 1000000
set_option maxHeartbeats 2000000
set_option linter.unusedSimpArgs false
set_option linter.unusedVariables false
def isRid (r : Int) : Bool:=(decide (r ≥ 97) && decide (r ≤ 122)) || (decide (r ≥ 65) && decide (r ≤ 90)) || (decide (r ≥ 48) && decide (r ≤ 57)) || (r == 45) || (r == 95)
theorem wrap_succ (n : Int) : wrap64 (wrap64 n + 1) = wrap64 (n + 1):=by
 simp only [wrap64]
 omega
def rightB (s : ByteArray) : Bool:=(runes s 0).all isRid && (decide (1 ≤ wrap64 (runes s 0).length) && decide (wrap64 (runes s 0).length ≤ 8))
def countN (s : ByteArray) : Int:=wrap64 (runes s 0).length
theorem rid_one (c : Int) (w : World) : Calls Try.prog 162 #[.int .i32 c] w fun e w' => e = .returned (.bool (isRid c))∧w' = w:=by
 go_enter Try.func162,Try.ntmps162
 go_wp2
 all_goals
  go_ret
  refine ⟨?_,rfl⟩
  simp only [Ending.returned.injEq,Value.bool.injEq,isRid]
  simp [*]
  try grind
theorem rid_Right (s : ByteArray) (w : World) : Calls Try.prog 129 #[.string s] w fun e w' => e = .returned (.bool (rightB s))∧Below w.heap.size w w':=by
 go_enter Try.func129,Try.ntmps129
 go_wp2
 go_loopw [3] (fun n wr => ∃ (pos : Nat) (pre : List Int) (c : Int),wr.heap[w.heap.size]? = some (.stringIter s pos)∧Below w.heap.size w wr∧n = .int .i64 c∧c = wrap64 (pre.length : Int)∧pre.all isRid = true∧runes s 0 = pre ++ runes s pos) (fun _ wr => s.size - wr.iterPos w.heap.size)
 case atStart => exact ⟨0,[],0,by simp [World.iter_heap],(Below.refl _ w).alloc (Nat.le_refl _) _,rfl,by simp [wrap64],rfl,rfl⟩
 case round =>
  obtain ⟨pos,pre,c,hk,hb,rfl,hc,hall,hrs⟩:=hrel
  by_cases hp : pos < s.size
  ·have hnx : ∀ ty,(Instr.next (.pointer (some ⟨w.heap.size,0,none⟩)) true ty).run Try.prog wr = _:=fun ty => run_next_at hk ty hp
   have hk1:=itAt_heap (pos:=pos + (Utf8.decode s pos).2) hk
   have hb1 : Below w.heap.size w (itAt wr w.heap.size s (pos + (Utf8.decode s pos).2)):=hb.trans (Go.Ev.Below.setIter (Nat.le_refl _))
   have hwd:=dec_pos s pos hp
   have hmu : wr.iterPos w.heap.size = pos:=by simp [World.iterPos,hk]
   have hmu2 : (itAt wr w.heap.size s (pos + (Utf8.decode s pos).2)).iterPos w.heap.size = pos + (Utf8.decode s pos).2:=by simp [World.iterPos,hk1]
   rw [runes_cons hp] at hrs
   have k1 : ∀ {b : Bool},isRid ↑(Utf8.decode s pos).fst = b→b = false→(runes s 0).all isRid = false:=fun e1 e2 => by
    rw [hrs,List.all_append,List.all_cons,e1,e2]
    simp
   have k2 : ∀ {b : Bool},isRid ↑(Utf8.decode s pos).fst = b→b = true→(pre ++ [((Utf8.decode s pos).1 : Int)]).all isRid = true:=fun e1 e2 => by
    rw [List.all_append,List.all_cons,e1,e2,hall]
    rfl
   have k3 : Hid (wrap64 (c + 1) = wrap64 ((pre ++ [((Utf8.decode s pos).1 : Int)]).length : Int)):=by
    unfold Hid
    rw [hc,wrap_succ,List.length_append]; rfl
   have k4 : Hid (runes s 0 = (pre ++ [((Utf8.decode s pos).1 : Int)]) ++ runes s (pos + (Utf8.decode s pos).2)):=by unfold Hid; rw [hrs]; simp
   clear hrs hall hc
   go_wp2_with (go_at_call 162; refine (rid_one _ _).mono ?_; rintro e W2 ⟨rfl,rfl⟩)
   ·rename_i hone
    have k5 : rightB s = false:=by unfold rightB; rw [k1 rfl (by simpa using hone)]; rfl
    clear hone k1 k2 k3 k4
    go_ret
    rw [k5]
    exact ⟨rfl,hb1⟩
   ·rename_i hone
    have k5:=k2 rfl (by simpa using hone)
    clear hone k1 k2
    go_roundw
    case rel => exact ⟨_,pre ++ [((Utf8.decode s pos).1 : Int)],_,hk1,hb1,rfl,k3.out,k5,k4.out⟩
    case measure =>
     rw [hmu,hmu2]
     omega
  ·have hnx : ∀ ty,(Instr.next (.pointer (some ⟨w.heap.size,0,none⟩)) true ty).run Try.prog wr = _:=fun ty => run_next_over hk ty hp
   rw [runes_end hp,List.append_nil] at hrs
   have k1 : ∀ {b : Bool},decide (c ≤ 8) = b→1 ≤ c→rightB s = b:=fun e1 e2 => by
    unfold rightB
    rw [hrs,hall,← hc,e1]; simp [e2]
   have k2 : c < 1→rightB s = false:=fun e2 => by
    unfold rightB
    rw [hrs,hall,← hc]; simp; omega
   clear hrs hall hc
   go_wp2
   ·rename_i h1
    have k5:=k1 rfl h1
    go_ret
    rw [k5]
    exact ⟨rfl,hb⟩
   ·rename_i h1
    have k5:=k2 (by omega)
    go_ret
    exact ⟨rfl,hb⟩
theorem ref_Count (s : ByteArray) (w : World) : Calls Try.prog 181 #[.string s] w fun e w' => e = .returned (.int .i64 (countN s))∧Below w.heap.size w w':=by
 go_enter Try.func181,Try.ntmps181
 go_wp2
 go_loopw [3] (fun n wr => ∃ (pos : Nat) (pre : List Int) (c : Int),wr.heap[w.heap.size]? = some (.stringIter s pos)∧Below w.heap.size w wr∧n = .int .i64 c∧c = wrap64 (pre.length : Int)∧runes s 0 = pre ++ runes s pos) (fun _ wr => s.size - wr.iterPos w.heap.size)
 case atStart => exact ⟨0,[],0,by simp [World.iter_heap],(Below.refl _ w).alloc (Nat.le_refl _) _,rfl,by simp [wrap64],rfl⟩
 case round =>
  obtain ⟨pos,pre,c,hk,hb,rfl,hc,hrs⟩:=hrel
  by_cases hp : pos < s.size
  ·have hnx : ∀ ty,(Instr.next (.pointer (some ⟨w.heap.size,0,none⟩)) true ty).run Try.prog wr = _:=fun ty => run_next_at hk ty hp
   have hk1:=itAt_heap (pos:=pos + (Utf8.decode s pos).2) hk
   have hb1 : Below w.heap.size w (itAt wr w.heap.size s (pos + (Utf8.decode s pos).2)):=hb.trans (Go.Ev.Below.setIter (Nat.le_refl _))
   have hwd:=dec_pos s pos hp
   have hmu : wr.iterPos w.heap.size = pos:=by simp [World.iterPos,hk]
   have hmu2 : (itAt wr w.heap.size s (pos + (Utf8.decode s pos).2)).iterPos w.heap.size = pos + (Utf8.decode s pos).2:=by simp [World.iterPos,hk1]
   rw [runes_cons hp] at hrs
   have k3 : Hid (wrap64 (c + 1) = wrap64 ((pre ++ [((Utf8.decode s pos).1 : Int)]).length : Int)):=by
    unfold Hid
    rw [hc,wrap_succ,List.length_append]; rfl
   have k4 : Hid (runes s 0 = (pre ++ [((Utf8.decode s pos).1 : Int)]) ++ runes s (pos + (Utf8.decode s pos).2)):=by unfold Hid; rw [hrs]; simp
   clear hrs hc
   go_wp2
   go_roundw
   case rel => exact ⟨_,pre ++ [((Utf8.decode s pos).1 : Int)],_,hk1,hb1,rfl,k3.out,k4.out⟩
   case measure =>
    rw [hmu,hmu2]
    omega
  ·have hnx : ∀ ty,(Instr.next (.pointer (some ⟨w.heap.size,0,none⟩)) true ty).run Try.prog wr = _:=fun ty => run_next_over hk ty hp
   rw [runes_end hp,List.append_nil] at hrs
   have k1 : Hid (countN s = c):=by unfold Hid countN; rw [hrs,hc]
   clear hrs hc
   go_wp2
   go_ret
   rw [k1.out]
   exact ⟨rfl,hb⟩
theorem ref_Count' (s : ByteArray) (w : World) {n : Int} (hn : countN s = n) : Calls Try.prog 181 #[.string s] w fun e w' => e = .returned (.int .i64 n)∧Below w.heap.size w w':=by
 subst hn; exact ref_Count s w
theorem ref_letter (c : Int) (w : World) : Calls Try.prog 180 #[.int .i32 c] w fun e w' => e = .returned (.bool (isRid c))∧w' = w:=by
 go_enter Try.func180,Try.ntmps180
 go_wp2
 all_goals
  go_ret
  refine ⟨?_,rfl⟩
  simp only [Ending.returned.injEq,Value.bool.injEq,isRid]
  simp [*]
  try grind
theorem ref_Rid (s : ByteArray) (w : World) : Calls Try.prog 174 #[.string s] w fun e w' => e = .returned (.bool (rightB s))∧Below w.heap.size w w':=by
 go_enter Try.func174,Try.ntmps174
 go_wp2
 go_loopw [] (fun  wr => ∃ (pos : Nat) (pre : List Int),wr.heap[w.heap.size]? = some (.stringIter s pos)∧Below w.heap.size w wr∧pre.all isRid = true∧runes s 0 = pre ++ runes s pos) (fun  wr => s.size - wr.iterPos w.heap.size)
 case atStart => exact ⟨0,[],by simp [World.iter_heap],(Below.refl _ w).alloc (Nat.le_refl _) _,rfl,rfl⟩
 case round =>
  obtain ⟨pos,pre,hk,hb,hall,hrs⟩:=hrel
  by_cases hp : pos < s.size
  ·have hnx : ∀ ty,(Instr.next (.pointer (some ⟨w.heap.size,0,none⟩)) true ty).run Try.prog wr = _:=fun ty => run_next_at hk ty hp
   have hk1:=itAt_heap (pos:=pos + (Utf8.decode s pos).2) hk
   have hb1 : Below w.heap.size w (itAt wr w.heap.size s (pos + (Utf8.decode s pos).2)):=hb.trans (Go.Ev.Below.setIter (Nat.le_refl _))
   have hwd:=dec_pos s pos hp
   have hmu : wr.iterPos w.heap.size = pos:=by simp [World.iterPos,hk]
   have hmu2 : (itAt wr w.heap.size s (pos + (Utf8.decode s pos).2)).iterPos w.heap.size = pos + (Utf8.decode s pos).2:=by simp [World.iterPos,hk1]
   rw [runes_cons hp] at hrs
   have k1 : ∀ {b : Bool},isRid ↑(Utf8.decode s pos).fst = b→b = false→(runes s 0).all isRid = false:=fun e1 e2 => by
    rw [hrs,List.all_append,List.all_cons,e1,e2]
    simp
   have k2 : ∀ {b : Bool},isRid ↑(Utf8.decode s pos).fst = b→b = true→(pre ++ [((Utf8.decode s pos).1 : Int)]).all isRid = true:=fun e1 e2 => by
    rw [List.all_append,List.all_cons,e1,e2,hall]
    rfl
   have k4 : Hid (runes s 0 = (pre ++ [((Utf8.decode s pos).1 : Int)]) ++ runes s (pos + (Utf8.decode s pos).2)):=by unfold Hid; rw [hrs]; simp
   clear hrs hall
   go_wp2_with (go_at_call 180; refine (ref_letter _ _).mono ?_; rintro e W2 ⟨rfl,rfl⟩)
   ·rename_i hone
    have k5 : rightB s = false:=by unfold rightB; rw [k1 rfl (by simpa using hone)]; rfl
    clear hone k1 k2 k4
    go_ret
    rw [k5]
    exact ⟨rfl,hb1⟩
   ·rename_i hone
    have k5:=k2 rfl (by simpa using hone)
    clear hone k1 k2
    go_roundw
    case rel => exact ⟨_,pre ++ [((Utf8.decode s pos).1 : Int)],hk1,hb1,k5,k4.out⟩
    case measure =>
     rw [hmu,hmu2]
     omega
  ·have hnx : ∀ ty,(Instr.next (.pointer (some ⟨w.heap.size,0,none⟩)) true ty).run Try.prog wr = _:=fun ty => run_next_over hk ty hp
   rw [runes_end hp,List.append_nil] at hrs
   obtain ⟨n,hn⟩ : ∃ n,countN s = n:=⟨_,rfl⟩
   have k1 : ∀ {b : Bool},decide (n ≤ 8) = b→1 ≤ n→rightB s = b:=fun e1 e2 => by
    unfold rightB
    rw [hrs,hall,← hrs,show wrap64 ((runes s 0).length : Int) = n from hn,e1]; simp [e2]
   have k2 : n < 1→rightB s = false:=fun e2 => by
    unfold rightB
    rw [hrs,hall,← hrs,show wrap64 ((runes s 0).length : Int) = n from hn]; simp; omega
   have hn' : Hid (countN s = n):=hn
   clear hrs hall hn
   go_wp2_with (go_at_call 181; refine (ref_Count' _ _ hn'.out).mono ?_; rintro e W2 ⟨rfl,hB⟩)
   ·rename_i hB0 h1
    have k5:=k1 rfl h1
    go_ret
    rw [k5]
    exact ⟨rfl,hb.trans ((hB0.mono hb.size).trans (hB.mono (Nat.le_trans hb.size hB0.size)))⟩
   ·rename_i h1
    have k5:=k2 (by omega)
    go_ret
    exact ⟨rfl,hb.trans (hB.mono hb.size)⟩
def lowR (r : Int) : Int:=if 65 ≤ r∧r ≤ 90 then r + 32 else r
def foldS (l : List Int) : ByteArray:=l.foldl (fun a r => a ++ Utf8.encode (lowR r)) ByteArray.empty
theorem foldS_snoc (l : List Int) (r : Int) : foldS (l ++ [r]) = foldS l ++ Utf8.encode (lowR r):=by simp [foldS]
theorem enc_le (r : Int) : (Utf8.encode r).size ≤ 4:=by
 simp only [Utf8.encode]
 generalize (if Utf8.valid r = true then r.toNat else Utf8.runeError) = c
 split
 ·simp [ByteArray.size]
 ·split
  ·simp [ByteArray.size]
  ·split <;> simp [ByteArray.size]
theorem dec_le4 (s : ByteArray) (pos : Nat) : (Utf8.decode s pos).2 ≤ 4:=by
 simp only [Utf8.decode]
 repeat' split
 all_goals simp
def foldB (s : ByteArray) : ByteArray:=foldS (runes s 0)
theorem ref_Fold (s : ByteArray) (hs : s.size < 2 ^ 40) (w : World) : Calls Try.prog 175 #[.string s] w fun e w' => e = .returned (.string (foldB s))∧Below w.heap.size w w':=by
 go_enter Try.func175,Try.ntmps175
 go_wp2
 go_loopw [3] (fun n wr => ∃ (pos : Nat) (pre : List Int) (c : ByteArray),wr.heap[w.heap.size]? = some (.stringIter s pos)∧Below w.heap.size w wr∧n = .string c∧c = foldS pre∧c.size ≤ 4 * pre.length∧pre.length ≤ pos∧pos ≤ s.size + 3∧runes s 0 = pre ++ runes s pos) (fun _ wr => s.size - wr.iterPos w.heap.size)
 case atStart => exact ⟨0,[],ByteArray.empty,by simp [World.iter_heap],(Below.refl _ w).alloc (Nat.le_refl _) _,rfl,rfl,by simp,by simp,by simp,rfl⟩
 case round =>
  obtain ⟨pos,pre,c,hk,hb,rfl,hc,hsz,hpl,hps,hrs⟩:=hrel
  by_cases hp : pos < s.size
  ·have hnx : ∀ ty,(Instr.next (.pointer (some ⟨w.heap.size,0,none⟩)) true ty).run Try.prog wr = _:=fun ty => run_next_at hk ty hp
   have hk1:=itAt_heap (pos:=pos + (Utf8.decode s pos).2) hk
   have hb1 : Below w.heap.size w (itAt wr w.heap.size s (pos + (Utf8.decode s pos).2)):=hb.trans (Go.Ev.Below.setIter (Nat.le_refl _))
   have hwd:=dec_pos s pos hp
   have hmu : wr.iterPos w.heap.size = pos:=by simp [World.iterPos,hk]
   have hmu2 : (itAt wr w.heap.size s (pos + (Utf8.decode s pos).2)).iterPos w.heap.size = pos + (Utf8.decode s pos).2:=by simp [World.iterPos,hk1]
   rw [runes_cons hp] at hrs
   have hw4:=dec_le4 s pos
   obtain ⟨r,hr⟩ : ∃ r : Int,r = ((Utf8.decode s pos).1 : Int):=⟨_,rfl⟩
   rw [← hr] at hnx hrs
   have k4 : Hid (runes s 0 = (pre ++ [r]) ++ runes s (pos + (Utf8.decode s pos).2)):=by unfold Hid; rw [hrs]; simp
   have k5 : ∀ {x : Int},9223372036854775807 < c.size + (Utf8.encode x).size→False:=fun {x} h => by
    have:=enc_le x; omega
   have k7 : ∀ {x : Int},x = lowR r→Hid (c ++ Utf8.encode x = foldS (pre ++ [r])∧(c ++ Utf8.encode x).size ≤ 4 * (pre ++ [r]).length):=fun {x} e => by
    have:=enc_le x
    refine ⟨by rw [foldS_snoc,← hc,e],?_⟩
    rw [ByteArray.size_append,List.length_append]
    simp only [List.length_cons,List.length_nil]
    omega
   have k8 : (pre ++ [r]).length ≤ pos + (Utf8.decode s pos).2:=by rw [List.length_append]; simp only [List.length_cons,List.length_nil]; omega
   have k9 : pos + (Utf8.decode s pos).2 ≤ s.size + 3:=by omega
   clear hrs hc hr
   go_wp2
   ·exact (k5 (by assumption)).elim
   ·have k6:=k7 (x:=r - 65 + 97) (by unfold lowR; rw [if_pos ⟨by assumption,by assumption⟩]; omega)
    go_roundw
    case rel => exact ⟨_,pre ++ [r],_,hk1,hb1,rfl,k6.out.1,k6.out.2,k8,k9,k4.out⟩
    case measure =>
     rw [hmu,hmu2]
     omega
   ·exact (k5 (by assumption)).elim
   ·rename_i h1 h2 _
    have k6:=k7 (x:=r) (by unfold lowR; rw [if_neg (by omega)])
    go_roundw
    case rel => exact ⟨_,pre ++ [r],_,hk1,hb1,rfl,k6.out.1,k6.out.2,k8,k9,k4.out⟩
    case measure =>
     rw [hmu,hmu2]
     omega
   ·exact (k5 (by assumption)).elim
   ·rename_i h1 _
    have k6:=k7 (x:=r) (by unfold lowR; rw [if_neg (by omega)])
    go_roundw
    case rel => exact ⟨_,pre ++ [r],_,hk1,hb1,rfl,k6.out.1,k6.out.2,k8,k9,k4.out⟩
    case measure =>
     rw [hmu,hmu2]
     omega
  ·have hnx : ∀ ty,(Instr.next (.pointer (some ⟨w.heap.size,0,none⟩)) true ty).run Try.prog wr = _:=fun ty => run_next_over hk ty hp
   rw [runes_end hp,List.append_nil] at hrs
   have k1 : Hid (foldB s = c):=by unfold Hid foldB; rw [hrs,hc]
   clear hrs hc
   go_wp2
   go_ret
   rw [k1.out]
   exact ⟨rfl,hb⟩
theorem app1 {P : Program} {ops : Array Oper} {rest : List Oper} {o : Oper} {a : Act} {Q : Exit→Act→World→Prop} {w1 : World} (hgd : o.guard = none) (s x : Operand) (t : TypeId)
  (ho : o.op = .call { callee:=.builtin .append,args:=#[s,x],argTypes:=#[t,t] }) (base : Nat) (e : TypeId) (i : TypeInfo) (ht : P.underlying t = some (.slice e)) (hi : P.info? e = some i) (hz : i.zero = some (.int .i32 0))
  (hsize : i.size = 1) (hby : i.bytes = 4) {v : Value} (n : Nat) (xs : List Value) (hs : a.eval s = v) (hown : w1.ownsRow base e 1 v n xs) {r : Int} {e' : TypeId}
  (hx : a.eval x = .slice (some ⟨w1.heap.size,0,none⟩) 1 1) (hn : n < 2 ^ 44) (hbase : base ≤ w1.heap.size)
  (h : ∀ v' w',w'.ownsRow base e 1 v' (n + 1) (xs ++ [.int .i32 r])→(w1.alloc (.cells #[.int .i32 r] e')).grownBy w' v.ownBlock→wpList P ops Q rest (a.put o.dst v') w') : wpList P ops Q (o::rest) a (w1.alloc (.cells #[.int .i32 r] e')):=by
 refine wpList_append_own _ hgd s x t ho base e i (.int .i32 0) 1 4 ht hi hz hsize hby rfl (by decide) v n xs hs (hown.alloc _) ⟨w1.heap.size,0,none⟩ 1 1 [.int .i32 r] hx rfl ?_ ?_ (by unfold maxLen; omega) (by omega) ?_ fun v' w' h1 h2 _ => h v' w' h1 h2
 ·intro j u hj; match j,hj with | 0,hj => simp at hj; subst hj; simp [Addr.add]
 ·intro u hu; simp at hu; subst hu; rfl
 ·exact Nat.le_trans hbase (by show _ ≤ (w1.heap.push _).size; rw [Array.size_push]; omega)
theorem ownsRow_it {w : World} {base e k : Nat} {v : Value} {n : Nat} {xs : List Value} {s : ByteArray} {pos : Nat} (h : w.ownsRow base e 1 v n xs) (hk : k < base) : (itAt w k s pos).ownsRow base e 1 v n xs:=by
 obtain ⟨h1,h2 | ⟨g,cap,cur,h2,h3,h4,h5⟩⟩:=h
 ·exact ⟨h1,.inl h2⟩
 ·refine ⟨h1,.inr ⟨g,cap,cur,h2,h3,?_,h5⟩⟩
  simp only [itAt]
  rw [Array.getElem?_setIfInBounds_ne (by omega)]; exact h4
theorem fold_conv {P : Program} {w : World} {base e src dst : Nat} {v : Value} {n : Nat} {ns : List Int} (h : w.ownsRow base e 1 v n (ns.map (Value.int .i32))) (hs : P.underlying src = some (.slice e)) (he : P.underlying e = some (.int .i32)) (hd : P.underlying dst = some .string) :
  (convert src dst v).run P w = .ok (.string (runesBytes ns)) w:=by
 have h0:=h
 obtain ⟨h1,⟨rfl,rfl⟩ | ⟨g,cap,cur,rfl,h3,h4,h5,h6,h7,h8⟩⟩:=h
 ·have : ns = []:=by simpa using h1
  subst this
  exact run_convert_runes_nil w src dst e 0 0 hs he hd
 ·have hl : n = ns.length:=by simpa using h1.symm
  subst hl
  have:=run_convert_runes (P:=P) w src dst e ⟨g,0,none⟩ ns.length cap ns (Nat.le_refl _) hs he hd (fun j hj => h0.cells (g:=g) rfl j _ (by simp [List.getD,List.getElem?_eq_getElem hj]))
  rw [List.take_of_length_le (Nat.le_refl _)] at this
  exact this
theorem foldS_bytes (l : List Int) : runesBytes (l.map lowR) = foldS l:=by
 unfold runesBytes foldS; rw [List.foldl_map]
theorem fold_step {w W1 w' : World} {s : ByteArray} {pos e : Nat} {v : Value} {n : Nat} {xs : List Value} {o : Obj} (hk1 : W1.heap[w.heap.size]? = some (.stringIter s pos)) (hb1 : Below w.heap.size w W1) (how1 : W1.ownsRow (w.heap.size + 1) e 1 v n xs)
  (hg : (W1.alloc o).grownBy w' v.ownBlock) : w'.heap[w.heap.size]? = some (.stringIter s pos)∧Below w.heap.size w w':=by
 have hlt:=(Array.getElem?_eq_some_iff.1 hk1).1
 have hsz : (W1.alloc o).heap.size = W1.heap.size + 1:=by show (W1.heap.push o).size = _; simp
 refine ⟨?_,(hb1.alloc hb1.size o).grown hg (by have:=hb1.size; omega) fun k hk => ?_⟩
 ·rw [hg.block _ (by omega) (fun e => by have:=(how1.lt _ e.symm).1; omega),Below.heap_alloc _ _ _ hlt]
  exact hk1
 ·have:=(how1.lt _ hk).1; omega
theorem map_snoc (pre : List Int) (r x : Int) (h : x = lowR r) : (pre.map lowR).map (Value.int .i32) ++ [Value.int .i32 x] = ((pre ++ [r]).map lowR).map (Value.int .i32):=by
 subst h; simp
theorem rid_Fold (s : ByteArray) (hs : s.size < 2 ^ 40) (w : World) : Calls Try.prog 164 #[.string s] w fun e w' => e = .returned (.string (foldB s))∧Below w.heap.size w w':=by
 obtain ⟨i0,hi,hz0,hz1,hz2⟩:=info_parts (show (Try.prog.info? 21).map (fun i => (i.zero,i.size,i.bytes)) = some (some (.int .i32 0),1,4) from by kernel_rfl)
 go_enter Try.func164,Try.ntmps164
 go_wp2
 go_loopw [3] (fun v wr => ∃ (pos : Nat) (pre : List Int),wr.heap[w.heap.size]? = some (.stringIter s pos)∧Below w.heap.size w wr∧wr.ownsRow (w.heap.size + 1) 21 1 v pre.length ((pre.map lowR).map (Value.int .i32))∧pre.length ≤ pos∧pos ≤ s.size + 3∧runes s 0 = pre ++ runes s pos) (fun _ wr => s.size - wr.iterPos w.heap.size)
 case atStart => exact ⟨0,[],by simp [World.iter_heap],(Below.refl _ w).alloc (Nat.le_refl _) _,World.ownsRow_nil ..,by simp,by simp,rfl⟩
 case round =>
  obtain ⟨pos,pre,hk,hb,how,hpl,hps,hrs⟩:=hrel
  by_cases hp : pos < s.size
  ·have hnx : ∀ ty,(Instr.next (.pointer (some ⟨w.heap.size,0,none⟩)) true ty).run Try.prog wr = _:=fun ty => run_next_at hk ty hp
   have hk1:=itAt_heap (pos:=pos + (Utf8.decode s pos).2) hk
   have hb1 : Below w.heap.size w (itAt wr w.heap.size s (pos + (Utf8.decode s pos).2)):=hb.trans (Go.Ev.Below.setIter (Nat.le_refl _))
   have how1:=ownsRow_it (s:=s) (pos:=pos + (Utf8.decode s pos).2) how (Nat.lt_succ_self _)
   have hwd:=dec_pos s pos hp
   have hmu : wr.iterPos w.heap.size = pos:=by simp [World.iterPos,hk]
   rw [runes_cons hp] at hrs
   have hw4:=dec_le4 s pos
   obtain ⟨r,hr⟩ : ∃ r : Int,r = ((Utf8.decode s pos).1 : Int):=⟨_,rfl⟩
   rw [← hr] at hnx hrs
   have k4 : Hid (runes s 0 = (pre ++ [r]) ++ runes s (pos + (Utf8.decode s pos).2)):=by unfold Hid; rw [hrs]; simp
   have k8 : (pre ++ [r]).length ≤ pos + (Utf8.decode s pos).2:=by rw [List.length_append]; simp only [List.length_cons,List.length_nil]; omega
   have k9 : pos + (Utf8.decode s pos).2 ≤ s.size + 3:=by omega
   have hn44 : pre.length < 2 ^ 44:=by omega
   have hW1 : w.heap.size + 1 ≤ (itAt wr w.heap.size s (pos + (Utf8.decode s pos).2)).heap.size:=(Array.getElem?_eq_some_iff.1 hk1).1
   clear hrs hr how hk hb
   generalize itAt wr w.heap.size s (pos + (Utf8.decode s pos).2) = W1 at hnx hk1 hb1 how1 hW1
   go_wp2_with (first | (at_builtin; refine app1 rfl (.tmp 19) (.tmp 21) 233 rfl (w.heap.size + 1) 21 i0 Try.underlying233 hi hz0 hz1 hz2 pre.length _ rfl how1 rfl hn44 hW1 ?_) | go_in)
   ·have e1 : r + 32 = lowR r:=by unfold lowR; rw [if_pos ⟨by assumption,by assumption⟩]
    intro v' w' hown hgrow
    obtain ⟨hk2,hb2⟩:=fold_step hk1 hb1 how1 hgrow
    have hmu3 : w'.iterPos w.heap.size = pos + (Utf8.decode s pos).2:=by simp [World.iterPos,hk2]
    have hown2 : w'.ownsRow (w.heap.size + 1) 21 1 v' (pre ++ [r]).length (((pre ++ [r]).map lowR).map (Value.int .i32)):=by
     rw [← map_snoc pre r _ e1,List.length_append]
     simpa using hown
    clear hown hgrow hk1 hb1 how1 e1
    go_wp2
    go_roundw
    case rel => exact ⟨_,pre ++ [r],hk2,hb2,hown2,k8,k9,k4.out⟩
    case measure =>
     rw [hmu,hmu3]
     omega
   ·rename_i h1 h2
    have e1 : r = lowR r:=by unfold lowR; rw [if_neg (by omega)]
    intro v' w' hown hgrow
    obtain ⟨hk2,hb2⟩:=fold_step hk1 hb1 how1 hgrow
    have hmu3 : w'.iterPos w.heap.size = pos + (Utf8.decode s pos).2:=by simp [World.iterPos,hk2]
    have hown2 : w'.ownsRow (w.heap.size + 1) 21 1 v' (pre ++ [r]).length (((pre ++ [r]).map lowR).map (Value.int .i32)):=by
     rw [← map_snoc pre r _ e1,List.length_append]
     simpa using hown
    clear hown hgrow hk1 hb1 how1 e1
    go_wp2
    go_roundw
    case rel => exact ⟨_,pre ++ [r],hk2,hb2,hown2,k8,k9,k4.out⟩
    case measure =>
     rw [hmu,hmu3]
     omega
   ·rename_i h1
    have e1 : r = lowR r:=by unfold lowR; rw [if_neg (by omega)]
    intro v' w' hown hgrow
    obtain ⟨hk2,hb2⟩:=fold_step hk1 hb1 how1 hgrow
    have hmu3 : w'.iterPos w.heap.size = pos + (Utf8.decode s pos).2:=by simp [World.iterPos,hk2]
    have hown2 : w'.ownsRow (w.heap.size + 1) 21 1 v' (pre ++ [r]).length (((pre ++ [r]).map lowR).map (Value.int .i32)):=by
     rw [← map_snoc pre r _ e1,List.length_append]
     simpa using hown
    clear hown hgrow hk1 hb1 how1 e1
    go_wp2
    go_roundw
    case rel => exact ⟨_,pre ++ [r],hk2,hb2,hown2,k8,k9,k4.out⟩
    case measure =>
     rw [hmu,hmu3]
     omega
  ·have hnx : ∀ ty,(Instr.next (.pointer (some ⟨w.heap.size,0,none⟩)) true ty).run Try.prog wr = _:=fun ty => run_next_over hk ty hp
   rw [runes_end hp,List.append_nil] at hrs
   have hcv:=fold_conv (P:=Try.prog) (src:=233) (dst:=9) how Try.underlying233 Try.underlying21 Try.underlying9
   rw [foldS_bytes,← hrs,show foldS (runes s 0) = foldB s from rfl] at hcv
   clear hrs how
   go_wp2
   go_ret
   exact ⟨rfl,hb⟩
end Go.RidX
namespace Go.Ev
open Go.Proofs
def ownT : TypeId→Bool:=fun t => [76,96,136,186].contains t
def frzF : FuncId→Bool:=fun f => [32].contains f
def frzIn : FuncId→Bool:=fun f => [].contains f
def frzMk : TypeId→Bool:=fun t => [].contains t
noncomputable def G : Cfg:=⟨Try.prog,ownT,frzF,frzIn,frzMk⟩
noncomputable def XT (f : FuncId) (args : List V) : Option Value :=
 if f = 129 then (match args with | [.p (.string s)] => some (.bool (RidX.rightB s)) | _ => none) else
 if f = 181 then (match args with | [.p (.string s)] => some (.int .i64 (RidX.countN s)) | _ => none) else
 if f = 174 then (match args with | [.p (.string s)] => some (.bool (RidX.rightB s)) | _ => none) else
 if f = 175 then (match args with | [.p (.string s)] => if s.size < 2 ^ 40 then some (.string (RidX.foldB s)) else none | _ => none) else
 if f = 164 then (match args with | [.p (.string s)] => if s.size < 2 ^ 40 then some (.string (RidX.foldB s)) else none | _ => none) else
 none
noncomputable def X0 : CallF:=plainX XT
theorem x_ok (B : Nat) : CallOk G B X0:=plainX_ok (fun f args v h => by
 unfold XT at h
 split at h
 ·rename_i hf; subst hf
  split at h
  ·rename_i s; cases h
   exact ⟨[.string s],rfl,⟨Try.f129,Try.func129,by kernel_rfl,by kernel_rfl⟩,fun w => RidX.rid_Right s w⟩
  ·cases h
 split at h
 ·rename_i hf; subst hf
  split at h
  ·rename_i s; cases h
   exact ⟨[.string s],rfl,⟨Try.f181,Try.func181,by kernel_rfl,by kernel_rfl⟩,fun w => RidX.ref_Count s w⟩
  ·cases h
 split at h
 ·rename_i hf; subst hf
  split at h
  ·rename_i s; cases h
   exact ⟨[.string s],rfl,⟨Try.f174,Try.func174,by kernel_rfl,by kernel_rfl⟩,fun w => RidX.ref_Rid s w⟩
  ·cases h
 split at h
 ·rename_i hf; subst hf
  split at h
  ·rename_i s; split at h
   ·rename_i hs; cases h
    exact ⟨[.string s],rfl,⟨Try.f175,Try.func175,by kernel_rfl,by kernel_rfl⟩,fun w => RidX.ref_Fold s hs w⟩
   ·cases h
  ·cases h
 split at h
 ·rename_i hf; subst hf
  split at h
  ·rename_i s; split at h
   ·rename_i hs; cases h
    exact ⟨[.string s],rfl,⟨Try.f164,Try.func164,by kernel_rfl,by kernel_rfl⟩,fun w => RidX.rid_Fold s hs w⟩
   ·cases h
  ·cases h
 cases h) B
theorem mixed : G.P.follows .mixedOrders = true:=by kernel_rfl
end Go.Ev
namespace Go.Ev
open Go.Proofs
set_option linter.unusedVariables false
set_option linter.unusedSimpArgs false
set_option maxRecDepth 100000
noncomputable section
abbrev KT1:=Exit→Env→H→Option (List C × H)
variable (rec : CallF) (loop : LoopV) (σ : Stamp)
def knap_Fits_c0 : Code:=(codeAt (bodyOf Try.f73) [1,1,0,1,0,0])
def knap_Fits_l0 : Lv:=⟨7,64,[(0,7)]⟩
def knap_Fits_k0 : KT1:=(kBlock 0 (kSeq G rec loop (codeAt (bodyOf Try.f73) [1,1,1]) ⟨64,64,[]⟩ (1::1::0::σ) (finC G false Try.f73 (1::σ))))
theorem knap_Fits_entry (x0 : V) (x1 : V) (x2 : Int) (h : H) : cvBody G rec loop 73 σ [x0,x1,(.p (.int .i64 x2))] h =
(lenO x0).bind fun t1 =>
(castI .i64 t1).bind fun n2 =>
(lenO x1).bind fun t3 =>
(castI .i64 t3).bind fun n4 =>
bif n2 != n4 then (
fin false σ (List.replicate 34 []::h) [(.p (.bool false))])
else (
(lenO x1).bind fun t5 =>
(castI .i64 t5).bind fun n6 =>
(loop knap_Fits_c0 knap_Fits_l0 (1::0::1::1::0::σ) (envL [(0,x0),(1,x1),(2,(.p (.int .i64 x2))),(14,x1),(15,(.p (.int .i64 n6))),(16,(.p (.int .i64 0)))]) (List.replicate 34 []::h)).bind fun r7 => knap_Fits_k0 rec loop σ r7.1 r7.2.1 r7.2.2):=by kernel_rfl
theorem knap_Fits_r0 (x0 : V) (x1 : V) (x2 : Int) (x14 : V) (x15 : Int) (x16 : Int) (h : H) : cvRound G rec loop knap_Fits_c0 knap_Fits_l0 σ (envL [(0,x0),(1,x1),(2,(.p (.int .i64 x2))),(14,x14),(15,(.p (.int .i64 x15))),(16,(.p (.int .i64 x16)))]) h =
bif decide (x16 < x15) then (
(iS 1 x14 x16).bind fun t8 =>
(ldO false 1 h t8).bind fun t9 =>
(castI .i64 t9).bind fun n10 =>
(iS 3 x0 x16).bind fun t11 =>
(ldO true 3 h t11).bind fun t12 =>
(callO rec 124 (5::0::1::0::1::1::0::σ) [t12,(.p (.int .i64 n10))] h (some 26)).bind fun q13 =>
(asB q13.1).bind fun b14 =>
bif !b14 then (
some (.ret,(envL [(6,(.p (.bool false)))]),q13.2))
else (
loop knap_Fits_c0 knap_Fits_l0 (1::σ) (envL [(0,x0),(1,x1),(2,(.p (.int .i64 x2))),(14,x14),(15,(.p (.int .i64 x15))),(16,(.p (.int .i64 (IntKind.wrap .i64 (x16 + 1)))))]) q13.2))
else (
some ((.exit 0),(envL [(0,x0),(1,x1),(2,(.p (.int .i64 x2)))]),h)):=by kernel_rfl
theorem knap_Fits_a0_0 (x0 : V) (x1 : V) (x2 : Int) (h : H) : knap_Fits_k0 rec loop σ (.exit 0) (envL [(0,x0),(1,x1),(2,(.p (.int .i64 x2)))]) h =
(callO rec 75 (2::0::1::1::1::0::σ) [x0,x1] h (some 31)).bind fun q15 =>
(castI .i64 q15.1).bind fun n16 =>
fin false σ q15.2 [(.p (.bool (decide (n16 ≤ x2))))]:=by kernel_rfl
theorem knap_Fits_a0_ret (x6 : Bool) (h : H) : knap_Fits_k0 rec loop σ .ret (envL [(6,(.p (.bool x6)))]) h =
fin false σ h [(.p (.bool x6))]:=by kernel_rfl
def knap_Cost_c0 : Code:=(codeAt (bodyOf Try.f75) [1,1,0,1,0,0])
def knap_Cost_l0 : Lv:=⟨32,16,[(0,32)]⟩
def knap_Cost_k0 : KT1:=(kBlock 0 (kSeq G rec loop (codeAt (bodyOf Try.f75) [1,1,1]) ⟨16,16,[]⟩ (1::1::0::σ) (finC G false Try.f75 (1::σ))))
theorem knap_Cost_entry (x0 : V) (x1 : V) (h : H) : cvBody G rec loop 75 σ [x0,x1] h =
(lenO x1).bind fun t1 =>
(castI .i64 t1).bind fun n2 =>
(lenO x0).bind fun t3 =>
(castI .i64 t3).bind fun n4 =>
(slS 1 x1 none (some ((if n4 < n2 then n4 else n2))) none).bind fun t5 =>
(lenO t5).bind fun t6 =>
(castI .i64 t6).bind fun n7 =>
(loop knap_Cost_c0 knap_Cost_l0 (1::0::1::1::0::σ) (envL [(0,x0),(5,(.p (.int .i64 0))),(14,t5),(15,(.p (.int .i64 n7))),(16,(.p (.int .i64 0)))]) (List.replicate 39 []::h)).bind fun r8 => knap_Cost_k0 rec loop σ r8.1 r8.2.1 r8.2.2:=by kernel_rfl
theorem knap_Cost_r0 (x0 : V) (x5 : Int) (x14 : V) (x15 : Int) (x16 : Int) (h : H) : cvRound G rec loop knap_Cost_c0 knap_Cost_l0 σ (envL [(0,x0),(5,(.p (.int .i64 x5))),(14,x14),(15,(.p (.int .i64 x15))),(16,(.p (.int .i64 x16)))]) h =
bif decide (x16 < x15) then (
(iS 1 x14 x16).bind fun t9 =>
(ldO false 1 h t9).bind fun t10 =>
(castI .i64 t10).bind fun n11 =>
(iS 3 x0 x16).bind fun t12 =>
(ldO true 3 h t12).bind fun t13 =>
(callO rec 125 (5::0::1::0::1::1::0::σ) [t13,(.p (.int .i64 n11))] h (some 26)).bind fun q14 =>
(asB q14.1).bind fun b15 =>
bif b15 then (
(iS 3 x0 x16).bind fun t16 =>
(fA t16 1).bind fun t17 =>
(ldO false 1 q14.2 t17).bind fun t18 =>
(iS 1 t18 n11).bind fun t19 =>
(ldO false 1 q14.2 t19).bind fun t20 =>
(castI .i64 t20).bind fun n21 =>
(callO rec 126 (9::1::1::0::1::1::0::σ) [(.p (.int .i64 x5)),(.p (.int .i64 n21))] q14.2 (some 36)).bind fun q22 =>
(castI .i64 q22.1).bind fun n23 =>
loop knap_Cost_c0 knap_Cost_l0 (1::σ) (envL [(0,x0),(5,(.p (.int .i64 n23))),(14,x14),(15,(.p (.int .i64 x15))),(16,(.p (.int .i64 (IntKind.wrap .i64 (x16 + 1)))))]) q22.2)
else (
loop knap_Cost_c0 knap_Cost_l0 (1::σ) (envL [(0,x0),(5,(.p (.int .i64 x5))),(14,x14),(15,(.p (.int .i64 x15))),(16,(.p (.int .i64 (IntKind.wrap .i64 (x16 + 1)))))]) q14.2))
else (
some ((.exit 0),(envL [(5,(.p (.int .i64 x5)))]),h)):=by kernel_rfl
theorem knap_Cost_a0_0 (x5 : Int) (h : H) : knap_Cost_k0 rec loop σ (.exit 0) (envL [(5,(.p (.int .i64 x5)))]) h =
fin false σ h [(.p (.int .i64 x5))]:=by kernel_rfl
theorem knap_add_entry (x0 : Int) (x1 : Int) (h : H) : cvBody G rec loop 126 σ [(.p (.int .i64 x0)),(.p (.int .i64 x1))] h =
bif decide (x0 > (IntKind.wrap .i64 (9223372036854775807 - x1))) then (
fin false σ (List.replicate 12 []::h) [(.p (.int .i64 9223372036854775807))])
else (
fin false σ (List.replicate 12 []::h) [(.p (.int .i64 (IntKind.wrap .i64 (x0 + x1))))]):=by kernel_rfl
end
end Go.Ev
namespace Go.Ev
open Go.Proofs
set_option linter.unusedVariables false
set_option linter.unusedSimpArgs false
set_option maxRecDepth 100000
section
variable {β α : Type} {Q : β→α→Prop} {K : Exit × Env × H→Option α}
def p_knap_add (x0 : Int) (x1 : Int) : Option (Int) :=
bif decide (x0 > (IntKind.wrap .i64 (9223372036854775807 - x1))) then (
some (9223372036854775807))
else (
some ((IntKind.wrap .i64 (x0 + x1))))
theorem knap_add_ok {h : H} {σ : Stamp} (x0 : Int) (x1 : Int) : Sim (p_knap_add x0 x1) (ev G X0 126 σ [(.p (.int .i64 x0)),(.p (.int .i64 x1))] h) (fun r s => s = ([.v (.p (.int .i64 r))],h)):=by
 refine .ev rfl (Sim.ext (knap_add_entry _ _ _ _ _ _) ?_)
 rw [p_knap_add]
 have S0 : Fm 12 h [] [] [] (List.replicate 12 []::h):=Fm.start0
 refine .cq ?_ ?_
 ·exact .fin (S0.finN (lC (sI _ _).lv lN)) rfl
 exact .fin (S0.finN (lC (sI _ _).lv lN)) rfl
end
end Go.Ev
namespace Go.Ev
open Go.Proofs
set_option linter.unusedVariables false
set_option linter.unusedSimpArgs false
set_option maxRecDepth 100000
noncomputable section
abbrev KT2:=Exit→Env→H→Option (List C × H)
variable (rec : CallF) (loop : LoopV) (σ : Stamp)
theorem knap_has_entry (x0 : V) (x1 : Int) (h : H) : cvBody G rec loop 125 σ [x0,(.p (.int .i64 x1))] h =
(boxO false (0::0::0::σ) 2 (List.replicate 23 []::h) x0).bind fun q1 =>
(bif decide (x1 ≥ 0) then ((fA q1.1 1).bind fun t2 =>
(ldO false 1 q1.2 t2).bind fun t3 =>
(lenO t3).bind fun t4 =>
(castI .i64 t4).bind fun n5 =>
some (decide (x1 < ((if n5 < 4 then n5 else 4))))) else (some false)).bind fun b6 =>
(bif b6 then ((fA q1.1 1).bind fun t7 =>
(ldO false 1 q1.2 t7).bind fun t8 =>
(iS 1 t8 x1).bind fun t9 =>
(ldO false 1 q1.2 t9).bind fun t10 =>
(castI .i64 t10).bind fun n11 =>
some (decide (n11 ≥ 0))) else (some false)).bind fun b12 =>
fin false σ q1.2 [(.p (.bool b12))]:=by kernel_rfl
end
end Go.Ev
namespace Go.Ev
open Go.Proofs
set_option linter.unusedVariables false
set_option linter.unusedSimpArgs false
set_option maxRecDepth 100000
section
variable {β α : Type} {Q : β→α→Prop} {K : Exit × Env × H→Option α}
def p_knap_has (x0 : TaiChoice) (x1 : Int) : Option (Bool) :=
(bif decide (x1 ≥ 0) then (some (decide (x1 < ((if ((x0.Costs.length : Int)) < 4 then ((x0.Costs.length : Int)) else 4))))) else (some false)).bind fun b9 =>
(bif b9 then ((ix x0.Costs x1).bind fun a13 =>
some (decide (a13 ≥ 0))) else (some false)).bind fun b16 =>
some (b16)
theorem knap_has_ok {h : H} {σ : Stamp} (x0 : TaiChoice) {u0 : List V} (hu0 : dTaiChoice.R x0 u0) (x1 : Int) : Sim (p_knap_has x0 x1) (ev G X0 125 σ [(.agg u0),(.p (.int .i64 x1))] h) (fun r s => s = ([.v (.p (.bool r))],h)):=by
 refine .ev rfl (Sim.ext (knap_has_entry _ _ _ _ _ _) ?_)
 rw [p_knap_has]
 obtain ⟨v1,v3,rfl,h2,h4⟩:=dTaiChoice.inv hu0
 have S0 : Fm 23 h [] [] [] (List.replicate 23 []::h):=Fm.start0
 obtain ⟨H5,e6,S7⟩:=S0.box (own:=false) (d:=2) (s:=(0::0::0::σ)) (xs:=[(.p (.int .i64 x0.Class)),v1,v3]) (sC (sI _ _) (sC h2.still (sC h4.still sN))) (by decide) rfl
 refine .op (e6) ?_
 refine .ch (P:=fun r y => r = y) ?_ (fun b9 y10 h11 h12 => ?_)
 ·refine .cq ?_ ?_
  ·refine .fa ?_
   refine .op ((S7.atG (i:=0) rfl).ld (j:=1) rfl) ?_
   refine .op ((h2.h H5).len) ?_
   refine .ci ?_
   exact .ret rfl rfl
  ·exact .ret rfl rfl
 subst h12
 refine .ch (P:=fun r y => r = y) ?_ (fun b16 y17 h18 h19 => ?_)
 ·refine .cq ?_ ?_
  ·refine .fa ?_
   refine .op ((S7.atG (i:=0) rfl).ld (j:=1) rfl) ?_
   refine .bd fun a13 h14 => ?_
   refine .op ((h2.h H5).iS h14 rfl) ?_
   obtain ⟨_,rfl,hE15⟩:=(h2.h H5).el h14 rfl
   refine .op (hE15.ld (j:=0) rfl) ?_
   refine .ci ?_
   exact .ret rfl rfl
  ·exact .ret rfl rfl
 subst h19
 exact .fin (S7.finN (lC (sB _).lv lN)) rfl
def p_knap_Cost_l0 {β : Type} (k : Nat) (kE0 : Int→Option β) (x0 : (List TaiChoice)) (x5 : Int) (x14 : (List Int)) (x15 : Int) (x16 : Int) : Option β:=match k with
| 0 => none
| k + 1 =>
bif decide (x16 < x15) then (
(ix x14 x16).bind fun a10 =>
(ix x0 x16).bind fun a13 =>
(p_knap_has a13 a10).bind fun r22 =>
bif r22 then (
(ix x0 x16).bind fun a28 =>
(ix a28.Costs a10).bind fun a44 =>
(p_knap_add x5 a44).bind fun r47 =>
p_knap_Cost_l0 k kE0 x0 r47 x14 x15 (IntKind.wrap .i64 (x16 + 1)))
else (
p_knap_Cost_l0 k kE0 x0 x5 x14 x15 (IntKind.wrap .i64 (x16 + 1))))
else (
kE0 x5)
def p_knap_Cost (k : Nat) (x0 : (List TaiChoice)) (x1 : (List Int)) : Option (Int) :=
(sub x1 0 ((if ((x0.length : Int)) < ((x1.length : Int)) then ((x0.length : Int)) else ((x1.length : Int))))).bind fun a1 =>
p_knap_Cost_l0 k (fun r54_5 =>
some (r54_5)) x0 0 a1 ((a1.length : Int)) 0
theorem knap_Cost_l0_ok {h : H}  {kE0 : Int→Option β} (hE0 : ∀ (q5 : Int) (H52 : Go.Ev.H) (_ : Fm 39 h [] [] [] H52),Sim (kE0 q5) (K ((.exit 0),(envL [(5,(.p (.int .i64 q5)))]),H52)) Q) (k : Nat) : ∀ (x0 : (List TaiChoice)) (x5 : Int) (x14 : (List Int)) (x15 : Int) (x16 : Int) (v5 : V) (h6 : SlH h dTaiChoice x0 v5) (v7 : V) (h8 : SlH h (dI .i64) x14 v7) (H3 : Go.Ev.H) (_ : Fm 39 h [] [] [] H3) {σ : Stamp},Sim (p_knap_Cost_l0 k kE0 x0 x5 x14 x15 x16) ((cvL G X0 knap_Cost_c0 knap_Cost_l0 σ (envL [(0,v5),(5,(.p (.int .i64 x5))),(14,v7),(15,(.p (.int .i64 x15))),(16,(.p (.int .i64 x16)))]) H3).bind K) Q:=by
 induction k with
 | zero => intros; exact .no
 | succ k ih =>
  intro x0 x5 x14 x15 x16 v5 h6 v7 h8 H3 S4 σ
  rw [p_knap_Cost_l0]
  refine .round (Sim.ext (knap_Cost_r0 _ _ _ _ _ _ _ _ _) ?_)
  refine .cq ?_ ?_
  ·refine .bd fun a10 h11 => ?_
   refine .op ((S4.low h8).iS h11 rfl) ?_
   obtain ⟨_,rfl,hE12⟩:=(S4.low h8).el h11 rfl
   refine .op (hE12.ld (j:=0) rfl) ?_
   refine .ci ?_
   refine .bd fun a13 h14 => ?_
   refine .op ((S4.low h6).iS h14 rfl) ?_
   obtain ⟨w16,h17,hE15⟩:=(S4.low h6).el h14 rfl
   obtain ⟨v18,v20,rfl,h19,h21⟩:=dTaiChoice.inv h17
   refine .op (hE15.all (by simp)) ?_
   refine .call (knap_has_ok a13 (show dTaiChoice.R a13 [.p (.int .i64 a13.Class),v18,v20] from (dTaiChoice.mk h19 h21)) a10) fun r22 cs23 H24 h25 q26 => ?_
   cases q26
   refine .ab ?_
   refine .cq ?_ ?_
   ·refine .bd fun a28 h29 => ?_
    refine .op ((S4.low h6).iS h29 rfl) ?_
    obtain ⟨w31,h32,hE30⟩:=(S4.low h6).el h29 rfl
    obtain ⟨v33,v35,rfl,h34,h36⟩:=dTaiChoice.inv h32
    refine .op (hE30.fa (j:=1) (by simp)) ?_
    obtain ⟨w38,h39,hE37⟩:=(S4.low h6).el h29 rfl
    obtain ⟨v40,v42,rfl,h41,h43⟩:=dTaiChoice.inv h39
    refine .op (hE37.ld (j:=1) rfl) ?_
    refine .bd fun a44 h45 => ?_
    refine .op ((h41.h H3).iS h45 rfl) ?_
    obtain ⟨_,rfl,hE46⟩:=(h41.h H3).el h45 rfl
    refine .op (hE46.ld (j:=0) rfl) ?_
    refine .ci ?_
    refine .call (knap_add_ok x5 a44) fun r47 cs48 H49 h50 q51 => ?_
    cases q51
    refine .ci ?_
    exact ih x0 r47 x14 x15 (IntKind.wrap .i64 (x16 + 1)) v5 h6 v7 h8 H3 (S4.wk2 aN aN)
   exact ih x0 x5 x14 x15 (IntKind.wrap .i64 (x16 + 1)) v5 h6 v7 h8 H3 (S4.wk2 aN aN)
  exact hE0 x5 H3 (S4.wk2 aN aN)
theorem knap_Cost_ok (k : Nat) {h : H} {σ : Stamp} (x0 : List TaiChoice) {u0 : V} (hu0 : SlH h dTaiChoice x0 u0) (x1 : List Int) {u1 : V} (hu1 : SlH h (dI .i64) x1 u1) : Sim (p_knap_Cost k x0 x1) (ev G X0 75 σ [u0,u1] h) (fun r s => s = ([.v (.p (.int .i64 r))],h)):=by
 refine .ev rfl (Sim.ext (knap_Cost_entry _ _ _ _ _ _) ?_)
 rw [p_knap_Cost]
 have S0 : Fm 39 h [] [] [] (List.replicate 39 []::h):=Fm.start0
 refine .op ((S0.low hu1).len) ?_
 refine .ci ?_
 refine .op ((S0.low hu0).len) ?_
 refine .ci ?_
 refine .bd fun a1 h2 => ?_
 refine .op ((S0.low hu1).slS h2 rfl rfl rfl) ?_
 refine .op (((S0.low hu1).sub h2 (e:=1) rfl).len) ?_
 refine .ci ?_
 refine .as (knap_Cost_l0_ok ?_ k x0 0 a1 ((a1.length : Int)) 0 u0 hu0 (subV 1 u1 (Int.toNat (0)) (Int.toNat ((if ((x0.length : Int)) < ((x1.length : Int)) then ((x0.length : Int)) else ((x1.length : Int)))))) (hu1.sub h2 (e:=1) rfl) (List.replicate 39 []::h) (S0.wk2 aN aN))
 ·intro r54_5 H55 S56
  refine .ext (knap_Cost_a0_0 _ _ _ _ _) ?_
  exact .fin (S56.finN (lC (sI _ _).lv lN)) rfl
end
end Go.Ev
namespace Go.Ev
open Go.Proofs
set_option linter.unusedVariables false
set_option linter.unusedSimpArgs false
set_option maxRecDepth 100000
noncomputable section
abbrev KT3:=Exit→Env→H→Option (List C × H)
variable (rec : CallF) (loop : LoopV) (σ : Stamp)
theorem knap_fits_entry (x0 : V) (x1 : Int) (h : H) : cvBody G rec loop 124 σ [x0,(.p (.int .i64 x1))] h =
(boxO false (0::0::0::σ) 2 (List.replicate 29 []::h) x0).bind fun q1 =>
(bif x1 == (-1) then (some ((.p (.bool true)),q1.2)) else ((ldO true 3 q1.2 q1.1).bind fun t2 =>
(callO rec 125 (5::0::1::0::σ) [t2,(.p (.int .i64 x1))] q1.2 (some 10)).bind fun q3 =>
(asB q3.1).bind fun b4 =>
(bif b4 then ((fA q1.1 2).bind fun t5 =>
(ldO false 1 q3.2 t5).bind fun t6 =>
(lenO t6).bind fun t7 =>
(castI .i64 t7).bind fun n8 =>
some (decide (x1 < n8))) else (some false)).bind fun b9 =>
(bif b9 then ((fA q1.1 0).bind fun t10 =>
(ldO false 1 q3.2 t10).bind fun t11 =>
(castI .i64 t11).bind fun n12 =>
some (decide (n12 ≥ 0))) else (some false)).bind fun b13 =>
(bif b13 then ((fA q1.1 0).bind fun t14 =>
(ldO false 1 q3.2 t14).bind fun t15 =>
(castI .i64 t15).bind fun n16 =>
some (decide (n16 < 4))) else (some false)).bind fun b17 =>
some ((.p (.bool b17)),q3.2))).bind fun q18 =>
(asB q18.1).bind fun b19 =>
fin false σ q18.2 [(.p (.bool b19))]:=by kernel_rfl
end
end Go.Ev
namespace Go.Ev
open Go.Proofs
set_option linter.unusedVariables false
set_option linter.unusedSimpArgs false
set_option maxRecDepth 100000
section
variable {β α : Type} {Q : β→α→Prop} {K : Exit × Env × H→Option α}
def p_knap_fits (x0 : TaiChoice) (x1 : Int) : Option (Bool) :=
(bif x1 == (-1) then (some true) else ((p_knap_has x0 x1).bind fun r9 =>
(bif r9 then (some (decide (x1 < ((x0.Goods.length : Int))))) else (some false)).bind fun b14 =>
(bif b14 then (some (decide (x0.Class ≥ 0))) else (some false)).bind fun b18 =>
(bif b18 then (some (decide (x0.Class < 4))) else (some false)).bind fun b22 =>
some b22)).bind fun b26 =>
some (b26)
theorem knap_fits_ok {h : H} {σ : Stamp} (x0 : TaiChoice) {u0 : List V} (hu0 : dTaiChoice.R x0 u0) (x1 : Int) : Sim (p_knap_fits x0 x1) (ev G X0 124 σ [(.agg u0),(.p (.int .i64 x1))] h) (fun r s => s = ([.v (.p (.bool r))],h)):=by
 refine .ev rfl (Sim.ext (knap_fits_entry _ _ _ _ _ _) ?_)
 rw [p_knap_fits]
 obtain ⟨v1,v3,rfl,h2,h4⟩:=dTaiChoice.inv hu0
 have S0 : Fm 29 h [] [] [] (List.replicate 29 []::h):=Fm.start0
 obtain ⟨H5,e6,S7⟩:=S0.box (own:=false) (d:=2) (s:=(0::0::0::σ)) (xs:=[(.p (.int .i64 x0.Class)),v1,v3]) (sC (sI _ _) (sC h2.still (sC h4.still sN))) (by decide) rfl
 refine .op (e6) ?_
 refine .ch (P:=fun r y => (.p (.bool r),H5) = y) ?_ (fun b26 y27 h28 h29 => ?_)
 ·refine .cq ?_ ?_
  ·exact .ret rfl rfl
  ·refine .op ((S7.atG (i:=0) rfl).ldVs (j:=0) (xs:=[(.p (.int .i64 x0.Class)),v1,v3]) rfl rfl (by decide)) ?_
   refine .call (knap_has_ok x0 hu0 x1) fun r9 cs10 H11 h12 q13 => ?_
   cases q13
   refine .ab ?_
   refine .ch (P:=fun r y => r = y) ?_ (fun b14 y15 h16 h17 => ?_)
   ·refine .cq ?_ ?_
    ·refine .fa ?_
     refine .op ((S7.atG (i:=0) rfl).ld (j:=2) rfl) ?_
     refine .op ((h4.h H5).len) ?_
     refine .ci ?_
     exact .ret rfl rfl
    ·exact .ret rfl rfl
   subst h17
   refine .ch (P:=fun r y => r = y) ?_ (fun b18 y19 h20 h21 => ?_)
   ·refine .cq ?_ ?_
    ·refine .fa ?_
     refine .op ((S7.atG (i:=0) rfl).ld (j:=0) rfl) ?_
     refine .ci ?_
     exact .ret rfl rfl
    ·exact .ret rfl rfl
   subst h21
   refine .ch (P:=fun r y => r = y) ?_ (fun b22 y23 h24 h25 => ?_)
   ·refine .cq ?_ ?_
    ·refine .fa ?_
     refine .op ((S7.atG (i:=0) rfl).ld (j:=0) rfl) ?_
     refine .ci ?_
     exact .ret rfl rfl
    ·exact .ret rfl rfl
   subst h25
   exact .ret rfl rfl
 subst h29
 refine .ab ?_
 exact .fin (S7.finN (lC (sB _).lv lN)) rfl
def p_knap_Fits_l0 {β : Type} (k : Nat) (kE0 : (List TaiChoice)→(List Int)→Int→Option β) (kE1 : Bool→Option β) (x0 : (List TaiChoice)) (x1 : (List Int)) (x2 : Int) (x14 : (List Int)) (x15 : Int) (x16 : Int) : Option β:=match k with
| 0 => none
| k + 1 =>
bif decide (x16 < x15) then (
(ix x14 x16).bind fun a11 =>
(ix x0 x16).bind fun a14 =>
(p_knap_fits a14 a11).bind fun r23 =>
bif !r23 then (
kE1 false)
else (
p_knap_Fits_l0 k kE0 kE1 x0 x1 x2 x14 x15 (IntKind.wrap .i64 (x16 + 1))))
else (
kE0 x0 x1 x2)
def p_knap_Fits (k : Nat) (x0 : (List TaiChoice)) (x1 : (List Int)) (x2 : Int) : Option (Bool) :=
bif ((x0.length : Int)) != ((x1.length : Int)) then (
some (false))
else (
p_knap_Fits_l0 k (fun r37_0 r37_1 r37_2 =>
(p_knap_Cost k r37_0 r37_1).bind fun r44 =>
some ((decide (r44 ≤ r37_2)))) (fun r49_6 =>
some (r49_6)) x0 x1 x2 x1 ((x1.length : Int)) 0)
theorem knap_Fits_l0_ok {h : H}  {kE0 : (List TaiChoice)→(List Int)→Int→Option β} {kE1 : Bool→Option β} (hE0 : ∀ (q0 : (List TaiChoice)) (q1 : (List Int)) (q2 : Int) (v31 : V) (h32 : SlH h dTaiChoice q0 v31) (v33 : V) (h34 : SlH h (dI .i64) q1 v33) (H29 : Go.Ev.H) (_ : Fm 34 h [] [] [] H29),Sim (kE0 q0 q1 q2) (K ((.exit 0),(envL [(0,v31),(1,v33),(2,(.p (.int .i64 q2)))]),H29)) Q) (hE1 : ∀ (q6 : Bool) (H35 : Go.Ev.H) (_ : Fm 34 h [] [] [] H35),Sim (kE1 q6) (K (.ret,(envL [(6,(.p (.bool q6)))]),H35)) Q) (k : Nat) : ∀ (x0 : (List TaiChoice)) (x1 : (List Int)) (x2 : Int) (x14 : (List Int)) (x15 : Int) (x16 : Int) (v4 : V) (h5 : SlH h dTaiChoice x0 v4) (v6 : V) (h7 : SlH h (dI .i64) x1 v6) (v8 : V) (h9 : SlH h (dI .i64) x14 v8) (H2 : Go.Ev.H) (_ : Fm 34 h [] [] [] H2) {σ : Stamp},Sim (p_knap_Fits_l0 k kE0 kE1 x0 x1 x2 x14 x15 x16) ((cvL G X0 knap_Fits_c0 knap_Fits_l0 σ (envL [(0,v4),(1,v6),(2,(.p (.int .i64 x2))),(14,v8),(15,(.p (.int .i64 x15))),(16,(.p (.int .i64 x16)))]) H2).bind K) Q:=by
 induction k with
 | zero => intros; exact .no
 | succ k ih =>
  intro x0 x1 x2 x14 x15 x16 v4 h5 v6 h7 v8 h9 H2 S3 σ
  rw [p_knap_Fits_l0]
  refine .round (Sim.ext (knap_Fits_r0 _ _ _ _ _ _ _ _ _ _) ?_)
  refine .cq ?_ ?_
  ·refine .bd fun a11 h12 => ?_
   refine .op ((S3.low h9).iS h12 rfl) ?_
   obtain ⟨_,rfl,hE13⟩:=(S3.low h9).el h12 rfl
   refine .op (hE13.ld (j:=0) rfl) ?_
   refine .ci ?_
   refine .bd fun a14 h15 => ?_
   refine .op ((S3.low h5).iS h15 rfl) ?_
   obtain ⟨w17,h18,hE16⟩:=(S3.low h5).el h15 rfl
   obtain ⟨v19,v21,rfl,h20,h22⟩:=dTaiChoice.inv h18
   refine .op (hE16.all (by simp)) ?_
   refine .call (knap_fits_ok a14 (show dTaiChoice.R a14 [.p (.int .i64 a14.Class),v19,v21] from (dTaiChoice.mk h20 h22)) a11) fun r23 cs24 H25 h26 q27 => ?_
   cases q27
   refine .ab ?_
   refine .cq ?_ ?_
   ·exact hE1 false H2 (S3.wk2 aN aN)
   exact ih x0 x1 x2 x14 x15 (IntKind.wrap .i64 (x16 + 1)) v4 h5 v6 h7 v8 h9 H2 (S3.wk2 aN aN)
  exact hE0 x0 x1 x2 v4 h5 v6 h7 H2 (S3.wk2 aN aN)
theorem knap_Fits_ok (k : Nat) {h : H} {σ : Stamp} (x0 : List TaiChoice) {u0 : V} (hu0 : SlH h dTaiChoice x0 u0) (x1 : List Int) {u1 : V} (hu1 : SlH h (dI .i64) x1 u1) (x2 : Int) : Sim (p_knap_Fits k x0 x1 x2) (ev G X0 73 σ [u0,u1,(.p (.int .i64 x2))] h) (fun r s => s = ([.v (.p (.bool r))],h)):=by
 refine .ev rfl (Sim.ext (knap_Fits_entry _ _ _ _ _ _ _) ?_)
 rw [p_knap_Fits]
 have S0 : Fm 34 h [] [] [] (List.replicate 34 []::h):=Fm.start0
 refine .op ((S0.low hu0).len) ?_
 refine .ci ?_
 refine .op ((S0.low hu1).len) ?_
 refine .ci ?_
 refine .cq ?_ ?_
 ·exact .fin (S0.finN (lC (sB _).lv lN)) rfl
 refine .op ((S0.low hu1).len) ?_
 refine .ci ?_
 refine .as (knap_Fits_l0_ok ?_ ?_ k x0 x1 x2 x1 ((x1.length : Int)) 0 u0 hu0 u1 hu1 u1 hu1 (List.replicate 34 []::h) (S0.wk2 aN aN))
 ·intro r37_0 r37_1 r37_2 v40 h41 v42 h43 H38 S39
  refine .ext (knap_Fits_a0_0 _ _ _ _ _ _ _) ?_
  refine .call (knap_Cost_ok k r37_0 (S39.low h41) r37_1 (S39.low h43)) fun r44 cs45 H46 h47 q48 => ?_
  cases q48
  refine .ci ?_
  exact .fin (S39.finN (lC (sB _).lv lN)) rfl
 ·intro r49_6 H50 S51
  refine .ext (knap_Fits_a0_ret _ _ _ _ _) ?_
  exact .fin (S51.finN (lC (sB _).lv lN)) rfl
end
end Go.Ev
namespace Go.Ev
open Go.Proofs
set_option linter.unusedVariables false
set_option linter.unusedSimpArgs false
set_option maxRecDepth 100000
noncomputable section
abbrev KT4:=Exit→Env→H→Option (List C × H)
variable (rec : CallF) (loop : LoopV) (σ : Stamp)
def knap_Good_c0 : Code:=(codeAt (bodyOf Try.f160) [1,1,0,1,0,0])
def knap_Good_l0 : Lv:=⟨48,16,[(0,48)]⟩
def knap_Good_k0 : KT4:=(kBlock 0 (kSeq G rec loop (codeAt (bodyOf Try.f160) [1,1,1]) ⟨16,16,[]⟩ (1::1::0::σ) (finC G false Try.f160 (1::σ))))
theorem knap_Good_entry (x0 : V) (x1 : V) (h : H) : cvBody G rec loop 160 σ [x0,x1] h =
(some (alO [.p (.int .i64 0),.p (.int .i64 0),.p (.int .i64 0),.p (.int .i64 0)] (0::0::0::σ) 4 (List.replicate 52 []::h))).bind fun q1 =>
(some (alO [.p (.int .i64 0),.p (.int .i64 0),.p (.int .i64 0),.p (.int .i64 0)] (0::0::1::0::σ) 5 q1.2)).bind fun q2 =>
(lenO x1).bind fun t3 =>
(castI .i64 t3).bind fun n4 =>
(lenO x0).bind fun t5 =>
(castI .i64 t5).bind fun n6 =>
(slS 1 x1 none (some ((if n6 < n4 then n6 else n4))) none).bind fun t7 =>
(lenO t7).bind fun t8 =>
(castI .i64 t8).bind fun n9 =>
(loop knap_Good_c0 knap_Good_l0 (1::0::1::1::0::σ) (envL [(0,x0),(4,q1.1),(5,q2.1),(14,t7),(15,(.p (.int .i64 n9))),(16,(.p (.int .i64 0)))]) q2.2).bind fun r10 => knap_Good_k0 rec loop σ r10.1 r10.2.1 r10.2.2:=by kernel_rfl
theorem knap_Good_r0 (x0 : V) (x4 : V) (x5 : V) (x14 : V) (x15 : Int) (x16 : Int) (h : H) : cvRound G rec loop knap_Good_c0 knap_Good_l0 σ (envL [(0,x0),(4,x4),(5,x5),(14,x14),(15,(.p (.int .i64 x15))),(16,(.p (.int .i64 x16)))]) h =
bif decide (x16 < x15) then (
(iS 1 x14 x16).bind fun t11 =>
(ldO false 1 h t11).bind fun t12 =>
(castI .i64 t12).bind fun n13 =>
(bif decide (n13 ≥ 0) then ((iS 3 x0 x16).bind fun t14 =>
(ldO true 3 h t14).bind fun t15 =>
(callO rec 124 (8::0::1::0::1::1::0::σ) [t15,(.p (.int .i64 n13))] h (some 29)).bind fun q16 =>
(asB q16.1).bind fun b17 =>
some ((.p (.bool b17)),q16.2)) else (some ((.p (.bool false)),h))).bind fun q18 =>
(asB q18.1).bind fun b19 =>
bif b19 then (
(iS 3 x0 x16).bind fun t20 =>
(fA t20 0).bind fun t21 =>
(ldO false 1 q18.2 t21).bind fun t22 =>
(castI .i64 t22).bind fun n23 =>
(iA 4 1 x5 n23).bind fun t24 =>
(ldO false 1 q18.2 t24).bind fun t25 =>
(castI .i64 t25).bind fun n26 =>
(iS 3 x0 x16).bind fun t27 =>
(fA t27 2).bind fun t28 =>
(ldO false 1 q18.2 t28).bind fun t29 =>
(iS 1 t29 n13).bind fun t30 =>
(ldO false 1 q18.2 t30).bind fun t31 =>
(castI .i64 t31).bind fun n32 =>
(iA 4 1 x5 n23).bind fun t33 =>
((stO true 1 (19::1::1::0::1::1::0::σ) q18.2 t33 (.p (.int .i64 (IntKind.wrap .i64 (n26 + ((if ((if 1073741824 < n32 then 1073741824 else n32)) > 0 then ((if 1073741824 < n32 then 1073741824 else n32)) else 0))))))).map fun h => (udf,h)).bind fun q34 =>
loop knap_Good_c0 knap_Good_l0 (1::σ) (envL [(0,x0),(4,x4),(5,x5),(14,x14),(15,(.p (.int .i64 x15))),(16,(.p (.int .i64 (IntKind.wrap .i64 (x16 + 1)))))]) q34.2)
else (
loop knap_Good_c0 knap_Good_l0 (1::σ) (envL [(0,x0),(4,x4),(5,x5),(14,x14),(15,(.p (.int .i64 x15))),(16,(.p (.int .i64 (IntKind.wrap .i64 (x16 + 1)))))]) q18.2))
else (
some ((.exit 0),(envL [(4,x4),(5,x5)]),h)):=by kernel_rfl
theorem knap_Good_a0_0 (x4 : V) (x5 : V) (h : H) : knap_Good_k0 rec loop σ (.exit 0) (envL [(4,x4),(5,x5)]) h =
(ldO true 4 h x5).bind fun t35 =>
((stO false 4 (1::0::1::1::1::0::σ) h x4 t35).map fun h => (udf,h)).bind fun q36 =>
((ldO true 4 q36.2 x4).bind fun t37 => (some []).map (t37::·)).bind fun t38 => fin false σ q36.2 t38:=by kernel_rfl
end
end Go.Ev
namespace Go.Ev
open Go.Proofs
set_option linter.unusedVariables false
set_option linter.unusedSimpArgs false
set_option maxRecDepth 100000
section
variable {β α : Type} {Q : β→α→Prop} {K : Exit × Env × H→Option α}
def p_knap_Good_l0 {β : Type} (k : Nat) (kE0 : (List Int)→(List Int)→Option β) (x0 : (List TaiChoice)) (x14 : (List Int)) (x15 : Int) (x16 : Int) (yg4 : (List Int)) (yg8 : (List Int)) : Option β:=match k with
| 0 => none
| k + 1 =>
bif decide (x16 < x15) then (
(ix x14 x16).bind fun a22 =>
(bif decide (a22 ≥ 0) then ((ix x0 x16).bind fun a25 =>
(p_knap_fits a25 a22).bind fun r34 =>
some r34) else (some false)).bind fun b39 =>
bif b39 then (
(ix x0 x16).bind fun a44 =>
(ix [((yg8.getD 0 0)),((yg8.getD 1 0)),((yg8.getD 2 0)),((yg8.getD 3 0))] a44.Class).bind fun a60 =>
(ix x0 x16).bind fun a62 =>
(ix a62.Goods a22).bind fun a78 =>
(ix [((yg8.getD 0 0)),((yg8.getD 1 0)),((yg8.getD 2 0)),((yg8.getD 3 0))] a44.Class).bind fun a81 =>
(stx [((yg8.getD 0 0)),((yg8.getD 1 0)),((yg8.getD 2 0)),((yg8.getD 3 0))] a44.Class (IntKind.wrap .i64 (a60 + ((if ((if 1073741824 < a78 then 1073741824 else a78)) > 0 then ((if 1073741824 < a78 then 1073741824 else a78)) else 0))))).bind fun a86 =>
p_knap_Good_l0 k kE0 x0 x14 x15 (IntKind.wrap .i64 (x16 + 1)) ([((yg4.getD 0 0)),((yg4.getD 1 0)),((yg4.getD 2 0)),((yg4.getD 3 0))]) ([((a86.getD 0 0)),((a86.getD 1 0)),((a86.getD 2 0)),((a86.getD 3 0))]))
else (
p_knap_Good_l0 k kE0 x0 x14 x15 (IntKind.wrap .i64 (x16 + 1)) ([((yg4.getD 0 0)),((yg4.getD 1 0)),((yg4.getD 2 0)),((yg4.getD 3 0))]) ([((yg8.getD 0 0)),((yg8.getD 1 0)),((yg8.getD 2 0)),((yg8.getD 3 0))])))
else (
kE0 ([((yg4.getD 0 0)),((yg4.getD 1 0)),((yg4.getD 2 0)),((yg4.getD 3 0))]) ([((yg8.getD 0 0)),((yg8.getD 1 0)),((yg8.getD 2 0)),((yg8.getD 3 0))]))
def p_knap_Good (k : Nat) (x0 : (List TaiChoice)) (x1 : (List Int)) : Option ((List Int)) :=
(sub x1 0 ((if ((x0.length : Int)) < ((x1.length : Int)) then ((x0.length : Int)) else ((x1.length : Int))))).bind fun a9 =>
p_knap_Good_l0 k (fun yg18 yg20 =>
some (([((yg20.getD 0 0)),((yg20.getD 1 0)),((yg20.getD 2 0)),((yg20.getD 3 0))]))) x0 a9 ((a9.length : Int)) 0 ([0,0,0,0]) ([0,0,0,0])
theorem knap_Good_l0_ok {h : H}  {kE0 : (List Int)→(List Int)→Option β} (hE0 : ∀ (yg18 : (List Int)) (yg20 : (List Int)) (s90 : Stamp) (s92 : Stamp) (H88 : Go.Ev.H) (_ : Fm 52 h [] [(4,s90,List.map C.v [(.p (.int .i64 ((yg18.getD 0 0)))),(.p (.int .i64 ((yg18.getD 1 0)))),(.p (.int .i64 ((yg18.getD 2 0)))),(.p (.int .i64 ((yg18.getD 3 0))))]),(5,s92,List.map C.v [(.p (.int .i64 ((yg20.getD 0 0)))),(.p (.int .i64 ((yg20.getD 1 0)))),(.p (.int .i64 ((yg20.getD 2 0)))),(.p (.int .i64 ((yg20.getD 3 0))))])] [] H88),Sim (kE0 yg18 yg20) (K ((.exit 0),(envL [(4,(.ref ⟨h.length,4,0,s90,[]⟩ 0)),(5,(.ref ⟨h.length,5,0,s92,[]⟩ 0))]),H88)) Q) (k : Nat) : ∀ (x0 : (List TaiChoice)) (x14 : (List Int)) (x15 : Int) (x16 : Int) (yg4 : (List Int)) (yg8 : (List Int)) (v13 : V) (h14 : SlH h dTaiChoice x0 v13) (v15 : V) (h16 : SlH h (dI .i64) x14 v15) (s17 : Stamp) (s19 : Stamp) (H11 : Go.Ev.H) (_ : Fm 52 h [] [(4,s17,List.map C.v [(.p (.int .i64 ((yg4.getD 0 0)))),(.p (.int .i64 ((yg4.getD 1 0)))),(.p (.int .i64 ((yg4.getD 2 0)))),(.p (.int .i64 ((yg4.getD 3 0))))]),(5,s19,List.map C.v [(.p (.int .i64 ((yg8.getD 0 0)))),(.p (.int .i64 ((yg8.getD 1 0)))),(.p (.int .i64 ((yg8.getD 2 0)))),(.p (.int .i64 ((yg8.getD 3 0))))])] [] H11) {σ : Stamp},Sim (p_knap_Good_l0 k kE0 x0 x14 x15 x16 yg4 yg8) ((cvL G X0 knap_Good_c0 knap_Good_l0 σ (envL [(0,v13),(4,(.ref ⟨h.length,4,0,s17,[]⟩ 0)),(5,(.ref ⟨h.length,5,0,s19,[]⟩ 0)),(14,v15),(15,(.p (.int .i64 x15))),(16,(.p (.int .i64 x16)))]) H11).bind K) Q:=by
 induction k with
 | zero => intros; exact .no
 | succ k ih =>
  intro x0 x14 x15 x16 yg4 yg8 v13 h14 v15 h16 s17 s19 H11 S12 σ
  rw [p_knap_Good_l0]
  refine .round (Sim.ext (knap_Good_r0 _ _ _ _ _ _ _ _ _ _) ?_)
  refine .cq ?_ ?_
  ·refine .bd fun a22 h23 => ?_
   refine .op ((S12.low h16).iS h23 rfl) ?_
   obtain ⟨_,rfl,hE24⟩:=(S12.low h16).el h23 rfl
   refine .op (hE24.ld (j:=0) rfl) ?_
   refine .ci ?_
   refine .ch (P:=fun r y => (.p (.bool r),H11) = y) ?_ (fun b39 y40 h41 h42 => ?_)
   ·refine .cq ?_ ?_
    ·refine .bd fun a25 h26 => ?_
     refine .op ((S12.low h14).iS h26 rfl) ?_
     obtain ⟨w28,h29,hE27⟩:=(S12.low h14).el h26 rfl
     obtain ⟨v30,v32,rfl,h31,h33⟩:=dTaiChoice.inv h29
     refine .op (hE27.all (by simp)) ?_
     refine .call (knap_fits_ok a25 (show dTaiChoice.R a25 [.p (.int .i64 a25.Class),v30,v32] from (dTaiChoice.mk h31 h33)) a22) fun r34 cs35 H36 h37 q38 => ?_
     cases q38
     refine .ab ?_
     exact .ret rfl rfl
    ·exact .ret rfl rfl
   subst h42
   refine .ab ?_
   refine .cq ?_ ?_
   ·refine .bd fun a44 h45 => ?_
    refine .op ((S12.low h14).iS h45 rfl) ?_
    obtain ⟨w47,h48,hE46⟩:=(S12.low h14).el h45 rfl
    obtain ⟨v49,v51,rfl,h50,h52⟩:=dTaiChoice.inv h48
    refine .op (hE46.fa (j:=0) (by simp)) ?_
    obtain ⟨w54,h55,hE53⟩:=(S12.low h14).el h45 rfl
    obtain ⟨v56,v58,rfl,h57,h59⟩:=dTaiChoice.inv h55
    refine .op (hE53.ld (j:=0) rfl) ?_
    refine .ci ?_
    refine .bd fun a60 h61 => ?_
    refine .op (iA_ok h61 rfl) ?_
    refine .op ((S12.atG (i:=1) rfl).ldIx (xs:=[((yg8.getD 0 0)),((yg8.getD 1 0)),((yg8.getD 2 0)),((yg8.getD 3 0))]) (j:=0) (n:=4) (f:=fun z => .p (.int .i64 z)) rfl h61 rfl) ?_
    refine .ci ?_
    refine .bd fun a62 h63 => ?_
    refine .op ((S12.low h14).iS h63 rfl) ?_
    obtain ⟨w65,h66,hE64⟩:=(S12.low h14).el h63 rfl
    obtain ⟨v67,v69,rfl,h68,h70⟩:=dTaiChoice.inv h66
    refine .op (hE64.fa (j:=2) (by simp)) ?_
    obtain ⟨w72,h73,hE71⟩:=(S12.low h14).el h63 rfl
    obtain ⟨v74,v76,rfl,h75,h77⟩:=dTaiChoice.inv h73
    refine .op (hE71.ld (j:=2) rfl) ?_
    refine .bd fun a78 h79 => ?_
    refine .op ((h77.h H11).iS h79 rfl) ?_
    obtain ⟨_,rfl,hE80⟩:=(h77.h H11).el h79 rfl
    refine .op (hE80.ld (j:=0) rfl) ?_
    refine .ci ?_
    refine .bd fun a81 h82 => ?_
    refine .op (iA_ok h82 rfl) ?_
    refine .bd fun a86 h87 => ?_
    obtain ⟨H83,e84,S85⟩:=S12.stIxG (i:=1) (j:=0) (n:=4) (own:=true) (σ:=(19::1::1::0::1::1::0::σ)) (xs:=[((yg8.getD 0 0)),((yg8.getD 1 0)),((yg8.getD 2 0)),((yg8.getD 3 0))]) (f:=fun z => .p (.int .i64 z)) (y:=(IntKind.wrap .i64 (a60 + ((if ((if 1073741824 < a78 then 1073741824 else a78)) > 0 then ((if 1073741824 < a78 then 1073741824 else a78)) else 0))))) rfl rfl (fun _ => sI _ _) rfl h87 rfl 0
    refine .op (sM e84) ?_
    exact ih x0 x14 x15 (IntKind.wrap .i64 (x16 + 1)) ([((yg4.getD 0 0)),((yg4.getD 1 0)),((yg4.getD 2 0)),((yg4.getD 3 0))]) ([((a86.getD 0 0)),((a86.getD 1 0)),((a86.getD 2 0)),((a86.getD 3 0))]) v13 h14 v15 h16 s17 s19 H83 (S85.wk2 (aC (aM 0 rfl) (aC (aM 1 rfl) aN)) aN)
   exact ih x0 x14 x15 (IntKind.wrap .i64 (x16 + 1)) ([((yg4.getD 0 0)),((yg4.getD 1 0)),((yg4.getD 2 0)),((yg4.getD 3 0))]) ([((yg8.getD 0 0)),((yg8.getD 1 0)),((yg8.getD 2 0)),((yg8.getD 3 0))]) v13 h14 v15 h16 s17 s19 H11 (S12.wk2 (aC (aM 0 rfl) (aC (aM 1 rfl) aN)) aN)
  exact hE0 ([((yg4.getD 0 0)),((yg4.getD 1 0)),((yg4.getD 2 0)),((yg4.getD 3 0))]) ([((yg8.getD 0 0)),((yg8.getD 1 0)),((yg8.getD 2 0)),((yg8.getD 3 0))]) s17 s19 H11 (S12.wk2 (aC (aM 0 rfl) (aC (aM 1 rfl) aN)) aN)
theorem knap_Good_ok (k : Nat) {h : H} {σ : Stamp} (x0 : List TaiChoice) {u0 : V} (hu0 : SlH h dTaiChoice x0 u0) (x1 : List Int) {u1 : V} (hu1 : SlH h (dI .i64) x1 u1) : Sim (p_knap_Good k x0 x1) (ev G X0 160 σ [u0,u1] h) (fun r s => ∃ (w0 : List V),(dA 4 (dI .i64)).R r w0∧s = ([.v (.agg w0)],h)):=by
 refine .ev rfl (Sim.ext (knap_Good_entry _ _ _ _ _ _) ?_)
 rw [p_knap_Good]
 have S0 : Fm 52 h [] [] [] (List.replicate 52 []::h):=Fm.start0
 obtain ⟨H1,e2,S3⟩:=S0.al (d:=4) (s:=(0::0::0::σ)) (z:=[(.p (.int .i64 0)),(.p (.int .i64 0)),(.p (.int .i64 0)),(.p (.int .i64 0))]) (by decide) rfl
 refine .op (congrArg some e2) ?_
 obtain ⟨H5,e6,S7⟩:=S3.al (d:=5) (s:=(0::0::1::0::σ)) (z:=[(.p (.int .i64 0)),(.p (.int .i64 0)),(.p (.int .i64 0)),(.p (.int .i64 0))]) (by decide) rfl
 refine .op (congrArg some e6) ?_
 refine .op ((S7.low hu1).len) ?_
 refine .ci ?_
 refine .op ((S7.low hu0).len) ?_
 refine .ci ?_
 refine .bd fun a9 h10 => ?_
 refine .op ((S7.low hu1).slS h10 rfl rfl rfl) ?_
 refine .op (((S7.low hu1).sub h10 (e:=1) rfl).len) ?_
 refine .ci ?_
 refine .as (knap_Good_l0_ok ?_ k x0 a9 ((a9.length : Int)) 0 ([0,0,0,0]) ([0,0,0,0]) u0 hu0 (subV 1 u1 (Int.toNat (0)) (Int.toNat ((if ((x0.length : Int)) < ((x1.length : Int)) then ((x0.length : Int)) else ((x1.length : Int)))))) (hu1.sub h10 (e:=1) rfl) (0::0::0::σ) (0::0::1::0::σ) H5 (S7.wk2 (aC (aM 1 rfl) (aC (aM 0 rfl) aN)) aN))
 ·intro yg18 yg20 s97 s99 H95 S96
  refine .ext (knap_Good_a0_0 _ _ _ _ _ _) ?_
  refine .op ((S96.atG (i:=1) rfl).ldVs (j:=0) (xs:=[.p (.int .i64 ((yg20.getD 0 0))),.p (.int .i64 ((yg20.getD 1 0))),.p (.int .i64 ((yg20.getD 2 0))),.p (.int .i64 ((yg20.getD 3 0)))]) rfl rfl (by decide)) ?_
  obtain ⟨H101,e102,S103⟩:=S96.stGv (i:=0) (j:=0) (own:=false) (σ:=(1::0::1::1::1::0::σ)) (xs:=[.p (.int .i64 ((yg20.getD 0 0))),.p (.int .i64 ((yg20.getD 1 0))),.p (.int .i64 ((yg20.getD 2 0))),.p (.int .i64 ((yg20.getD 3 0)))]) rfl rfl (sC (sI _ _) (sC (sI _ _) (sC (sI _ _) (sC (sI _ _) sN)))) rfl rfl
  refine .op (sM e102) ?_
  have e104 : ldO true 4 H101 (.ref ⟨h.length,4,0,s97,[]⟩ 0) = some (.agg [.p (.int .i64 ((yg20.getD 0 0))),.p (.int .i64 ((yg20.getD 1 0))),.p (.int .i64 ((yg20.getD 2 0))),.p (.int .i64 ((yg20.getD 3 0)))]):=(S103.atG (i:=0) rfl).ldVs (j:=0) rfl rfl (by decide)
  refine .op (congrArg (Option.bind · _) e104) ?_
  exact .fin (S103.finN (lC (Stills.lv ((dA 4 (dI .i64)).still (⟨rfl,dI_map [((yg20.getD 0 0)),((yg20.getD 1 0)),((yg20.getD 2 0)),((yg20.getD 3 0))]⟩ : (dA 4 (dI .i64)).R [((yg20.getD 0 0)),((yg20.getD 1 0)),((yg20.getD 2 0)),((yg20.getD 3 0))] [.p (.int .i64 ((yg20.getD 0 0))),.p (.int .i64 ((yg20.getD 1 0))),.p (.int .i64 ((yg20.getD 2 0))),.p (.int .i64 ((yg20.getD 3 0)))]))) lN)) ⟨_,(⟨rfl,dI_map [((yg20.getD 0 0)),((yg20.getD 1 0)),((yg20.getD 2 0)),((yg20.getD 3 0))]⟩ : (dA 4 (dI .i64)).R [((yg20.getD 0 0)),((yg20.getD 1 0)),((yg20.getD 2 0)),((yg20.getD 3 0))] [.p (.int .i64 ((yg20.getD 0 0))),.p (.int .i64 ((yg20.getD 1 0))),.p (.int .i64 ((yg20.getD 2 0))),.p (.int .i64 ((yg20.getD 3 0)))]),rfl⟩
end
end Go.Ev
namespace Go.Ev
open Go.Proofs
set_option linter.unusedVariables false
set_option linter.unusedSimpArgs false
set_option maxRecDepth 100000
noncomputable section
abbrev KT5:=Exit→Env→H→Option (List C × H)
variable (rec : CallF) (loop : LoopV) (σ : Stamp)
theorem knap_Better_entry (x0 : V) (x1 : V) (h : H) : cvBody G rec loop 161 σ [x0,x1] h =
(boxO false (0::0::0::σ) 2 (List.replicate 9 []::h) x0).bind fun q1 =>
(boxO false (1::0::0::σ) 3 q1.2 x1).bind fun q2 =>
(slA 4 1 q2.2 q1.1 none none none).bind fun t3 =>
(slA 4 1 q2.2 q2.1 none none none).bind fun t4 =>
(callO rec 177 (2::0::1::0::σ) [t3,t4] q2.2 (some 7)).bind fun q5 =>
(castI .i64 q5.1).bind fun n6 =>
fin false σ q5.2 [(.p (.bool (decide (n6 > 0))))]:=by kernel_rfl
def slices_Compare_Lint_int_c0 : Code:=(codeAt (bodyOf Try.f177) [1,0,1,0,0])
def slices_Compare_Lint_int_l0 : Lv:=⟨3,16,[(0,3)]⟩
def slices_Compare_Lint_int_k0 : KT5:=(kBlock 0 (kSeq G rec loop (codeAt (bodyOf Try.f177) [1,1]) ⟨16,16,[]⟩ (1::0::σ) (finC G false Try.f177 (1::σ))))
theorem slices_Compare_Lint_int_entry (x0 : V) (x1 : V) (h : H) : cvBody G rec loop 177 σ [x0,x1] h =
(lenO x0).bind fun t1 =>
(castI .i64 t1).bind fun n2 =>
(loop slices_Compare_Lint_int_c0 slices_Compare_Lint_int_l0 (1::0::1::0::σ) (envL [(0,x0),(1,x1),(9,x0),(10,(.p (.int .i64 n2))),(11,(.p (.int .i64 0)))]) (List.replicate 36 []::h)).bind fun r3 => slices_Compare_Lint_int_k0 rec loop σ r3.1 r3.2.1 r3.2.2:=by kernel_rfl
theorem slices_Compare_Lint_int_r0 (x0 : V) (x1 : V) (x9 : V) (x10 : Int) (x11 : Int) (h : H) : cvRound G rec loop slices_Compare_Lint_int_c0 slices_Compare_Lint_int_l0 σ (envL [(0,x0),(1,x1),(9,x9),(10,(.p (.int .i64 x10))),(11,(.p (.int .i64 x11)))]) h =
bif decide (x11 < x10) then (
(iS 1 x9 x11).bind fun t4 =>
(ldO false 1 h t4).bind fun t5 =>
(castI .i64 t5).bind fun n6 =>
(lenO x1).bind fun t7 =>
(castI .i64 t7).bind fun n8 =>
bif decide (x11 ≥ n8) then (
some (.ret,(envL [(4,(.p (.int .i64 1)))]),h))
else (
(iS 1 x1 x11).bind fun t9 =>
(ldO false 1 h t9).bind fun t10 =>
(castI .i64 t10).bind fun n11 =>
(callO rec 119 (2::0::1::1::1::0::1::1::0::σ) [(.p (.int .i64 n6)),(.p (.int .i64 n11))] h (some 26)).bind fun q12 =>
(castI .i64 q12.1).bind fun n13 =>
bif n13 != 0 then (
some (.ret,(envL [(4,(.p (.int .i64 n13)))]),q12.2))
else (
loop slices_Compare_Lint_int_c0 slices_Compare_Lint_int_l0 (1::σ) (envL [(0,x0),(1,x1),(9,x9),(10,(.p (.int .i64 x10))),(11,(.p (.int .i64 (IntKind.wrap .i64 (x11 + 1)))))]) q12.2)))
else (
some ((.exit 0),(envL [(0,x0),(1,x1)]),h)):=by kernel_rfl
theorem slices_Compare_Lint_int_a0_0 (x0 : V) (x1 : V) (h : H) : slices_Compare_Lint_int_k0 rec loop σ (.exit 0) (envL [(0,x0),(1,x1)]) h =
(lenO x0).bind fun t14 =>
(castI .i64 t14).bind fun n15 =>
(lenO x1).bind fun t16 =>
(castI .i64 t16).bind fun n17 =>
bif decide (n15 < n17) then (
fin false σ h [(.p (.int .i64 (-1)))])
else (
fin false σ h [(.p (.int .i64 0))]):=by kernel_rfl
theorem slices_Compare_Lint_int_a0_ret (x4 : Int) (h : H) : slices_Compare_Lint_int_k0 rec loop σ .ret (envL [(4,(.p (.int .i64 x4)))]) h =
fin false σ h [(.p (.int .i64 x4))]:=by kernel_rfl
theorem cmp_Compare_int_entry (x0 : Int) (x1 : Int) (h : H) : cvBody G rec loop 119 σ [(.p (.int .i64 x0)),(.p (.int .i64 x1))] h =
(callO rec 157 (1::0::1::0::σ) [(.p (.int .i64 x0))] (List.replicate 20 []::h) (some 8)).bind fun q1 =>
(asB q1.1).bind fun b2 =>
(callO rec 157 (1::0::1::1::0::σ) [(.p (.int .i64 x1))] q1.2 (some 10)).bind fun q3 =>
(asB q3.1).bind fun b4 =>
bif b2 then (
bif b4 then (
fin false σ q3.2 [(.p (.int .i64 0))])
else (
fin false σ q3.2 [(.p (.int .i64 (-1)))]))
else (
bif b4 then (
fin false σ q3.2 [(.p (.int .i64 1))])
else (
bif decide (x0 < x1) then (
fin false σ q3.2 [(.p (.int .i64 (-1)))])
else (
bif decide (x0 > x1) then (
fin false σ q3.2 [(.p (.int .i64 1))])
else (
fin false σ q3.2 [(.p (.int .i64 0))])))):=by kernel_rfl
theorem cmp_isNaN_int_entry (x0 : Int) (h : H) : cvBody G rec loop 157 σ [(.p (.int .i64 x0))] h =
fin false σ (List.replicate 6 []::h) [(.p (.bool (x0 != x0)))]:=by kernel_rfl
end
end Go.Ev
namespace Go.Ev
open Go.Proofs
set_option linter.unusedVariables false
set_option linter.unusedSimpArgs false
set_option maxRecDepth 100000
section
variable {β α : Type} {Q : β→α→Prop} {K : Exit × Env × H→Option α}
def p_cmp_isNaN_int (x0 : Int) : Option (Bool) :=
some ((x0 != x0))
theorem cmp_isNaN_int_ok {h : H} {σ : Stamp} (x0 : Int) : Sim (p_cmp_isNaN_int x0) (ev G X0 157 σ [(.p (.int .i64 x0))] h) (fun r s => s = ([.v (.p (.bool r))],h)):=by
 refine .ev rfl (Sim.ext (cmp_isNaN_int_entry _ _ _ _ _) ?_)
 rw [p_cmp_isNaN_int]
 have S0 : Fm 6 h [] [] [] (List.replicate 6 []::h):=Fm.start0
 exact .fin (S0.finN (lC (sB _).lv lN)) rfl
def p_cmp_Compare_int (x0 : Int) (x1 : Int) : Option (Int) :=
(p_cmp_isNaN_int x0).bind fun r1 =>
(p_cmp_isNaN_int x1).bind fun r6 =>
bif r1 then (
bif r6 then (
some (0))
else (
some ((-1))))
else (
bif r6 then (
some (1))
else (
bif decide (x0 < x1) then (
some ((-1)))
else (
bif decide (x0 > x1) then (
some (1))
else (
some (0)))))
theorem cmp_Compare_int_ok {h : H} {σ : Stamp} (x0 : Int) (x1 : Int) : Sim (p_cmp_Compare_int x0 x1) (ev G X0 119 σ [(.p (.int .i64 x0)),(.p (.int .i64 x1))] h) (fun r s => s = ([.v (.p (.int .i64 r))],h)):=by
 refine .ev rfl (Sim.ext (cmp_Compare_int_entry _ _ _ _ _ _) ?_)
 rw [p_cmp_Compare_int]
 have S0 : Fm 20 h [] [] [] (List.replicate 20 []::h):=Fm.start0
 refine .call (cmp_isNaN_int_ok x0) fun r1 cs2 H3 h4 q5 => ?_
 cases q5
 refine .ab ?_
 refine .call (cmp_isNaN_int_ok x1) fun r6 cs7 H8 h9 q10 => ?_
 cases q10
 refine .ab ?_
 refine .cq ?_ ?_
 ·refine .cq ?_ ?_
  ·exact .fin (S0.finN (lC (sI _ _).lv lN)) rfl
  exact .fin (S0.finN (lC (sI _ _).lv lN)) rfl
 refine .cq ?_ ?_
 ·exact .fin (S0.finN (lC (sI _ _).lv lN)) rfl
 refine .cq ?_ ?_
 ·exact .fin (S0.finN (lC (sI _ _).lv lN)) rfl
 refine .cq ?_ ?_
 ·exact .fin (S0.finN (lC (sI _ _).lv lN)) rfl
 exact .fin (S0.finN (lC (sI _ _).lv lN)) rfl
def p_slices_Compare_Lint_int_l0 {β : Type} (k : Nat) (kE0 : (List Int)→(List Int)→Option β) (kE1 : Int→Option β) (x0 : (List Int)) (x1 : (List Int)) (x9 : (List Int)) (x10 : Int) (x11 : Int) : Option β:=match k with
| 0 => none
| k + 1 =>
bif decide (x11 < x10) then (
(ix x9 x11).bind fun a10 =>
bif decide (x11 ≥ ((x1.length : Int))) then (
kE1 1)
else (
(ix x1 x11).bind fun a14 =>
(p_cmp_Compare_int a10 a14).bind fun r17 =>
bif r17 != 0 then (
kE1 r17)
else (
p_slices_Compare_Lint_int_l0 k kE0 kE1 x0 x1 x9 x10 (IntKind.wrap .i64 (x11 + 1)))))
else (
kE0 x0 x1)
def p_slices_Compare_Lint_int (k : Nat) (x0 : (List Int)) (x1 : (List Int)) : Option (Int) :=
p_slices_Compare_Lint_int_l0 k (fun r31_0 r31_1 =>
bif decide (((r31_0.length : Int)) < ((r31_1.length : Int))) then (
some ((-1)))
else (
some (0))) (fun r39_4 =>
some (r39_4)) x0 x1 x0 ((x0.length : Int)) 0
theorem slices_Compare_Lint_int_l0_ok {h : H}  {kE0 : (List Int)→(List Int)→Option β} {kE1 : Int→Option β} (hE0 : ∀ (q0 : (List Int)) (q1 : (List Int)) (v25 : V) (h26 : SlH h (dI .i64) q0 v25) (v27 : V) (h28 : SlH h (dI .i64) q1 v27) (H23 : Go.Ev.H) (_ : Fm 36 h [] [] [] H23),Sim (kE0 q0 q1) (K ((.exit 0),(envL [(0,v25),(1,v27)]),H23)) Q) (hE1 : ∀ (q4 : Int) (H29 : Go.Ev.H) (_ : Fm 36 h [] [] [] H29),Sim (kE1 q4) (K (.ret,(envL [(4,(.p (.int .i64 q4)))]),H29)) Q) (k : Nat) : ∀ (x0 : (List Int)) (x1 : (List Int)) (x9 : (List Int)) (x10 : Int) (x11 : Int) (v3 : V) (h4 : SlH h (dI .i64) x0 v3) (v5 : V) (h6 : SlH h (dI .i64) x1 v5) (v7 : V) (h8 : SlH h (dI .i64) x9 v7) (H1 : Go.Ev.H) (_ : Fm 36 h [] [] [] H1) {σ : Stamp},Sim (p_slices_Compare_Lint_int_l0 k kE0 kE1 x0 x1 x9 x10 x11) ((cvL G X0 slices_Compare_Lint_int_c0 slices_Compare_Lint_int_l0 σ (envL [(0,v3),(1,v5),(9,v7),(10,(.p (.int .i64 x10))),(11,(.p (.int .i64 x11)))]) H1).bind K) Q:=by
 induction k with
 | zero => intros; exact .no
 | succ k ih =>
  intro x0 x1 x9 x10 x11 v3 h4 v5 h6 v7 h8 H1 S2 σ
  rw [p_slices_Compare_Lint_int_l0]
  refine .round (Sim.ext (slices_Compare_Lint_int_r0 _ _ _ _ _ _ _ _ _) ?_)
  refine .cq ?_ ?_
  ·refine .bd fun a10 h11 => ?_
   refine .op ((S2.low h8).iS h11 rfl) ?_
   obtain ⟨_,rfl,hE12⟩:=(S2.low h8).el h11 rfl
   refine .op (hE12.ld (j:=0) rfl) ?_
   refine .ci ?_
   refine .op ((S2.low h6).len) ?_
   refine .ci ?_
   refine .cq ?_ ?_
   ·exact hE1 1 H1 (S2.wk2 aN aN)
   refine .bd fun a14 h15 => ?_
   refine .op ((S2.low h6).iS h15 rfl) ?_
   obtain ⟨_,rfl,hE16⟩:=(S2.low h6).el h15 rfl
   refine .op (hE16.ld (j:=0) rfl) ?_
   refine .ci ?_
   refine .call (cmp_Compare_int_ok a10 a14) fun r17 cs18 H19 h20 q21 => ?_
   cases q21
   refine .ci ?_
   refine .cq ?_ ?_
   ·exact hE1 r17 H1 (S2.wk2 aN aN)
   exact ih x0 x1 x9 x10 (IntKind.wrap .i64 (x11 + 1)) v3 h4 v5 h6 v7 h8 H1 (S2.wk2 aN aN)
  exact hE0 x0 x1 v3 h4 v5 h6 H1 (S2.wk2 aN aN)
theorem slices_Compare_Lint_int_ok (k : Nat) {h : H} {σ : Stamp} (x0 : List Int) {u0 : V} (hu0 : SlH h (dI .i64) x0 u0) (x1 : List Int) {u1 : V} (hu1 : SlH h (dI .i64) x1 u1) : Sim (p_slices_Compare_Lint_int k x0 x1) (ev G X0 177 σ [u0,u1] h) (fun r s => s = ([.v (.p (.int .i64 r))],h)):=by
 refine .ev rfl (Sim.ext (slices_Compare_Lint_int_entry _ _ _ _ _ _) ?_)
 rw [p_slices_Compare_Lint_int]
 have S0 : Fm 36 h [] [] [] (List.replicate 36 []::h):=Fm.start0
 refine .op ((S0.low hu0).len) ?_
 refine .ci ?_
 refine .as (slices_Compare_Lint_int_l0_ok ?_ ?_ k x0 x1 x0 ((x0.length : Int)) 0 u0 hu0 u1 hu1 u0 hu0 (List.replicate 36 []::h) (S0.wk2 aN aN))
 ·intro r31_0 r31_1 v34 h35 v36 h37 H32 S33
  refine .ext (slices_Compare_Lint_int_a0_0 _ _ _ _ _ _) ?_
  refine .op ((S33.low h35).len) ?_
  refine .ci ?_
  refine .op ((S33.low h37).len) ?_
  refine .ci ?_
  refine .cq ?_ ?_
  ·exact .fin (S33.finN (lC (sI _ _).lv lN)) rfl
  exact .fin (S33.finN (lC (sI _ _).lv lN)) rfl
 ·intro r39_4 H40 S41
  refine .ext (slices_Compare_Lint_int_a0_ret _ _ _ _ _) ?_
  exact .fin (S41.finN (lC (sI _ _).lv lN)) rfl
def p_knap_Better (k : Nat) (x0 : (List Int)) (x1 : (List Int)) : Option (Bool) :=
(p_slices_Compare_Lint_int k ([((x0.getD 0 0)),((x0.getD 1 0)),((x0.getD 2 0)),((x0.getD 3 0))]) ([((x1.getD 0 0)),((x1.getD 1 0)),((x1.getD 2 0)),((x1.getD 3 0))])).bind fun r9 =>
some ((decide (r9 > 0)))
theorem knap_Better_ok (k : Nat) {h : H} {σ : Stamp} (x0 : (List Int)) {u0 : List V} (hu0 : (dA 4 (dI .i64)).R x0 u0) (x1 : (List Int)) {u1 : List V} (hu1 : (dA 4 (dI .i64)).R x1 u1) : Sim (p_knap_Better k x0 x1) (ev G X0 161 σ [(.agg u0),(.agg u1)] h) (fun r s => s = ([.v (.p (.bool r))],h)):=by
 refine .ev rfl (Sim.ext (knap_Better_entry _ _ _ _ _ _) ?_)
 rw [p_knap_Better]
 obtain rfl : u0 = [(.p (.int .i64 ((x0.getD 0 0)))),(.p (.int .i64 ((x0.getD 1 0)))),(.p (.int .i64 ((x0.getD 2 0)))),(.p (.int .i64 ((x0.getD 3 0))))]:=dA_int hu0
 obtain rfl : u1 = [(.p (.int .i64 ((x1.getD 0 0)))),(.p (.int .i64 ((x1.getD 1 0)))),(.p (.int .i64 ((x1.getD 2 0)))),(.p (.int .i64 ((x1.getD 3 0))))]:=dA_int hu1
 have S0 : Fm 9 h [] [] [] (List.replicate 9 []::h):=Fm.start0
 obtain ⟨H1,e2,S3⟩:=S0.box (own:=false) (d:=2) (s:=(0::0::0::σ)) (xs:=[(.p (.int .i64 ((x0.getD 0 0)))),(.p (.int .i64 ((x0.getD 1 0)))),(.p (.int .i64 ((x0.getD 2 0)))),(.p (.int .i64 ((x0.getD 3 0))))]) (sC (sI _ _) (sC (sI _ _) (sC (sI _ _) (sC (sI _ _) sN)))) (by decide) rfl
 refine .op (e2) ?_
 obtain ⟨H5,e6,S7⟩:=S3.box (own:=false) (d:=3) (s:=(1::0::0::σ)) (xs:=[(.p (.int .i64 ((x1.getD 0 0)))),(.p (.int .i64 ((x1.getD 1 0)))),(.p (.int .i64 ((x1.getD 2 0)))),(.p (.int .i64 ((x1.getD 3 0))))]) (sC (sI _ _) (sC (sI _ _) (sC (sI _ _) (sC (sI _ _) sN)))) (by decide) rfl
 refine .op (e6) ?_
 refine .op ((slA_ok (S7.atG (i:=1) rfl) (xs:=[((x0.getD 0 0)),((x0.getD 1 0)),((x0.getD 2 0)),((x0.getD 3 0))]) (j:=0) (n:=4) (f:=fun z => .p (.int .i64 z)) rfl (dI_map _) rfl (by decide) rfl).1) ?_
 refine .op ((slA_ok (S7.atG (i:=0) rfl) (xs:=[((x1.getD 0 0)),((x1.getD 1 0)),((x1.getD 2 0)),((x1.getD 3 0))]) (j:=0) (n:=4) (f:=fun z => .p (.int .i64 z)) rfl (dI_map _) rfl (by decide) rfl).1) ?_
 refine .call (slices_Compare_Lint_int_ok k ([((x0.getD 0 0)),((x0.getD 1 0)),((x0.getD 2 0)),((x0.getD 3 0))]) (slA_ok (S7.atG (i:=1) rfl) (xs:=[((x0.getD 0 0)),((x0.getD 1 0)),((x0.getD 2 0)),((x0.getD 3 0))]) (j:=0) (n:=4) (f:=fun z => .p (.int .i64 z)) rfl (dI_map _) rfl (by decide) rfl).2 ([((x1.getD 0 0)),((x1.getD 1 0)),((x1.getD 2 0)),((x1.getD 3 0))]) (slA_ok (S7.atG (i:=0) rfl) (xs:=[((x1.getD 0 0)),((x1.getD 1 0)),((x1.getD 2 0)),((x1.getD 3 0))]) (j:=0) (n:=4) (f:=fun z => .p (.int .i64 z)) rfl (dI_map _) rfl (by decide) rfl).2) fun r9 cs10 H11 h12 q13 => ?_
 cases q13
 refine .ci ?_
 exact .fin (S7.finN (lC (sB _).lv lN)) rfl
end
end Go.Ev
namespace Go.Ev
namespace Knap
structure OkC (c : TaiChoice) : Prop where
 c0 : 0 ≤ c.Class
 c4 : c.Class < 4
 len : c.Costs.length = c.Goods.length
 l4 : c.Costs.length ≤ 4
 cb : ∀ q,c.Costs.getD q 0 ≤ 1048576
 g0 : ∀ q,0 ≤ c.Goods.getD q 0
 gb : ∀ q,c.Goods.getD q 0 ≤ 1048576
def ch (l : List TaiChoice) (q : Nat) : TaiChoice:=l.getD q ⟨0,[],[]⟩
def OkL (l : List TaiChoice) : Prop:=∀ q,OkC (ch l q)
def hasB (c : TaiChoice) (p : Int) : Bool:=decide (0 ≤ p∧p < (c.Costs.length : Int)∧0 ≤ c.Costs.getD p.toNat 0)
def fitB (c : TaiChoice) (p : Int) : Bool:=p == -1 || hasB c p
def cst (c : TaiChoice) (p : Int) : Int:=if hasB c p = true then c.Costs.getD p.toNat 0 else 0
def gdv (c : TaiChoice) (p : Int) : Int:=if hasB c p = true then c.Goods.getD p.toNat 0 else 0
def sm (f : Nat→Int) : Nat→Int
 | 0 => 0
 | n + 1 => sm f n + f n
def cf (l : List TaiChoice) (z : List Int) (q : Nat) : Int:=cst (ch l q) (z.getD q 0)
def gf (l : List TaiChoice) (z : List Int) (j : Int) (q : Nat) : Int:=if (ch l q).Class = j then gdv (ch l q) (z.getD q 0) else 0
def costL (l : List TaiChoice) (z : List Int) : Int:=sm (cf l z) z.length
def goodL (l : List TaiChoice) (z : List Int) : List Int:=[sm (gf l z 0) z.length,sm (gf l z 1) z.length,sm (gf l z 2) z.length,sm (gf l z 3) z.length]
theorem cst_has {c : TaiChoice} {p : Int} (h : hasB c p = true) : cst c p = c.Costs.getD p.toNat 0:=if_pos h
theorem cst_no {c : TaiChoice} {p : Int} (h : hasB c p = false) : cst c p = 0:=if_neg (by rw [h]; exact Bool.false_ne_true)
theorem gdv_has {c : TaiChoice} {p : Int} (h : hasB c p = true) : gdv c p = c.Goods.getD p.toNat 0:=if_pos h
theorem gdv_no {c : TaiChoice} {p : Int} (h : hasB c p = false) : gdv c p = 0:=if_neg (by rw [h]; exact Bool.false_ne_true)
theorem cst_lo {c : TaiChoice} {p : Int} : 0 ≤ cst c p:=by
 unfold cst
 split
 ·rename_i h
  simp only [hasB,decide_eq_true_eq] at h
  exact h.2.2
 ·omega
theorem cst_hi {c : TaiChoice} (h : OkC c) {p : Int} : cst c p ≤ 1048576:=by
 unfold cst
 split
 ·exact h.cb _
 ·omega
theorem gdv_lo {c : TaiChoice} (h : OkC c) {p : Int} : 0 ≤ gdv c p:=by
 unfold gdv
 split
 ·exact h.g0 _
 ·omega
theorem gdv_hi {c : TaiChoice} (h : OkC c) {p : Int} : gdv c p ≤ 1048576:=by
 unfold gdv
 split
 ·exact h.gb _
 ·omega
theorem sm_bd {f : Nat→Int} (h0 : ∀ q,0 ≤ f q) (h1 : ∀ q,f q ≤ 1048576) : ∀ n : Nat,0 ≤ sm f n∧sm f n ≤ 1048576 * n
 | 0 => ⟨by simp [sm],by simp [sm]⟩
 | n + 1 => by
  have:=sm_bd h0 h1 n
  have a:=h0 n
  have b:=h1 n
  simp only [sm]
  omega
theorem cf_bd {l : List TaiChoice} (hl : OkL l) (z : List Int) (n : Nat) : 0 ≤ sm (cf l z) n∧sm (cf l z) n ≤ 1048576 * n:=sm_bd (fun _ => cst_lo) (fun q => cst_hi (hl q)) n
theorem gf_bd {l : List TaiChoice} (hl : OkL l) (z : List Int) (j : Int) (n : Nat) : 0 ≤ sm (gf l z j) n∧sm (gf l z j) n ≤ 1048576 * n :=
 sm_bd (fun q => by unfold gf; split; exact gdv_lo (hl q); omega) (fun q => by unfold gf; split; exact gdv_hi (hl q); omega) n
theorem ix_get {α : Type} {xs : List α} {i : Int} {d : α} (h0 : 0 ≤ i) (h1 : i < xs.length) : ix xs i = some (xs.getD i.toNat d):=by
 unfold ix
 rw [if_pos h0,List.getElem?_eq_getElem (by omega)]
 simp [List.getD,List.getElem?_eq_getElem (show i.toNat < xs.length by omega)]
theorem ix_ch {l : List TaiChoice} {i : Nat} (h : i < l.length) : ix l (i : Int) = some (ch l i):=ix_get (by omega) (by omega)
theorem ix_z {z : List Int} {i : Nat} (h : i < z.length) : ix z (i : Int) = some (z.getD i 0):=ix_get (by omega) (by omega)
theorem has_ok {c : TaiChoice} (h : OkC c) (p : Int) : p_knap_has c p = some (hasB c p):=by
 unfold p_knap_has
 have hmin : (if ((c.Costs.length : Int)) < 4 then ((c.Costs.length : Int)) else 4) = (c.Costs.length : Int):=by
  have:=h.l4
  split <;> omega
 rw [hmin]
 by_cases h0 : 0 ≤ p
 ·by_cases h1 : p < (c.Costs.length : Int)
  ·rw [ix_get (d:=0) h0 h1]
   simp [hasB,h0,h1]
  ·simp [hasB,h0,h1]
 ·simp [hasB,h0]
theorem fits_ok {c : TaiChoice} (h : OkC c) (p : Int) : p_knap_fits c p = some (fitB c p):=by
 unfold p_knap_fits
 rw [has_ok h]
 cases hp : (p == -1)
 ·cases hh : hasB c p
  ·simp [fitB,hp,hh]
  ·have hh2:=hh
   simp only [hasB,decide_eq_true_eq] at hh2
   have:=h.len
   have e1 : decide (p < (c.Goods.length : Int)) = true:=by simp; omega
   have e2 : decide (c.Class ≥ 0) = true:=by simpa using h.c0
   have e3 : decide (c.Class < 4) = true:=by simpa using h.c4
   simp [fitB,hp,hh,e1,e2,e3]
 ·simp [fitB,hp]
theorem has_neg {c : TaiChoice} : hasB c (-1) = false:=by simp [hasB]
theorem add_ok {a b : Int} (ha : 0 ≤ a) (ha2 : a ≤ 2147483648) (hb : 0 ≤ b) (hb2 : b ≤ 2147483648) : p_knap_add a b = some (a + b):=by
 unfold p_knap_add
 rw [wrap_i64 (n:=9223372036854775807 - b) (by omega) (by omega),wrap_i64 (n:=a + b) (by omega) (by omega)]
 have : decide (a > 9223372036854775807 - b) = false:=by simp; omega
 rw [this,cond_false]
theorem wrap_nat {i : Nat} (h : i < 1000) : IntKind.wrap .i64 ((i : Int) + 1) = ((i + 1 : Nat) : Int):=by rw [wrap_i64 (by omega) (by omega)]; omega
theorem cost_loop {β : Type} {l : List TaiChoice} {z : List Int} (hl : OkL l) (hlz : z.length ≤ l.length) (h8 : l.length ≤ 8) (kE : Int→Option β) : ∀ m i k : Nat,i + m = z.length→m < k→p_knap_Cost_l0 k kE l (sm (cf l z) i) z (z.length : Int) (i : Int) = kE (costL l z):=by
 intro m
 induction m with
 | zero =>
  intro i k hi hk
  obtain ⟨k,rfl⟩ : ∃ j,k = j + 1:=⟨k - 1,by omega⟩
  rw [p_knap_Cost_l0]
  have : decide ((i : Int) < (z.length : Int)) = false:=by simp; omega
  rw [this,cond_false]
  have : i = z.length:=by omega
  rw [this]; rfl
 | succ m ih =>
  intro i k hi hk
  obtain ⟨k,rfl⟩ : ∃ j,k = j + 1:=⟨k - 1,by omega⟩
  rw [p_knap_Cost_l0]
  have e1 : decide ((i : Int) < (z.length : Int)) = true:=by simp; omega
  have e2:=has_ok (hl i) (z.getD i 0)
  have nx:=ih (i + 1) k (by omega) (by omega)
  have hs : sm (cf l z) (i + 1) = sm (cf l z) i + cst (ch l i) (z.getD i 0):=rfl
  rw [e1,cond_true,ix_z (by omega),Option.bind_some,ix_ch (by omega),Option.bind_some,e2,Option.bind_some,wrap_nat (by omega)]
  cases hb : hasB (ch l i) (z.getD i 0)
  ·rw [cond_false,← nx,hs,cst_no hb,Int.add_zero]
  ·have hb2:=hb
   simp only [hasB,decide_eq_true_eq] at hb2
   have hc : cst (ch l i) (z.getD i 0) = (ch l i).Costs.getD (z.getD i 0).toNat 0:=cst_has hb
   have bd:=cf_bd hl z i
   have hh:=(hl i).cb (z.getD i 0).toNat
   rw [cond_true,Option.bind_some,ix_get (d:=0) hb2.1 hb2.2.1,Option.bind_some,add_ok bd.1 (by omega) hb2.2.2 (by omega),Option.bind_some,← nx,hs,hc]
theorem sub_all {α : Type} {z : List α} {n : Int} (h : n = z.length) : sub z 0 n = some z:=by
 subst h
 unfold sub
 rw [if_pos ⟨by omega,by omega,by omega⟩]
 simp
theorem cost_ok {l : List TaiChoice} {z : List Int} {k : Nat} (hl : OkL l) (hlz : z.length = l.length) (h8 : l.length ≤ 8) (hk : 10 ≤ k) : p_knap_Cost k l z = some (costL l z):=by
 unfold p_knap_Cost
 have hmin : (if ((l.length : Int)) < ((z.length : Int)) then ((l.length : Int)) else ((z.length : Int))) = (z.length : Int):=by
  split <;> omega
 rw [hmin,sub_all rfl,Option.bind_some]
 exact cost_loop (z:=z) hl (by omega) h8 _ z.length 0 k (by omega) (by omega)
theorem set4 {a b c d : Int} {cls x : Int} (h0 : 0 ≤ cls) (h4 : cls < 4) : stx [a,b,c,d] cls x = some [if cls = 0 then x else a,if cls = 1 then x else b,if cls = 2 then x else c,if cls = 3 then x else d]:=by
 have : cls = 0 ∨ cls = 1 ∨ cls = 2 ∨ cls = 3:=by omega
 rcases this with rfl | rfl | rfl | rfl <;> rfl
theorem ix4 {a b c d : Int} {cls : Int} (h0 : 0 ≤ cls) (h4 : cls < 4) : ix [a,b,c,d] cls = some (if cls = 0 then a else if cls = 1 then b else if cls = 2 then c else d):=by
 have : cls = 0 ∨ cls = 1 ∨ cls = 2 ∨ cls = 3:=by omega
 rcases this with rfl | rfl | rfl | rfl <;> rfl
theorem good_loop {β : Type} {l : List TaiChoice} {z : List Int} (hl : OkL l) (hlz : z.length ≤ l.length) (h8 : l.length ≤ 8) (kE : List Int→List Int→Option β) : ∀ m i k : Nat,i + m = z.length→m < k →
  p_knap_Good_l0 k kE l z (z.length : Int) (i : Int) [0,0,0,0] [sm (gf l z 0) i,sm (gf l z 1) i,sm (gf l z 2) i,sm (gf l z 3) i] = kE [0,0,0,0] (goodL l z):=by
 intro m
 induction m with
 | zero =>
  intro i k hi hk
  obtain ⟨k,rfl⟩ : ∃ j,k = j + 1:=⟨k - 1,by omega⟩
  rw [p_knap_Good_l0]
  have : decide ((i : Int) < (z.length : Int)) = false:=by simp; omega
  rw [this,cond_false]
  have : i = z.length:=by omega
  rw [this]; rfl
 | succ m ih =>
  intro i k hi hk
  obtain ⟨k,rfl⟩ : ∃ j,k = j + 1:=⟨k - 1,by omega⟩
  rw [p_knap_Good_l0]
  have e1 : decide ((i : Int) < (z.length : Int)) = true:=by simp; omega
  have e2:=fits_ok (hl i) (z.getD i 0)
  have nx:=ih (i + 1) k (by omega) (by omega)
  have hs : ∀ j,sm (gf l z j) (i + 1) = sm (gf l z j) i + gf l z j i:=fun _ => rfl
  rw [e1,cond_true,ix_z (by omega),Option.bind_some,ix_ch (by omega),Option.bind_some,e2,wrap_nat (by omega)]
  simp only [Option.bind_some]
  cases hb : hasB (ch l i) (z.getD i 0)
  ·have hz : (bif decide (z.getD i 0 ≥ 0) then some (fitB (ch l i) (z.getD i 0)) else some false) = some false:=by
    by_cases h0 : z.getD i 0 ≥ 0
    ·have : (z.getD i 0 == -1) = false:=beq_eq_false_iff_ne.2 (by omega)
     simp only [h0,fitB,hb,this,decide_true,cond_true,Bool.or_false]
    ·simp only [h0,decide_false,cond_false]
   have hg : ∀ j,sm (gf l z j) (i + 1) = sm (gf l z j) i:=fun j => by rw [hs,gf,gdv_no hb]; simp
   rw [hz]
   simp only [Option.bind_some,cond_false]
   rw [← nx,hg,hg,hg,hg]
   rfl
  ·have hb2:=hb
   simp only [hasB,decide_eq_true_eq] at hb2
   have h0 : decide (z.getD i 0 ≥ 0) = true:=by simpa using hb2.1
   have hf : fitB (ch l i) (z.getD i 0) = true:=by rw [fitB,hb,Bool.or_true]
   have c0:=(hl i).c0
   have c4:=(hl i).c4
   have hlen:=(hl i).len
   have hgl:=(hl i).g0 (z.getD i 0).toNat
   have hgh:=(hl i).gb (z.getD i 0).toNat
   have hgd : gdv (ch l i) (z.getD i 0) = (ch l i).Goods.getD (z.getD i 0).toNat 0:=gdv_has hb
   have b0:=gf_bd hl z 0 i
   have b1:=gf_bd hl z 1 i
   have b2:=gf_bd hl z 2 i
   have b3:=gf_bd hl z 3 i
   rw [h0,hf]
   simp only [cond_true,Option.bind_some]
   simp only [List.getD_cons_zero,List.getD_cons_succ]
   rw [ix4 c0 c4,ix_get (d:=0) (xs:=(ch l i).Goods) hb2.1 (by omega)]
   simp only [Option.bind_some]
   generalize (ch l i).Goods.getD (z.getD i 0).toNat 0 = y at *
   have hy : (if (if 1073741824 < y then 1073741824 else y) > 0 then (if 1073741824 < y then 1073741824 else y) else 0) = y:=by
    rw [if_neg (show ¬ 1073741824 < y by omega)]
    split <;> omega
   rw [hy]
   have hw : IntKind.wrap .i64 ((if (ch l i).Class = 0 then sm (gf l z 0) i else if (ch l i).Class = 1 then sm (gf l z 1) i else if (ch l i).Class = 2 then sm (gf l z 2) i else sm (gf l z 3) i) + y) = (if (ch l i).Class = 0 then sm (gf l z 0) i else if (ch l i).Class = 1 then sm (gf l z 1) i else if (ch l i).Class = 2 then sm (gf l z 2) i else sm (gf l z 3) i) + y:=by
    refine wrap_i64 ?_ ?_
    ·(repeat' split) <;> omega
    ·(repeat' split) <;> omega
   rw [hw,set4 c0 c4]
   simp only [Option.bind_some,List.getD_cons_zero,List.getD_cons_succ]
   rw [← nx]
   congr 1
   have hgf : ∀ j,gf l z j i = if (ch l i).Class = j then y else 0:=fun j => by unfold gf; rw [hgd]
   rw [hs,hs,hs,hs,hgf,hgf,hgf,hgf]
   have : (ch l i).Class = 0 ∨ (ch l i).Class = 1 ∨ (ch l i).Class = 2 ∨ (ch l i).Class = 3:=by omega
   rcases this with h | h | h | h <;> rw [h] <;> simp
theorem good_ok {l : List TaiChoice} {z : List Int} {k : Nat} (hl : OkL l) (hlz : z.length = l.length) (h8 : l.length ≤ 8) (hk : 10 ≤ k) : p_knap_Good k l z = some (goodL l z):=by
 unfold p_knap_Good
 have hmin : (if ((l.length : Int)) < ((z.length : Int)) then ((l.length : Int)) else ((z.length : Int))) = (z.length : Int):=by
  split <;> omega
 rw [hmin,sub_all rfl,Option.bind_some]
 have:=good_loop (z:=z) hl (by omega) h8 (fun yg18 yg20 => some [yg20.getD 0 0,yg20.getD 1 0,yg20.getD 2 0,yg20.getD 3 0]) z.length 0 k (by omega) (by omega)
 exact this
end Knap
end Go.Ev
namespace Go.Ev
namespace Knap
theorem cmp_ok (a b : Int) : p_cmp_Compare_int a b = some (if a < b then -1 else if b < a then 1 else 0):=by
 unfold p_cmp_Compare_int p_cmp_isNaN_int
 by_cases h1 : a < b
 ·simp [h1]
 ·by_cases h2 : b < a
  ·simp [h1,h2]
  ·simp [h1,h2]
theorem cmp_step {β : Type} {kE0 : List Int→List Int→Option β} {kE1 : Int→Option β} {a b : List Int} (ha : a.length = 4) (hb : b.length = 4) {i k : Nat} (hi : i < 4) :
  p_slices_Compare_Lint_int_l0 (k + 1) kE0 kE1 a b a 4 (i : Int) = if a.getD i 0 < b.getD i 0 then kE1 (-1) else if b.getD i 0 < a.getD i 0 then kE1 1 else p_slices_Compare_Lint_int_l0 k kE0 kE1 a b a 4 ((i + 1 : Nat) : Int):=by
 rw [p_slices_Compare_Lint_int_l0]
 have e1 : decide ((i : Int) < 4) = true:=by simp; omega
 have e2 : decide ((i : Int) ≥ (b.length : Int)) = false:=by simp; omega
 rw [e1,cond_true,ix_z (by omega),Option.bind_some,e2,cond_false,ix_z (by omega),Option.bind_some,cmp_ok,Option.bind_some,wrap_nat (by omega)]
 split
 ·rfl
 ·split
  ·rfl
  ·rfl
theorem cmp_end {β : Type} {kE0 : List Int→List Int→Option β} {kE1 : Int→Option β} {a b : List Int} {k : Nat} :
  p_slices_Compare_Lint_int_l0 (k + 1) kE0 kE1 a b a 4 ((4 : Nat) : Int) = kE0 a b:=by
 rw [p_slices_Compare_Lint_int_l0]; rfl
def key (a : List Int) : Int:=a.getD 0 0 * 4722366482869645213696 + a.getD 1 0 * 281474976710656 + a.getD 2 0 * 16777216 + a.getD 3 0
structure G4 (a : List Int) : Prop where
 len : a = [a.getD 0 0,a.getD 1 0,a.getD 2 0,a.getD 3 0]
 h0 : 0 ≤ a.getD 0 0∧a.getD 0 0 ≤ 8388608
 h1 : 0 ≤ a.getD 1 0∧a.getD 1 0 ≤ 8388608
 h2 : 0 ≤ a.getD 2 0∧a.getD 2 0 ≤ 8388608
 h3 : 0 ≤ a.getD 3 0∧a.getD 3 0 ≤ 8388608
theorem better_ok {a b : List Int} (ha : G4 a) (hb : G4 b) {k : Nat} (hk : 10 ≤ k) : p_knap_Better k a b = some (decide (key b < key a)):=by
 obtain ⟨k,rfl⟩ : ∃ j,k = j + 1 + 1 + 1 + 1 + 1:=⟨k - 5,by omega⟩
 unfold p_knap_Better p_slices_Compare_Lint_int
 have la : [a.getD 0 0,a.getD 1 0,a.getD 2 0,a.getD 3 0].length = 4:=rfl
 have lb : [b.getD 0 0,b.getD 1 0,b.getD 2 0,b.getD 3 0].length = 4:=rfl
 obtain ⟨_,a0,a1,a2,a3⟩:=ha
 obtain ⟨_,b0,b1,b2,b3⟩:=hb
 unfold key
 generalize a.getD 0 0 = x0 at *
 generalize a.getD 1 0 = x1 at *
 generalize a.getD 2 0 = x2 at *
 generalize a.getD 3 0 = x3 at *
 generalize b.getD 0 0 = y0 at *
 generalize b.getD 1 0 = y1 at *
 generalize b.getD 2 0 = y2 at *
 generalize b.getD 3 0 = y3 at *
 have s0:=@cmp_step Int (fun r31_0 r31_1 => bif decide (((r31_0.length : Int)) < ((r31_1.length : Int))) then some (-1) else some 0) (fun r => some r) _ _ la lb 0 (k + 1 + 1 + 1 + 1) (by omega)
 have s1:=@cmp_step Int (fun r31_0 r31_1 => bif decide (((r31_0.length : Int)) < ((r31_1.length : Int))) then some (-1) else some 0) (fun r => some r) _ _ la lb 1 (k + 1 + 1 + 1) (by omega)
 have s2:=@cmp_step Int (fun r31_0 r31_1 => bif decide (((r31_0.length : Int)) < ((r31_1.length : Int))) then some (-1) else some 0) (fun r => some r) _ _ la lb 2 (k + 1 + 1) (by omega)
 have s3:=@cmp_step Int (fun r31_0 r31_1 => bif decide (((r31_0.length : Int)) < ((r31_1.length : Int))) then some (-1) else some 0) (fun r => some r) _ _ la lb 3 (k + 1) (by omega)
 have s4:=@cmp_end Int (fun r31_0 r31_1 => bif decide (((r31_0.length : Int)) < ((r31_1.length : Int))) then some (-1) else some 0) (fun r => some r) [x0,x1,x2,x3] [y0,y1,y2,y3] k
 have e4 : (([x0,x1,x2,x3].length : Nat) : Int) = 4:=rfl
 rw [s1,s2,s3,s4] at s0
 rw [e4]
 refine (congrArg (Option.bind · _) s0).trans ?_
 simp only [List.getD_cons_zero,List.getD_cons_succ]
 by_cases c0 : x0 < y0
 ·simp only [c0,if_true,Option.bind_some]; congr 1; simp; omega
 ·by_cases d0 : y0 < x0
  ·simp only [c0,d0,if_true,if_false,Option.bind_some]; congr 1; simp; omega
  ·by_cases c1 : x1 < y1
   ·simp only [c0,d0,c1,if_true,if_false,Option.bind_some]; congr 1; simp; omega
   ·by_cases d1 : y1 < x1
    ·simp only [c0,d0,c1,d1,if_true,if_false,Option.bind_some]; congr 1; simp; omega
    ·by_cases c2 : x2 < y2
     ·simp only [c0,d0,c1,d1,c2,if_true,if_false,Option.bind_some]; congr 1; simp; omega
     ·by_cases d2 : y2 < x2
      ·simp only [c0,d0,c1,d1,c2,d2,if_true,if_false,Option.bind_some]; congr 1; simp; omega
      ·by_cases c3 : x3 < y3
       ·simp only [c0,d0,c1,d1,c2,d2,c3,if_true,if_false,Option.bind_some]; congr 1; simp; omega
       ·by_cases d3 : y3 < x3
        ·simp only [c0,d0,c1,d1,c2,d2,c3,d3,if_true,if_false,Option.bind_some]; congr 1; simp; omega
        ·simp only [c0,d0,c1,d1,c2,d2,c3,d3,if_false]
         show some (decide ((0 : Int) > 0)) = _
         congr 1; simp; omega
theorem eq4 {a b : List Int} (ha : G4 a) (hb : G4 b) : andB [a.getD 0 0 == b.getD 0 0,a.getD 1 0 == b.getD 1 0,a.getD 2 0 == b.getD 2 0,a.getD 3 0 == b.getD 3 0] = decide (key a = key b):=by
 obtain ⟨_,a0,a1,a2,a3⟩:=ha
 obtain ⟨_,b0,b1,b2,b3⟩:=hb
 unfold key
 generalize a.getD 0 0 = x0 at *
 generalize a.getD 1 0 = x1 at *
 generalize a.getD 2 0 = x2 at *
 generalize a.getD 3 0 = x3 at *
 generalize b.getD 0 0 = y0 at *
 generalize b.getD 1 0 = y1 at *
 generalize b.getD 2 0 = y2 at *
 generalize b.getD 3 0 = y3 at *
 rw [Bool.eq_iff_iff]
 simp only [andB,Bool.and_true,Bool.and_eq_true,beq_iff_eq,decide_eq_true_eq]
 omega
theorem goodL_4 {l : List TaiChoice} (hl : OkL l) {z : List Int} (hz : z.length ≤ 8) : G4 (goodL l z):=by
 have b0:=gf_bd hl z 0 z.length
 have b1:=gf_bd hl z 1 z.length
 have b2:=gf_bd hl z 2 z.length
 have b3:=gf_bd hl z 3 z.length
 exact ⟨rfl,⟨b0.1,show sm (gf l z 0) z.length ≤ _ by omega⟩,⟨b1.1,show sm (gf l z 1) z.length ≤ _ by omega⟩,⟨b2.1,show sm (gf l z 2) z.length ≤ _ by omega⟩,⟨b3.1,show sm (gf l z 3) z.length ≤ _ by omega⟩⟩
def obj (l : List TaiChoice) (z : List Int) : Int:=key (goodL l z) * 16777216 - costL l z
def FA (l : List TaiChoice) (z : List Int) : Prop:=∀ q,q < l.length→fitB (ch l q) (z.getD q 0) = true
theorem fits_loop_yes {β : Type} {l : List TaiChoice} {z : List Int} (hl : OkL l) (hlz : z.length = l.length) (h8 : l.length ≤ 8) {b : Int} (kE0 : List TaiChoice→List Int→Int→Option β) (kE1 : Bool→Option β) (hf : FA l z) : ∀ m i k : Nat,i + m = z.length→m < k →
  p_knap_Fits_l0 k kE0 kE1 l z b z (z.length : Int) (i : Int) = kE0 l z b:=by
 intro m
 induction m with
 | zero =>
  intro i k hi hk
  obtain ⟨k,rfl⟩ : ∃ j,k = j + 1:=⟨k - 1,by omega⟩
  rw [p_knap_Fits_l0]
  have : decide ((i : Int) < (z.length : Int)) = false:=by simp; omega
  rw [this,cond_false]
 | succ m ih =>
  intro i k hi hk
  obtain ⟨k,rfl⟩ : ∃ j,k = j + 1:=⟨k - 1,by omega⟩
  rw [p_knap_Fits_l0]
  have e1 : decide ((i : Int) < (z.length : Int)) = true:=by simp; omega
  have hfi:=hf i (by omega)
  rw [e1,cond_true,ix_z (by omega),Option.bind_some,ix_ch (by omega),Option.bind_some,fits_ok (hl i),Option.bind_some,hfi,Bool.not_true,cond_false,wrap_nat (by omega)]
  exact ih (i + 1) k (by omega) (by omega)
theorem fits_loop_no {β : Type} {l : List TaiChoice} {z : List Int} (hl : OkL l) (hlz : z.length = l.length) (h8 : l.length ≤ 8) {b : Int} (kE0 : List TaiChoice→List Int→Int→Option β) (kE1 : Bool→Option β) {q : Nat} (hq : q < l.length) (hf : fitB (ch l q) (z.getD q 0) = false) : ∀ m i k : Nat,i + m = z.length→m < k→i ≤ q →
  p_knap_Fits_l0 k kE0 kE1 l z b z (z.length : Int) (i : Int) = kE1 false:=by
 intro m
 induction m with
 | zero => intro i k hi hk hiq; omega
 | succ m ih =>
  intro i k hi hk hiq
  obtain ⟨k,rfl⟩ : ∃ j,k = j + 1:=⟨k - 1,by omega⟩
  rw [p_knap_Fits_l0]
  have e1 : decide ((i : Int) < (z.length : Int)) = true:=by simp; omega
  rw [e1,cond_true,ix_z (by omega),Option.bind_some,ix_ch (by omega),Option.bind_some,fits_ok (hl i),Option.bind_some,wrap_nat (by omega)]
  cases hb : fitB (ch l i) (z.getD i 0)
  ·rfl
  ·rw [Bool.not_true,cond_false]
   have : i ≠ q:=fun e => by rw [e,hf] at hb; cases hb
   exact ih (i + 1) k (by omega) (by omega) (by omega)
theorem fits_iff {l : List TaiChoice} {z : List Int} {b : Int} {k : Nat} (hl : OkL l) (hlz : z.length = l.length) (h8 : l.length ≤ 8) (hk : 10 ≤ k) : ∃ r,p_knap_Fits k l z b = some r∧(r = true ↔ FA l z∧costL l z ≤ b):=by
 unfold p_knap_Fits
 have e : ((l.length : Int) != (z.length : Int)) = false:=by simp; omega
 rw [e,cond_false]
 by_cases hf : FA l z
 ·refine ⟨decide (costL l z ≤ b),(fits_loop_yes hl hlz h8 _ _ hf z.length 0 k (by omega) (by omega)).trans ?_,by simp [hf]⟩
  rw [cost_ok hl hlz h8 hk]; rfl
 ·obtain ⟨q,hq⟩:=Classical.not_forall.1 hf
  obtain ⟨h1,h2⟩:=Classical.not_imp.1 hq
  exact ⟨false,fits_loop_no hl hlz h8 _ _ h1 (by simpa using h2) z.length 0 k (by omega) (by omega) (by omega),by simp [hf]⟩
end Knap
end Go.Ev
namespace Go.Ev
open Go.Proofs
set_option linter.unusedVariables false
set_option linter.unusedSimpArgs false
set_option maxRecDepth 100000
noncomputable section
abbrev KT6:=Exit→Env→H→Option (List C × H)
variable (rec : CallF) (loop : LoopV) (σ : Stamp)
def knap_Best_c0 : Code:=(codeAt (bodyOf Try.f72) [1,1,1,1,1,1,0,1,0,0])
def knap_Best_l0 : Lv:=⟨128,16,[(0,128)]⟩
def knap_Best_k0 : KT6:=(kBlock 0 (kSeq G rec loop (codeAt (bodyOf Try.f72) [1,1,1,1,1,1,1]) ⟨16,16,[]⟩ (1::1::1::1::1::1::0::σ) (finC G false Try.f72 (1::σ))))
theorem knap_Best_entry (x0 : V) (x1 : Int) (h : H) : cvBody G rec loop 72 σ [x0,(.p (.int .i64 x1))] h =
(lenO x0).bind fun t1 =>
(castI .i64 t1).bind fun n2 =>
bif ((if n2 < 8 then n2 else 8)) == 0 then (
fin false σ (List.replicate 41 []::h) [(.p (.slice .none 0 0))])
else (
(slS 3 x0 none (some ((if n2 < 8 then n2 else 8))) none).bind fun t3 =>
(mkO 1 8 [.p (.int .i64 0)] (4::0::1::1::1::0::σ) 17 (List.replicate 41 []::h) ((if n2 < 8 then n2 else 8)) ((if n2 < 8 then n2 else 8))).bind fun q4 =>
need (slS 3 x0 none (some ((if n2 < 8 then n2 else 8))) none = some t3) (
(buildV Try.prog 186 [(0,t3),(1,q4.1)]).bind fun t5 =>
(boxO true (6::0::1::1::1::0::σ) 19 q4.2 t5).bind fun q6 =>
(callO rec 123 (4::0::1::1::1::1::0::σ) [q6.1,(.p (.int .i64 0)),(.p (.int .i64 ((if ((if 4096 < x1 then 4096 else x1)) > 0 then ((if 4096 < x1 then 4096 else x1)) else 0))))] q6.2 (some 24)).bind fun q7 =>
(nilChk q6.1).bind fun t8 =>
(fA t8 2).bind fun t9 =>
(ldO false 1 q7.2 t9).bind fun t10 =>
(lenO x0).bind fun t11 =>
(castI .i64 t11).bind fun n12 =>
(loop knap_Best_c0 knap_Best_l0 (1::0::1::1::1::1::1::1::0::σ) (envL [(7,t10),(32,(.p (.int .i64 (IntKind.wrap .i64 (n12 - ((if n2 < 8 then n2 else 8))))))),(33,(.p (.int .i64 0)))]) q7.2).bind fun r13 => knap_Best_k0 rec loop σ r13.1 r13.2.1 r13.2.2)):=by kernel_rfl
theorem knap_Best_r0 (x7 : V) (x32 : Int) (x33 : Int) (h : H) : cvRound G rec loop knap_Best_c0 knap_Best_l0 σ (envL [(7,x7),(32,(.p (.int .i64 x32))),(33,(.p (.int .i64 x33)))]) h =
bif decide (x33 < x32) then (
(bSV Try.prog 43 1 [(0,(.p (.int .i64 (-1))))]).bind fun t14 =>
(apO true 1 8 (2::0::1::1::0::σ) 37 h x7 t14).bind fun q15 =>
loop knap_Best_c0 knap_Best_l0 (1::σ) (envL [(7,q15.1),(32,(.p (.int .i64 x32))),(33,(.p (.int .i64 (IntKind.wrap .i64 (x33 + 1)))))]) q15.2)
else (
some ((.exit 0),(envL [(7,x7)]),h)):=by kernel_rfl
theorem knap_Best_a0_0 (x7 : V) (h : H) : knap_Best_k0 rec loop σ (.exit 0) (envL [(7,x7)]) h =
(callO rec 69 (1::0::1::1::1::1::1::1::1::0::σ) [x7] h (some 40)).bind fun q16 =>
fin false σ q16.2 [q16.1]:=by kernel_rfl
theorem slices_Clip_Lint_int_entry (x0 : V) (h : H) : cvBody G rec loop 69 σ [x0] h =
(lenO x0).bind fun t1 =>
(castI .i64 t1).bind fun n2 =>
(lenO x0).bind fun t3 =>
(castI .i64 t3).bind fun n4 =>
(slS 1 x0 none (some n2) (some n4)).bind fun t5 =>
fin false σ (List.replicate 9 []::h) [t5]:=by kernel_rfl
def knap_search_try_c0 : Code:=(codeAt (bodyOf Try.f123) [1,1,0,0])
def knap_search_try_l0 : Lv:=⟨0,0,[(0,0)]⟩
def knap_search_try_k0 (rec : CallF) (loop : LoopV) (σ : Stamp) : KT6:=(kBlock 0 (finC G false Try.f123 (1::σ)))
theorem knap_search_try_entry (x0 : V) (x1 : Int) (x2 : Int) (h : H) : cvBody G rec loop 123 σ [x0,(.p (.int .i64 x1)),(.p (.int .i64 x2))] h =
(nilChk x0).bind fun t1 =>
(fA t1 0).bind fun t2 =>
(ldO false 1 (List.replicate 143 []::h) t2).bind fun t3 =>
(lenO t3).bind fun t4 =>
(castI .i64 t4).bind fun n5 =>
bif x1 == n5 then (
need (∃ z,tzero Try.prog 134 = some z∧slotOf (alO [.p (.int .i64 0),.p (.int .i64 0),.p (.int .i64 0),.p (.int .i64 0)] (18::0::1::0::0::σ) 6 (List.replicate 143 []::h)).2 6 = some [.own (18::0::1::0::0::σ) (z.map .v)]) (
(nilChk x0).bind fun t6 =>
(fA t6 0).bind fun t7 =>
(ldO false 1 (alO [.p (.int .i64 0),.p (.int .i64 0),.p (.int .i64 0),.p (.int .i64 0)] (18::0::1::0::0::σ) 6 (List.replicate 143 []::h)).2 t7).bind fun t8 =>
(nilChk x0).bind fun t9 =>
(fA t9 1).bind fun t10 =>
(ldO false 1 (alO [.p (.int .i64 0),.p (.int .i64 0),.p (.int .i64 0),.p (.int .i64 0)] (18::0::1::0::0::σ) 6 (List.replicate 143 []::h)).2 t10).bind fun t11 =>
(nilChk x0).bind fun t12 =>
(fA t12 0).bind fun t13 =>
(ldO false 1 (alO [.p (.int .i64 0),.p (.int .i64 0),.p (.int .i64 0),.p (.int .i64 0)] (18::0::1::0::0::σ) 6 (List.replicate 143 []::h)).2 t13).bind fun t14 =>
(nilChk x0).bind fun t15 =>
(fA t15 1).bind fun t16 =>
(ldO false 1 (alO [.p (.int .i64 0),.p (.int .i64 0),.p (.int .i64 0),.p (.int .i64 0)] (18::0::1::0::0::σ) 6 (List.replicate 143 []::h)).2 t16).bind fun t17 =>
(callO rec 160 (8::0::1::0::0::σ) [t8,t11] (alO [.p (.int .i64 0),.p (.int .i64 0),.p (.int .i64 0),.p (.int .i64 0)] (18::0::1::0::0::σ) 6 (List.replicate 143 []::h)).2 (some 24)).bind fun q18 =>
need (ldO false 1 q18.2 t16 = some t17) (
need (ldO false 1 q18.2 t13 = some t14) (
need (∃ z,tzero Try.prog 134 = some z∧slotOf q18.2 6 = some [.own (18::0::1::0::0::σ) (z.map .v)]) (
(callO rec 75 (17::0::1::0::0::σ) [t14,t17] q18.2 (some 33)).bind fun q19 =>
(castI .i64 q19.1).bind fun n20 =>
need (∃ z,tzero Try.prog 134 = some z∧slotOf q19.2 6 = some [.own (18::0::1::0::0::σ) (z.map .v)]) (
((stO false 4 (19::0::1::0::0::σ) q19.2 (.ref (newLoc (alO [.p (.int .i64 0),.p (.int .i64 0),.p (.int .i64 0),.p (.int .i64 0)] (18::0::1::0::0::σ) 6 (List.replicate 143 []::h)).2 6 (18::0::1::0::0::σ)) 0) q18.1).map fun h => (udf,h)).bind fun q21 =>
(nilChk x0).bind fun t22 =>
(fA t22 2).bind fun t23 =>
(ldO false 1 q21.2 t23).bind fun t24 =>
(binV Try.prog q21.2 .eql 43 t24 (.p (.slice .none 0 0))).bind fun t25 =>
(asB t25).bind fun b26 =>
(bif b26 then (some ((.p (.bool true)),q21.2)) else ((ldO true 4 q21.2 (.ref (newLoc (alO [.p (.int .i64 0),.p (.int .i64 0),.p (.int .i64 0),.p (.int .i64 0)] (18::0::1::0::0::σ) 6 (List.replicate 143 []::h)).2 6 (18::0::1::0::0::σ)) 0)).bind fun t27 =>
(nilChk x0).bind fun t28 =>
(fA t28 3).bind fun t29 =>
(ldO true 4 q21.2 t29).bind fun t30 =>
(callO rec 161 (11::0::0::1::1::0::0::σ) [t27,t30] q21.2 (some 45)).bind fun q31 =>
(asB q31.1).bind fun b32 =>
some ((.p (.bool b32)),q31.2))).bind fun q33 =>
(asB q33.1).bind fun b34 =>
(bif b34 then (some true) else ((ldO true 4 q33.2 (.ref (newLoc (alO [.p (.int .i64 0),.p (.int .i64 0),.p (.int .i64 0),.p (.int .i64 0)] (18::0::1::0::0::σ) 6 (List.replicate 143 []::h)).2 6 (18::0::1::0::0::σ)) 0)).bind fun t35 =>
(nilChk x0).bind fun t36 =>
(fA t36 3).bind fun t37 =>
(ldO true 4 q33.2 t37).bind fun t38 =>
(binV Try.prog q33.2 .eql 134 t35 t38).bind fun t39 =>
(asB t39).bind fun b40 =>
(bif b40 then ((nilChk x0).bind fun t41 =>
(fA t41 7).bind fun t42 =>
(ldO false 1 q33.2 t42).bind fun t43 =>
(castI .i64 t43).bind fun n44 =>
some (decide (n20 < n44))) else (some false)).bind fun b45 =>
some b45)).bind fun b46 =>
bif b46 then (
(nilChk x0).bind fun t47 =>
(fA t47 1).bind fun t48 =>
(ldO false 1 q33.2 t48).bind fun t49 =>
(ldO true 4 q33.2 (.ref (newLoc (alO [.p (.int .i64 0),.p (.int .i64 0),.p (.int .i64 0),.p (.int .i64 0)] (18::0::1::0::0::σ) 6 (List.replicate 143 []::h)).2 6 (18::0::1::0::0::σ)) 0)).bind fun t50 =>
(callO rec 77 (7::1::0::1::1::0::0::σ) [t49] q33.2 (some 70)).bind fun q51 =>
need (ldO true 4 q51.2 (.ref (newLoc (alO [.p (.int .i64 0),.p (.int .i64 0),.p (.int .i64 0),.p (.int .i64 0)] (18::0::1::0::0::σ) 6 (List.replicate 143 []::h)).2 6 (18::0::1::0::0::σ)) 0) = some t50) (
(nilChk x0).bind fun t52 =>
(fA t52 2).bind fun t53 =>
((stO true 1 (12::1::0::1::1::0::0::σ) q51.2 t53 q51.1).map fun h => (udf,h)).bind fun q54 =>
need (ldO true 4 q54.2 (.ref (newLoc (alO [.p (.int .i64 0),.p (.int .i64 0),.p (.int .i64 0),.p (.int .i64 0)] (18::0::1::0::0::σ) 6 (List.replicate 143 []::h)).2 6 (18::0::1::0::0::σ)) 0) = some t50) (
(nilChk x0).bind fun t55 =>
(fA t55 3).bind fun t56 =>
((stO false 4 (15::1::0::1::1::0::0::σ) q54.2 t56 t50).map fun h => (udf,h)).bind fun q57 =>
(nilChk x0).bind fun t58 =>
(fA t58 7).bind fun t59 =>
((stO true 1 (18::1::0::1::1::0::0::σ) q57.2 t59 (.p (.int .i64 n20))).map fun h => (udf,h)).bind fun q60 =>
fin false σ q60.2 [])))
else (
fin false σ q33.2 [])))))))
else (
(loop knap_search_try_c0 knap_search_try_l0 (1::1::0::σ) (envL [(0,x0),(1,(.p (.int .i64 x1))),(2,(.p (.int .i64 x2))),(8,(.p (.int .i64 (-1))))]) (List.replicate 143 []::h)).bind fun r61 => knap_search_try_k0 rec loop σ r61.1 r61.2.1 r61.2.2):=by kernel_rfl
theorem knap_search_try_r0 (x0 : V) (x1 : Int) (x2 : Int) (x8 : Int) (h : H) : cvRound G rec loop knap_search_try_c0 knap_search_try_l0 σ (envL [(0,x0),(1,(.p (.int .i64 x1))),(2,(.p (.int .i64 x2))),(8,(.p (.int .i64 x8)))]) h =
bif decide (x8 < 4) then (
(nilChk x0).bind fun t62 =>
(fA t62 0).bind fun t63 =>
(ldO false 1 h t63).bind fun t64 =>
(iS 3 t64 x1).bind fun t65 =>
(ldO true 3 h t65).bind fun t66 =>
(callO rec 124 (8::0::0::0::1::0::σ) [t66,(.p (.int .i64 x8))] h (some 91)).bind fun q67 =>
(asB q67.1).bind fun b68 =>
(bif !b68 then (some true) else ((bif decide (x8 ≥ 0) then ((nilChk x0).bind fun t69 =>
(fA t69 0).bind fun t70 =>
(ldO false 1 q67.2 t70).bind fun t71 =>
(iS 3 t71 x1).bind fun t72 =>
(fA t72 1).bind fun t73 =>
(ldO false 1 q67.2 t73).bind fun t74 =>
(iS 1 t74 x8).bind fun t75 =>
(ldO false 1 q67.2 t75).bind fun t76 =>
(castI .i64 t76).bind fun n77 =>
some (decide (n77 > x2))) else (some false)).bind fun b78 =>
some b78)).bind fun b79 =>
bif b79 then (
loop knap_search_try_c0 knap_search_try_l0 (1::σ) (envL [(0,x0),(1,(.p (.int .i64 x1))),(2,(.p (.int .i64 x2))),(8,(.p (.int .i64 (IntKind.wrap .i64 (x8 + 1)))))]) q67.2)
else (
(nilChk x0).bind fun t80 =>
(fA t80 1).bind fun t81 =>
(ldO false 1 q67.2 t81).bind fun t82 =>
(iS 1 t82 x1).bind fun t83 =>
((stO true 1 (7::0::1::0::1::0::σ) q67.2 t83 (.p (.int .i64 x8))).map fun h => (udf,h)).bind fun q84 =>
bif decide (x8 ≥ 0) then (
(nilChk x0).bind fun t85 =>
(fA t85 0).bind fun t86 =>
(ldO false 1 q84.2 t86).bind fun t87 =>
(iS 3 t87 x1).bind fun t88 =>
(fA t88 1).bind fun t89 =>
(ldO false 1 q84.2 t89).bind fun t90 =>
(iS 1 t90 x8).bind fun t91 =>
(ldO false 1 q84.2 t91).bind fun t92 =>
(castI .i64 t92).bind fun n93 =>
(callO rec 123 (16::1::1::1::0::1::0::σ) [x0,(.p (.int .i64 (IntKind.wrap .i64 (x1 + 1)))),(.p (.int .i64 (IntKind.wrap .i64 (x2 - n93))))] q84.2 (some 137)).bind fun q94 =>
loop knap_search_try_c0 knap_search_try_l0 (1::σ) (envL [(0,x0),(1,(.p (.int .i64 x1))),(2,(.p (.int .i64 x2))),(8,(.p (.int .i64 (IntKind.wrap .i64 (x8 + 1)))))]) q94.2)
else (
(callO rec 123 (4::1::1::1::0::1::0::σ) [x0,(.p (.int .i64 (IntKind.wrap .i64 (x1 + 1)))),(.p (.int .i64 x2))] q84.2 (some 142)).bind fun q95 =>
loop knap_search_try_c0 knap_search_try_l0 (1::σ) (envL [(0,x0),(1,(.p (.int .i64 x1))),(2,(.p (.int .i64 x2))),(8,(.p (.int .i64 (IntKind.wrap .i64 (x8 + 1)))))]) q95.2)))
else (
some ((.exit 0),(envL []),h)):=by kernel_rfl
theorem knap_search_try_a0_0  (h : H) : knap_search_try_k0 rec loop σ (.exit 0) (envL []) h =
fin false σ h []:=by kernel_rfl
theorem slices_Clone_Lint_int_entry (x0 : V) (h : H) : cvBody G rec loop 77 σ [x0] h =
(binV Try.prog (List.replicate 8 []::h) .eql 43 x0 (.p (.slice .none 0 0))).bind fun t1 =>
(asB t1).bind fun b2 =>
bif b2 then (
fin false σ (List.replicate 8 []::h) [(.p (.slice .none 0 0))])
else (
(bSV Try.prog 43 0 []).bind fun t3 =>
(apO true 1 8 (2::0::1::1::0::σ) 7 (List.replicate 8 []::h) t3 x0).bind fun q4 =>
fin false σ q4.2 [q4.1]):=by kernel_rfl
end
end Go.Ev
namespace Go.Ev
open Go.Proofs
set_option linter.unusedVariables false
set_option linter.unusedSimpArgs false
set_option maxRecDepth 100000
section
variable {β α : Type} {Q : β→α→Prop} {K : Exit × Env × H→Option α}
def p_knap_search_try_l0 {β : Type} (k : Nat) (rec : T_knap_search→Int→Int→Option (T_knap_search)) (kE0 : T_knap_search→Option β) (x1 : Int) (x2 : Int) (x8 : Int) (zp0 : T_knap_search) : Option β:=match k with
| 0 => none
| k + 1 =>
bif decide (x8 < 4) then (
(ix zp0.l x1).bind fun a76 =>
(p_knap_fits a76 x8).bind fun r85 =>
(bif !r85 then (some true) else ((bif decide (x8 ≥ 0) then ((ix zp0.l x1).bind fun a90 =>
(ix a90.Costs x8).bind fun a106 =>
some (decide (a106 > x2))) else (some false)).bind fun b109 =>
some b109)).bind fun b113 =>
bif b113 then (
p_knap_search_try_l0 k rec kE0 x1 x2 (IntKind.wrap .i64 (x8 + 1)) ((⟨zp0.l,zp0.now,zp0.best,[((zp0.good.getD 0 0)),((zp0.good.getD 1 0)),((zp0.good.getD 2 0)),((zp0.good.getD 3 0))],zp0.cost⟩ : T_knap_search)))
else (
(ix zp0.now x1).bind fun a118 =>
(stx zp0.now x1 x8).bind fun a123 =>
bif decide (x8 ≥ 0) then (
(ix zp0.l x1).bind fun a129 =>
(ix a129.Costs x8).bind fun a145 =>
(rec (⟨zp0.l,a123,zp0.best,[((zp0.good.getD 0 0)),((zp0.good.getD 1 0)),((zp0.good.getD 2 0)),((zp0.good.getD 3 0))],zp0.cost⟩ : T_knap_search) (IntKind.wrap .i64 (x1 + 1)) (IntKind.wrap .i64 (x2 - a145))).bind fun r148 =>
p_knap_search_try_l0 k rec kE0 x1 x2 (IntKind.wrap .i64 (x8 + 1)) ((⟨r148.l,r148.now,r148.best,[((r148.good.getD 0 0)),((r148.good.getD 1 0)),((r148.good.getD 2 0)),((r148.good.getD 3 0))],r148.cost⟩ : T_knap_search)))
else (
(rec (⟨zp0.l,a123,zp0.best,[((zp0.good.getD 0 0)),((zp0.good.getD 1 0)),((zp0.good.getD 2 0)),((zp0.good.getD 3 0))],zp0.cost⟩ : T_knap_search) (IntKind.wrap .i64 (x1 + 1)) x2).bind fun r162 =>
p_knap_search_try_l0 k rec kE0 x1 x2 (IntKind.wrap .i64 (x8 + 1)) ((⟨r162.l,r162.now,r162.best,[((r162.good.getD 0 0)),((r162.good.getD 1 0)),((r162.good.getD 2 0)),((r162.good.getD 3 0))],r162.cost⟩ : T_knap_search)))))
else (
kE0 ((⟨zp0.l,zp0.now,zp0.best,[((zp0.good.getD 0 0)),((zp0.good.getD 1 0)),((zp0.good.getD 2 0)),((zp0.good.getD 3 0))],zp0.cost⟩ : T_knap_search)))
def p_knap_search_try (k : Nat) (x0 : T_knap_search) (x1 : Int) (x2 : Int) : Option (T_knap_search):=match k with
| 0 => none
| k + 1 =>
bif x1 == ((x0.l.length : Int)) then (
(p_knap_Good k x0.l x0.now).bind fun r4 =>
(p_knap_Cost k x0.l x0.now).bind fun r11 =>
(bif x0.best.isEmpty then (some true) else ((p_knap_Better k r4 ([((x0.good.getD 0 0)),((x0.good.getD 1 0)),((x0.good.getD 2 0)),((x0.good.getD 3 0))])).bind fun r19 =>
some r19)).bind fun b24 =>
(bif b24 then (some true) else ((bif andB [((r4.getD 0 0)) == ((x0.good.getD 0 0)),((r4.getD 1 0)) == ((x0.good.getD 1 0)),((r4.getD 2 0)) == ((x0.good.getD 2 0)),((r4.getD 3 0)) == ((x0.good.getD 3 0))] then (some (decide (r11 < x0.cost))) else (some false)).bind fun b28 =>
some b28)).bind fun b32 =>
bif b32 then (
(p_clone 8 x0.now).bind fun r37 =>
(neO r37).bind fun _ =>
some ((⟨x0.l,x0.now,r37,[((r4.getD 0 0)),((r4.getD 1 0)),((r4.getD 2 0)),((r4.getD 3 0))],r11⟩ : T_knap_search)))
else (
some ((⟨x0.l,x0.now,x0.best,[((x0.good.getD 0 0)),((x0.good.getD 1 0)),((x0.good.getD 2 0)),((x0.good.getD 3 0))],x0.cost⟩ : T_knap_search))))
else (
p_knap_search_try_l0 k (p_knap_search_try k) (fun zp0 =>
some ((⟨zp0.l,zp0.now,zp0.best,[((zp0.good.getD 0 0)),((zp0.good.getD 1 0)),((zp0.good.getD 2 0)),((zp0.good.getD 3 0))],zp0.cost⟩ : T_knap_search))) x1 x2 (-1) ((⟨x0.l,x0.now,x0.best,[((x0.good.getD 0 0)),((x0.good.getD 1 0)),((x0.good.getD 2 0)),((x0.good.getD 3 0))],x0.cost⟩ : T_knap_search)))
theorem knap_search_try_l0_ok {h : H} {l0 : Loc} {o0 : Nat} {rec : T_knap_search→Int→Int→Option (T_knap_search)} {kE0 : T_knap_search→Option β} (hrec : ∀ {h : H} {σ : Stamp} (x0 : T_knap_search) {u0_0 : V} (hu0_0 : SlF dTaiChoice x0.l u0_0) {c0_1 : C} (hc0_1 : SoC (dI .i64) x0.now c0_1) (hn0_1 : Nn c0_1 1) {c0_2 : C} (hc0_2 : SoC (dI .i64) x0.best c0_2) (hn0_2 : Nq c0_2 1) {l0 : Loc} {o0 : Nat} (ha0 : AtC h l0 o0 ([.v u0_0,c0_1,c0_2,.v (.p (.int .i64 ((x0.good.getD 0 0)))),.v (.p (.int .i64 ((x0.good.getD 1 0)))),.v (.p (.int .i64 ((x0.good.getD 2 0)))),.v (.p (.int .i64 ((x0.good.getD 3 0)))),.v (.p (.int .i64 x0.cost))])) (x1 : Int) (x2 : Int),Sim (rec x0 x1 x2) (ev G X0 123 σ [(.ref l0 o0),(.p (.int .i64 x1)),(.p (.int .i64 x2))] h) (fun r s => ∃ (vb0_0 : V),∃ (cb0_1 : C),∃ (cb0_2 : C),SlF dTaiChoice r.l vb0_0∧SoC (dI .i64) r.now cb0_1∧Nn cb0_1 1∧SoC (dI .i64) r.best cb0_2∧Nq cb0_2 1∧s = ([],pts h [⟨l0,o0,[.v vb0_0,cb0_1,cb0_2,.v (.p (.int .i64 (r.good.getD 0 0))),.v (.p (.int .i64 (r.good.getD 1 0))),.v (.p (.int .i64 (r.good.getD 2 0))),.v (.p (.int .i64 (r.good.getD 3 0))),.v (.p (.int .i64 r.cost))]⟩]))) (hE0 : ∀ (zp0 : T_knap_search) (v178 : V) (h179 : SlF dTaiChoice zp0.l v178) (c180 : C) (h181 : SoC (dI .i64) zp0.now c180) (h182 : Nn c180 1) (c183 : C) (h184 : SoC (dI .i64) zp0.best c183) (h185 : Nq c183 1) (H176 : Go.Ev.H) (_ : Fm 143 h [⟨l0,o0,[.v v178,c180,c183,.v (.p (.int .i64 ((zp0.good.getD 0 0)))),.v (.p (.int .i64 ((zp0.good.getD 1 0)))),.v (.p (.int .i64 ((zp0.good.getD 2 0)))),.v (.p (.int .i64 ((zp0.good.getD 3 0)))),.v (.p (.int .i64 zp0.cost))]⟩] [] [] H176),Sim (kE0 zp0) (K ((.exit 0),(envL []),H176)) Q) (k : Nat) : ∀ (x1 : Int) (x2 : Int) (x8 : Int) (zp0 : T_knap_search) (v67 : V) (h68 : SlF dTaiChoice zp0.l v67) (c69 : C) (h70 : SoC (dI .i64) zp0.now c69) (h71 : Nn c69 1) (c72 : C) (h73 : SoC (dI .i64) zp0.best c72) (h74 : Nq c72 1) (H65 : Go.Ev.H) (_ : Fm 143 h [⟨l0,o0,[.v v67,c69,c72,.v (.p (.int .i64 ((zp0.good.getD 0 0)))),.v (.p (.int .i64 ((zp0.good.getD 1 0)))),.v (.p (.int .i64 ((zp0.good.getD 2 0)))),.v (.p (.int .i64 ((zp0.good.getD 3 0)))),.v (.p (.int .i64 zp0.cost))]⟩] [] [] H65) {σ : Stamp},Sim (p_knap_search_try_l0 k rec kE0 x1 x2 x8 zp0) ((cvL G X0 knap_search_try_c0 knap_search_try_l0 σ (envL [(0,(.ref l0 o0)),(1,(.p (.int .i64 x1))),(2,(.p (.int .i64 x2))),(8,(.p (.int .i64 x8)))]) H65).bind K) Q:=by
 induction k with
 | zero => intros; exact .no
 | succ k ih =>
  intro x1 x2 x8 zp0 v67 h68 c69 h70 h71 c72 h73 h74 H65 S66 σ
  rw [p_knap_search_try_l0]
  refine .round (Sim.ext (knap_search_try_r0 _ _ _ _ _ _ _ _) ?_)
  refine .cq ?_ ?_
  ·refine .nc ?_
   refine .fa ?_
   refine .op ((S66.atB (i:=0) rfl).ld (j:=0) rfl) ?_
   refine .bd fun a76 h77 => ?_
   refine .op ((h68.h H65).iS h77 rfl) ?_
   obtain ⟨w79,h80,hE78⟩:=(h68.h H65).el h77 rfl
   obtain ⟨v81,v83,rfl,h82,h84⟩:=dTaiChoice.inv h80
   refine .op (hE78.all (by simp)) ?_
   refine .call (knap_fits_ok a76 (show dTaiChoice.R a76 [.p (.int .i64 a76.Class),v81,v83] from (dTaiChoice.mk h82 h84)) x8) fun r85 cs86 H87 h88 q89 => ?_
   cases q89
   refine .ab ?_
   refine .ch (P:=fun r y => r = y) ?_ (fun b113 y114 h115 h116 => ?_)
   ·refine .cq ?_ ?_
    ·exact .ret rfl rfl
    ·refine .ch (P:=fun r y => r = y) ?_ (fun b109 y110 h111 h112 => ?_)
     ·refine .cq ?_ ?_
      ·refine .nc ?_
       refine .fa ?_
       refine .op ((S66.atB (i:=0) rfl).ld (j:=0) rfl) ?_
       refine .bd fun a90 h91 => ?_
       refine .op ((h68.h H65).iS h91 rfl) ?_
       obtain ⟨w93,h94,hE92⟩:=(h68.h H65).el h91 rfl
       obtain ⟨v95,v97,rfl,h96,h98⟩:=dTaiChoice.inv h94
       refine .op (hE92.fa (j:=1) (by simp)) ?_
       obtain ⟨w100,h101,hE99⟩:=(h68.h H65).el h91 rfl
       obtain ⟨v102,v104,rfl,h103,h105⟩:=dTaiChoice.inv h101
       refine .op (hE99.ld (j:=1) rfl) ?_
       refine .bd fun a106 h107 => ?_
       refine .op ((h103.h H65).iS h107 rfl) ?_
       obtain ⟨_,rfl,hE108⟩:=(h103.h H65).el h107 rfl
       refine .op (hE108.ld (j:=0) rfl) ?_
       refine .ci ?_
       exact .ret rfl rfl
      ·exact .ret rfl rfl
     subst h112
     exact .ret rfl rfl
   subst h116
   refine .cq ?_ ?_
   ·exact ih x1 x2 (IntKind.wrap .i64 (x8 + 1)) ((⟨zp0.l,zp0.now,zp0.best,[((zp0.good.getD 0 0)),((zp0.good.getD 1 0)),((zp0.good.getD 2 0)),((zp0.good.getD 3 0))],zp0.cost⟩ : T_knap_search)) v67 h68 c69 h70 h71 c72 h73 h74 H65 (S66.wk2 aN aN)
   refine .nc ?_
   refine .fa ?_
   refine .op (h70.ld (S66.atB (i:=0) rfl) (j:=1) rfl) ?_
   refine .bd fun a118 h119 => ?_
   refine .op ((h70.sl (S66.atB (i:=0) rfl) (j:=1) rfl).iS h119 rfl) ?_
   refine .bd fun a123 h124 => ?_
   obtain ⟨c125,H120,e121,h126,h127,S122⟩:=S66.seB (i:=0) (j:=1) (own:=true) (σ:=(7::0::1::0::1::0::σ)) (nv:=[(.p (.int .i64 x8))]) (xv:=(.p (.int .i64 x8))) (n:=1) (e:=1) (off:=0) rfl rfl h70 h71 h119 h124 rfl rfl (by decide) (stN_one (sI _ _)) (Dt.whole (show (dI .i64).R x8 [(.p (.int .i64 x8))] from rfl) rfl)
   refine .op (sM e121) ?_
   refine .cq ?_ ?_
   ·refine .nc ?_
    refine .fa ?_
    refine .op ((S122.atB (i:=0) rfl).ld (j:=0) rfl) ?_
    refine .bd fun a129 h130 => ?_
    refine .op ((h68.h H120).iS h130 rfl) ?_
    obtain ⟨w132,h133,hE131⟩:=(h68.h H120).el h130 rfl
    obtain ⟨v134,v136,rfl,h135,h137⟩:=dTaiChoice.inv h133
    refine .op (hE131.fa (j:=1) (by simp)) ?_
    obtain ⟨w139,h140,hE138⟩:=(h68.h H120).el h130 rfl
    obtain ⟨v141,v143,rfl,h142,h144⟩:=dTaiChoice.inv h140
    refine .op (hE138.ld (j:=1) rfl) ?_
    refine .bd fun a145 h146 => ?_
    refine .op ((h142.h H120).iS h146 rfl) ?_
    obtain ⟨_,rfl,hE147⟩:=(h142.h H120).el h146 rfl
    refine .op (hE147.ld (j:=0) rfl) ?_
    refine .ci ?_
    refine .call (hrec (⟨zp0.l,a123,zp0.best,[((zp0.good.getD 0 0)),((zp0.good.getD 1 0)),((zp0.good.getD 2 0)),((zp0.good.getD 3 0))],zp0.cost⟩ : T_knap_search) h68 h126 (Nq.nn h127) h73 h74 (S122.atB (i:=0) rfl) (IntKind.wrap .i64 (x1 + 1)) (IntKind.wrap .i64 (x2 - a145))) fun r148 cs149 H150 h151 q152 => ?_
    obtain ⟨v153,c155,c158,h154,h156,h157,h159,h160,q152⟩:=q152
    cases q152
    have S161:=S122.setB (i:=0) (cs:=[.v v153,c155,c158,.v (.p (.int .i64 ((r148.good.getD 0 0)))),.v (.p (.int .i64 ((r148.good.getD 1 0)))),.v (.p (.int .i64 ((r148.good.getD 2 0)))),.v (.p (.int .i64 ((r148.good.getD 3 0)))),.v (.p (.int .i64 r148.cost))]) rfl rfl
    exact ih x1 x2 (IntKind.wrap .i64 (x8 + 1)) ((⟨r148.l,r148.now,r148.best,[((r148.good.getD 0 0)),((r148.good.getD 1 0)),((r148.good.getD 2 0)),((r148.good.getD 3 0))],r148.cost⟩ : T_knap_search)) v153 h154 c155 h156 h157 c158 h159 h160 (ptC H120 l0 o0 ([.v v153,c155,c158,.v (.p (.int .i64 ((r148.good.getD 0 0)))),.v (.p (.int .i64 ((r148.good.getD 1 0)))),.v (.p (.int .i64 ((r148.good.getD 2 0)))),.v (.p (.int .i64 ((r148.good.getD 3 0)))),.v (.p (.int .i64 r148.cost))])) (S161.wk2 aN aN)
   refine .call (hrec (⟨zp0.l,a123,zp0.best,[((zp0.good.getD 0 0)),((zp0.good.getD 1 0)),((zp0.good.getD 2 0)),((zp0.good.getD 3 0))],zp0.cost⟩ : T_knap_search) h68 h126 (Nq.nn h127) h73 h74 (S122.atB (i:=0) rfl) (IntKind.wrap .i64 (x1 + 1)) x2) fun r162 cs163 H164 h165 q166 => ?_
   obtain ⟨v167,c169,c172,h168,h170,h171,h173,h174,q166⟩:=q166
   cases q166
   have S175:=S122.setB (i:=0) (cs:=[.v v167,c169,c172,.v (.p (.int .i64 ((r162.good.getD 0 0)))),.v (.p (.int .i64 ((r162.good.getD 1 0)))),.v (.p (.int .i64 ((r162.good.getD 2 0)))),.v (.p (.int .i64 ((r162.good.getD 3 0)))),.v (.p (.int .i64 r162.cost))]) rfl rfl
   exact ih x1 x2 (IntKind.wrap .i64 (x8 + 1)) ((⟨r162.l,r162.now,r162.best,[((r162.good.getD 0 0)),((r162.good.getD 1 0)),((r162.good.getD 2 0)),((r162.good.getD 3 0))],r162.cost⟩ : T_knap_search)) v167 h168 c169 h170 h171 c172 h173 h174 (ptC H120 l0 o0 ([.v v167,c169,c172,.v (.p (.int .i64 ((r162.good.getD 0 0)))),.v (.p (.int .i64 ((r162.good.getD 1 0)))),.v (.p (.int .i64 ((r162.good.getD 2 0)))),.v (.p (.int .i64 ((r162.good.getD 3 0)))),.v (.p (.int .i64 r162.cost))])) (S175.wk2 aN aN)
  exact hE0 ((⟨zp0.l,zp0.now,zp0.best,[((zp0.good.getD 0 0)),((zp0.good.getD 1 0)),((zp0.good.getD 2 0)),((zp0.good.getD 3 0))],zp0.cost⟩ : T_knap_search)) v67 h68 c69 h70 h71 c72 h73 h74 H65 (S66.wk2 aN aN)
theorem knap_search_try_ok (k : Nat) : ∀ {h : H} {σ : Stamp} (x0 : T_knap_search) {u0_0 : V} (hu0_0 : SlF dTaiChoice x0.l u0_0) {c0_1 : C} (hc0_1 : SoC (dI .i64) x0.now c0_1) (hn0_1 : Nn c0_1 1) {c0_2 : C} (hc0_2 : SoC (dI .i64) x0.best c0_2) (hn0_2 : Nq c0_2 1) {l0 : Loc} {o0 : Nat} (ha0 : AtC h l0 o0 ([.v u0_0,c0_1,c0_2,.v (.p (.int .i64 ((x0.good.getD 0 0)))),.v (.p (.int .i64 ((x0.good.getD 1 0)))),.v (.p (.int .i64 ((x0.good.getD 2 0)))),.v (.p (.int .i64 ((x0.good.getD 3 0)))),.v (.p (.int .i64 x0.cost))])) (x1 : Int) (x2 : Int),Sim (p_knap_search_try k x0 x1 x2) (ev G X0 123 σ [(.ref l0 o0),(.p (.int .i64 x1)),(.p (.int .i64 x2))] h) (fun r s => ∃ (vb0_0 : V),∃ (cb0_1 : C),∃ (cb0_2 : C),SlF dTaiChoice r.l vb0_0∧SoC (dI .i64) r.now cb0_1∧Nn cb0_1 1∧SoC (dI .i64) r.best cb0_2∧Nq cb0_2 1∧s = ([],pts h [⟨l0,o0,[.v vb0_0,cb0_1,cb0_2,.v (.p (.int .i64 (r.good.getD 0 0))),.v (.p (.int .i64 (r.good.getD 1 0))),.v (.p (.int .i64 (r.good.getD 2 0))),.v (.p (.int .i64 (r.good.getD 3 0))),.v (.p (.int .i64 r.cost))]⟩])):=by
 induction k with
 | zero => intros; exact .no
 | succ k ih =>
  intro h σ x0 u0_0 hu0_0 c0_1 hc0_1 hn0_1 c0_2 hc0_2 hn0_2 l0 o0 ha0 x1 x2
  refine .ev rfl (Sim.ext (knap_search_try_entry _ _ _ _ _ _ _) ?_)
  rw [p_knap_search_try]
  have S0 : Fm 143 h [⟨l0,o0,[.v u0_0,c0_1,c0_2,.v (.p (.int .i64 ((x0.good.getD 0 0)))),.v (.p (.int .i64 ((x0.good.getD 1 0)))),.v (.p (.int .i64 ((x0.good.getD 2 0)))),.v (.p (.int .i64 ((x0.good.getD 3 0)))),.v (.p (.int .i64 x0.cost))]⟩] [] [] (List.replicate 143 []::h):=Fm.start1 ha0
  refine .nc ?_
  refine .fa ?_
  refine .op ((S0.atB (i:=0) rfl).ld (j:=0) rfl) ?_
  refine .op ((hu0_0.h (List.replicate 143 []::h)).len) ?_
  refine .ci ?_
  refine .cq ?_ ?_
  ·have S2:=S0.add (d:=6) (s:=(18::0::1::0::0::σ)) (cs:=List.map C.v [(.p (.int .i64 0)),(.p (.int .i64 0)),(.p (.int .i64 0)),(.p (.int .i64 0))]) (by decide) rfl
   have S2 : Fm _ _ _ _ _ (alO [(.p (.int .i64 0)),(.p (.int .i64 0)),(.p (.int .i64 0)),(.p (.int .i64 0))] (18::0::1::0::0::σ) 6 (List.replicate 143 []::h)).2:=S2
   first | rw [S2.newLoc 6 (18::0::1::0::0::σ)] | erw [S2.newLoc 6 (18::0::1::0::0::σ)]
   refine .nd (⟨_,(by kernel_rfl),S2.slot (i:=0) rfl⟩) ?_
   refine .nc ?_
   refine .fa ?_
   refine .op ((S2.atB (i:=0) rfl).ld (j:=0) rfl) ?_
   refine .nc ?_
   refine .fa ?_
   refine .op (hc0_1.ld (S2.atB (i:=0) rfl) (j:=1) rfl) ?_
   refine .nc ?_
   refine .fa ?_
   refine .op ((S2.atB (i:=0) rfl).ld (j:=0) rfl) ?_
   refine .nc ?_
   refine .fa ?_
   refine .op (hc0_1.ld (S2.atB (i:=0) rfl) (j:=1) rfl) ?_
   refine .call (knap_Good_ok k x0.l (hu0_0.h (alO [(.p (.int .i64 0)),(.p (.int .i64 0)),(.p (.int .i64 0)),(.p (.int .i64 0))] (18::0::1::0::0::σ) 6 (List.replicate 143 []::h)).2) x0.now (hc0_1.sl (S2.atB (i:=0) rfl) (j:=1) rfl)) fun r4 cs5 H6 h7 q8 => ?_
   obtain ⟨w9,h10,q8⟩:=q8
   cases q8
   obtain rfl : w9 = [(.p (.int .i64 ((r4.getD 0 0)))),(.p (.int .i64 ((r4.getD 1 0)))),(.p (.int .i64 ((r4.getD 2 0)))),(.p (.int .i64 ((r4.getD 3 0))))]:=dA_int h10
   refine .nd (hc0_1.ld (S2.atB (i:=0) rfl) (j:=1) rfl) ?_
   refine .nd ((S2.atB (i:=0) rfl).ld (j:=0) rfl) ?_
   refine .nd (⟨_,(by kernel_rfl),S2.slot (i:=0) rfl⟩) ?_
   refine .call (knap_Cost_ok k x0.l (hu0_0.h (alO [(.p (.int .i64 0)),(.p (.int .i64 0)),(.p (.int .i64 0)),(.p (.int .i64 0))] (18::0::1::0::0::σ) 6 (List.replicate 143 []::h)).2) x0.now (hc0_1.sl (S2.atB (i:=0) rfl) (j:=1) rfl)) fun r11 cs12 H13 h14 q15 => ?_
   cases q15
   refine .ci ?_
   refine .nd (⟨_,(by kernel_rfl),S2.slot (i:=0) rfl⟩) ?_
   obtain ⟨H16,e17,S18⟩:=S2.stGv (i:=0) (j:=0) (own:=false) (σ:=(19::0::1::0::0::σ)) (xs:=[(.p (.int .i64 ((r4.getD 0 0)))),(.p (.int .i64 ((r4.getD 1 0)))),(.p (.int .i64 ((r4.getD 2 0)))),(.p (.int .i64 ((r4.getD 3 0))))]) rfl rfl (sC (sI _ _) (sC (sI _ _) (sC (sI _ _) (sC (sI _ _) sN)))) rfl rfl
   refine .op (sM e17) ?_
   refine .nc ?_
   refine .fa ?_
   refine .op (hc0_2.ld (S18.atB (i:=0) rfl) (j:=2) rfl) ?_
   refine .op (hc0_2.eqNil (e:=3) (by kernel_rfl) hn0_2) ?_
   refine .ab ?_
   refine .ch (P:=fun r y => (.p (.bool r),H16) = y) ?_ (fun b24 y25 h26 h27 => ?_)
   ·refine .cq ?_ ?_
    ·exact .ret rfl rfl
    ·refine .op ((S18.atG (i:=0) rfl).ldVs (j:=0) (xs:=[(.p (.int .i64 ((r4.getD 0 0)))),(.p (.int .i64 ((r4.getD 1 0)))),(.p (.int .i64 ((r4.getD 2 0)))),(.p (.int .i64 ((r4.getD 3 0))))]) rfl rfl (by decide)) ?_
     refine .nc ?_
     refine .fa ?_
     refine .op ((S18.atB (i:=0) rfl).ldVs (j:=3) (xs:=[.p (.int .i64 ((x0.good.getD 0 0))),.p (.int .i64 ((x0.good.getD 1 0))),.p (.int .i64 ((x0.good.getD 2 0))),.p (.int .i64 ((x0.good.getD 3 0)))]) rfl rfl (by decide)) ?_
     refine .call (knap_Better_ok k r4 h10 ([((x0.good.getD 0 0)),((x0.good.getD 1 0)),((x0.good.getD 2 0)),((x0.good.getD 3 0))]) (show (dA 4 (dI .i64)).R ([((x0.good.getD 0 0)),((x0.good.getD 1 0)),((x0.good.getD 2 0)),((x0.good.getD 3 0))]) [.p (.int .i64 ((x0.good.getD 0 0))),.p (.int .i64 ((x0.good.getD 1 0))),.p (.int .i64 ((x0.good.getD 2 0))),.p (.int .i64 ((x0.good.getD 3 0)))] from (⟨rfl,dI_map [((x0.good.getD 0 0)),((x0.good.getD 1 0)),((x0.good.getD 2 0)),((x0.good.getD 3 0))]⟩ : (dA 4 (dI .i64)).R [((x0.good.getD 0 0)),((x0.good.getD 1 0)),((x0.good.getD 2 0)),((x0.good.getD 3 0))] [.p (.int .i64 ((x0.good.getD 0 0))),.p (.int .i64 ((x0.good.getD 1 0))),.p (.int .i64 ((x0.good.getD 2 0))),.p (.int .i64 ((x0.good.getD 3 0)))]))) fun r19 cs20 H21 h22 q23 => ?_
     cases q23
     refine .ab ?_
     exact .ret rfl rfl
   subst h27
   refine .ab ?_
   refine .ch (P:=fun r y => r = y) ?_ (fun b32 y33 h34 h35 => ?_)
   ·refine .cq ?_ ?_
    ·exact .ret rfl rfl
    ·refine .op ((S18.atG (i:=0) rfl).ldVs (j:=0) (xs:=[(.p (.int .i64 ((r4.getD 0 0)))),(.p (.int .i64 ((r4.getD 1 0)))),(.p (.int .i64 ((r4.getD 2 0)))),(.p (.int .i64 ((r4.getD 3 0))))]) rfl rfl (by decide)) ?_
     refine .nc ?_
     refine .fa ?_
     refine .op ((S18.atB (i:=0) rfl).ldVs (j:=3) (xs:=[.p (.int .i64 ((x0.good.getD 0 0))),.p (.int .i64 ((x0.good.getD 1 0))),.p (.int .i64 ((x0.good.getD 2 0))),.p (.int .i64 ((x0.good.getD 3 0)))]) rfl rfl (by decide)) ?_
     refine .op (eqS_ok (by kernel_rfl : _ = andL [((r4.getD 0 0)) == ((x0.good.getD 0 0)),((r4.getD 1 0)) == ((x0.good.getD 1 0)),((r4.getD 2 0)) == ((x0.good.getD 2 0)),((r4.getD 3 0)) == ((x0.good.getD 3 0))])) ?_
     refine .ab ?_
     refine .ch (P:=fun r y => r = y) ?_ (fun b28 y29 h30 h31 => ?_)
     ·refine .cq ?_ ?_
      ·refine .nc ?_
       refine .fa ?_
       refine .op ((S18.atB (i:=0) rfl).ld (j:=7) rfl) ?_
       refine .ci ?_
       exact .ret rfl rfl
      ·exact .ret rfl rfl
     subst h31
     exact .ret rfl rfl
   subst h35
   refine .cq ?_ ?_
   ·refine .nc ?_
    refine .fa ?_
    refine .op (hc0_1.ld (S18.atB (i:=0) rfl) (j:=1) rfl) ?_
    refine .op ((S18.atG (i:=0) rfl).ldVs (j:=0) (xs:=[(.p (.int .i64 ((r4.getD 0 0)))),(.p (.int .i64 ((r4.getD 1 0)))),(.p (.int .i64 ((r4.getD 2 0)))),(.p (.int .i64 ((r4.getD 3 0))))]) rfl rfl (by decide)) ?_
    refine .call (clone_ok (b:=8) (f:=77) (tt:=3) (e:=1) (τ:=fun σ => _::_::_::_::_::σ) (fun x h => slices_Clone_Lint_int_entry _ _ _ x h) (hc0_1.sl (S18.atB (i:=0) rfl) (j:=1) rfl) rfl (by decide) (by decide) (by decide) (by kernel_rfl) (by kernel_rfl) rfl) fun r37 cs38 H39 h40 q41 => ?_
    obtain ⟨c42,cs43,h44,h45,q41⟩:=q41
    cases q41
    obtain ⟨v46,H47,e48,S49⟩:=S18.land (dt:=(dI .i64)) (d:=70) (e:=0) (n:=0) h44 h45 (by decide) rfl
    erw [e48]
    refine .nd ((S49.atG (i:=0) rfl).ldVs (j:=0) (xs:=[(.p (.int .i64 ((r4.getD 0 0)))),(.p (.int .i64 ((r4.getD 1 0)))),(.p (.int .i64 ((r4.getD 2 0)))),(.p (.int .i64 ((r4.getD 3 0))))]) rfl rfl (by decide)) ?_
    refine .nc ?_
    refine .fa ?_
    refine .bd fun _ h58 => ?_
    obtain ⟨c54,H51,e52,h55,h57,S53⟩:=S49.mvB (i:=0) (j:=2) (k:=0) (σ:=(12::1::0::1::1::0::0::σ)) rfl rfl rfl rfl rfl
    have h56:=Nq.mk (k:=1) h55 h57 rfl h58
    refine .op (sM e52) ?_
    refine .nd ((S53.atG (i:=0) rfl).ldVs (j:=0) (xs:=[(.p (.int .i64 ((r4.getD 0 0)))),(.p (.int .i64 ((r4.getD 1 0)))),(.p (.int .i64 ((r4.getD 2 0)))),(.p (.int .i64 ((r4.getD 3 0))))]) rfl rfl (by decide)) ?_
    refine .nc ?_
    refine .fa ?_
    obtain ⟨H59,e60,S61⟩:=S53.stBv (i:=0) (j:=3) (own:=false) (σ:=(15::1::0::1::1::0::0::σ)) (xs:=[(.p (.int .i64 ((r4.getD 0 0)))),(.p (.int .i64 ((r4.getD 1 0)))),(.p (.int .i64 ((r4.getD 2 0)))),(.p (.int .i64 ((r4.getD 3 0))))]) rfl (sC (sI _ _) (sC (sI _ _) (sC (sI _ _) (sC (sI _ _) sN)))) rfl rfl
    refine .op (sM e60) ?_
    refine .nc ?_
    refine .fa ?_
    obtain ⟨H62,e63,S64⟩:=S61.stB (i:=0) (j:=7) (own:=true) (σ:=(18::1::0::1::1::0::0::σ)) (x:=(.p (.int .i64 r11))) rfl (sI _ _) rfl
    refine .op (sM e63) ?_
    exact .fin (S64.finN lN) ⟨u0_0,c0_1,c54,hu0_0,hc0_1,hn0_1,h55,h56,rfl⟩
   exact .fin (S18.finN lN) ⟨u0_0,c0_1,c0_2,hu0_0,hc0_1,hn0_1,hc0_2,hn0_2,rfl⟩
  refine .as (knap_search_try_l0_ok (@ih) ?_ k x1 x2 (-1) ((⟨x0.l,x0.now,x0.best,[((x0.good.getD 0 0)),((x0.good.getD 1 0)),((x0.good.getD 2 0)),((x0.good.getD 3 0))],x0.cost⟩ : T_knap_search)) u0_0 hu0_0 c0_1 hc0_1 hn0_1 c0_2 hc0_2 hn0_2 (List.replicate 143 []::h) (S0.wk2 aN aN))
  ·intro zp0 v189 h190 c191 h192 h193 c194 h195 h196 H187 S188
   refine .ext (knap_search_try_a0_0 _ _ _ _) ?_
   exact .fin (S188.finN lN) ⟨v189,c191,c194,h190,h192,h193,h195,h196,rfl⟩
def p_knap_Best (k : Nat) (x0 : (List TaiChoice)) (x1 : Int) : Option ((List Int)) :=
bif ((if ((x0.length : Int)) < 8 then ((x0.length : Int)) else 8)) == 0 then (
some ((([] : List Int))))
else (
(sub x0 0 ((if ((x0.length : Int)) < 8 then ((x0.length : Int)) else 8))).bind fun a2 =>
(mk 8 0 ((if ((x0.length : Int)) < 8 then ((x0.length : Int)) else 8))).bind fun a4 =>
(p_knap_search_try k (⟨a2,a4,(([] : List Int)),[0,0,0,0],0⟩ : T_knap_search) 0 ((if ((if 4096 < x1 then 4096 else x1)) > 0 then ((if 4096 < x1 then 4096 else x1)) else 0))).bind fun r27 =>
bif decide (0 < (IntKind.wrap .i64 (((x0.length : Int)) - ((if ((x0.length : Int)) < 8 then ((x0.length : Int)) else 8))))) then (
none)
else (
some (r27.best)))
theorem knap_Best_ok (k : Nat) {h : H} {σ : Stamp} (x0 : List TaiChoice) {u0 : V} (hu0 : SlF dTaiChoice x0 u0) (x1 : Int) : Sim (p_knap_Best k x0 x1) (ev G X0 72 σ [u0,(.p (.int .i64 x1))] h) (fun r s => ∃ (c0 : C),∃ (a0 : List V),OwnS c0 (dI .i64).sz r.length a0∧(dI .i64).L r a0∧s = ([c0],h)):=by
 refine .ev rfl (Sim.ext (knap_Best_entry _ _ _ _ _ _) ?_)
 rw [p_knap_Best]
 have S0 : Fm 41 h [] [] [] (List.replicate 41 []::h):=Fm.start0
 refine .op ((hu0.h (List.replicate 41 []::h)).len) ?_
 refine .ci ?_
 refine .cq ?_ ?_
 ·exact .fin (S0.finN (lC (SlF.nil (dI .i64)).still.lv lN)) ⟨(.v (.p (.slice none 0 0))),[],⟨by simp,.inl ⟨rfl,rfl,.inl rfl⟩⟩,rfl,rfl⟩
 refine .bd fun a2 h3 => ?_
 refine .op ((hu0.h (List.replicate 41 []::h)).slS h3 rfl rfl rfl) ?_
 refine .bd fun a4 h5 => ?_
 obtain ⟨v6,H7,e8,S9⟩:=S0.mk (dt:=(dI .i64)) (d:=17) (e:=1) (zv:=[(.p (.int .i64 0))]) (σ:=(4::0::1::1::1::0::σ)) h5 rfl rfl (by decide) (by decide) rfl
 refine .op (e8) ?_
 refine .nd ((hu0.h H7).slS h3 rfl rfl rfl) ?_
 obtain ⟨v11,H12,e13,h14,S15⟩:=S9.layD (i:=0) rfl rfl
 have e16 : layCs false H7 [(subV 3 u0 (Int.toNat (0)) (Int.toNat ((if ((x0.length : Int)) < 8 then ((x0.length : Int)) else 8)))),v6,(.p (.slice none 0 0)),(.p (.int .i64 0)),(.p (.int .i64 0)),(.p (.int .i64 0)),(.p (.int .i64 0)),(.p (.int .i64 0))] = some (List.map C.v [(subV 3 u0 (Int.toNat (0)) (Int.toNat ((if ((x0.length : Int)) < 8 then ((x0.length : Int)) else 8)))),v11,.p (.slice none 0 0),.p (.int .i64 0),.p (.int .i64 0),.p (.int .i64 0),.p (.int .i64 0),.p (.int .i64 0)],H12):=(lc_pl (hu0.sub h3 (e:=3) rfl).still (lc_st e13 (lc_pl (SlF.nil (dI .i64)).still (lc_pl (sI _ _) (lc_pl (sI _ _) (lc_pl (sI _ _) (lc_pl (sI _ _) (lc_pl (sI _ _) lc_nil))))))))
 refine .op (bldV (pC (hu0.sub h3 (e:=3) rfl).still.cells (pC (S9.cellsD (i:=0) rfl) pN)) (by kernel_rfl : _ = some (.agg [(subV 3 u0 (Int.toNat (0)) (Int.toNat ((if ((x0.length : Int)) < 8 then ((x0.length : Int)) else 8)))),v6,(.p (.slice none 0 0)),(.p (.int .i64 0)),(.p (.int .i64 0)),(.p (.int .i64 0)),(.p (.int .i64 0)),(.p (.int .i64 0))]))) ?_
 obtain ⟨c20,H21,e22,h23,h24,S25⟩:=S9.layO (k:=0) rfl rfl rfl
 obtain ⟨H17,e18,S19⟩:=S25.boxL (d:=19) (s:=(6::0::1::1::1::0::σ)) (xs:=[(subV 3 u0 (Int.toNat (0)) (Int.toNat ((if ((x0.length : Int)) < 8 then ((x0.length : Int)) else 8)))),v6,(.p (.slice none 0 0)),(.p (.int .i64 0)),(.p (.int .i64 0)),(.p (.int .i64 0)),(.p (.int .i64 0)),(.p (.int .i64 0))]) (lo_pl (hu0.sub h3 (e:=3) rfl).still (lo_ow e22 (lo_pl (SlF.nil (dI .i64)).still (lo_pl (sI _ _) (lo_pl (sI _ _) (lo_pl (sI _ _) (lo_pl (sI _ _) (lo_pl (sI _ _) lo_nil)))))))) (by decide) rfl
 refine .op (e18) ?_
 refine .call (knap_search_try_ok k (⟨a2,a4,(([] : List Int)),[0,0,0,0],0⟩ : T_knap_search) (hu0.sub h3 (e:=3) rfl) h23 h24 (SoC.frz (SlF.nil (dI .i64))) Nq.nil (S19.atG (i:=0) rfl) 0 ((if ((if 4096 < x1 then 4096 else x1)) > 0 then ((if 4096 < x1 then 4096 else x1)) else 0))) fun r27 cs28 H29 h30 q31 => ?_
 obtain ⟨v32,c34,c37,h33,h35,h36,h38,h39,q31⟩:=q31
 cases q31
 have S40:=S19.setG (i:=0) (cs':=[.v v32,c34,c37,.v (.p (.int .i64 ((r27.good.getD 0 0)))),.v (.p (.int .i64 ((r27.good.getD 1 0)))),.v (.p (.int .i64 ((r27.good.getD 2 0)))),.v (.p (.int .i64 ((r27.good.getD 3 0)))),.v (.p (.int .i64 r27.cost))]) rfl rfl rfl
 refine .nc ?_
 refine .fa ?_
 refine .op (h38.ld (S40.atG (i:=0) rfl) (j:=2) rfl) ?_
 refine .op ((hu0.h (ptC H17 ⟨h.length,19,0,(6::0::1::1::1::0::σ),[]⟩ 0 ([.v v32,c34,c37,.v (.p (.int .i64 ((r27.good.getD 0 0)))),.v (.p (.int .i64 ((r27.good.getD 1 0)))),.v (.p (.int .i64 ((r27.good.getD 2 0)))),.v (.p (.int .i64 ((r27.good.getD 3 0)))),.v (.p (.int .i64 r27.cost))]))).len) ?_
 refine .ci ?_
 refine .as ?_
 refine .round (Sim.ext (knap_Best_r0 _ _ _ _ _ _ _) ?_)
 refine .cq ?_ ?_
 ·exact .no
 refine .pure ?_
 refine .ext (knap_Best_a0_0 _ _ _ _ _) ?_
 obtain ⟨v42,e43,c44,cs45,H46,e47,h48,h49,S50⟩:=S40.clipC (G:=G) (X:=X0) (i:=0) (j:=2) (f:=69) (d:=40) (e:=1) (fun x h => slices_Clip_Lint_int_entry _ _ _ x h) rfl rfl rfl h38 (Nq.nn h39) rfl (fun _ => rfl)
 refine .op (e43) ?_
 exact .fin (S50.finE (Ex.st (e47 _) Ex.nil)) ⟨c44,cs45,h48,h49,rfl⟩
end
end Go.Ev
namespace Go.Ev
namespace Knap
theorem sm_congr {f g : Nat→Int} : ∀ {n : Nat},(∀ q,q < n→f q = g q)→sm f n = sm g n
 | 0,_ => rfl
 | n + 1,h => by
  simp only [sm]
  rw [sm_congr fun q hq => h q (by omega),h n (by omega)]
theorem sm_mono {f : Nat→Int} (h0 : ∀ q,0 ≤ f q) {i : Nat} : ∀ d : Nat,sm f i ≤ sm f (i + d)
 | 0 => Int.le_refl _
 | d + 1 => by
  have:=sm_mono h0 (i:=i) d
  have:=h0 (i + d)
  show sm f i ≤ sm f (i + d) + f (i + d)
  omega
theorem cost_congr {l : List TaiChoice} {y z : List Int} {n : Nat} (h : ∀ q,q < n→y.getD q 0 = z.getD q 0) : sm (cf l y) n = sm (cf l z) n :=
 sm_congr fun q hq => by unfold cf; rw [h q hq]
theorem good_congr {l : List TaiChoice} {y z : List Int} {n : Nat} {j : Int} (h : ∀ q,q < n→y.getD q 0 = z.getD q 0) : sm (gf l y j) n = sm (gf l z j) n :=
 sm_congr fun q hq => by unfold gf; rw [h q hq]
theorem obj_congr {l : List TaiChoice} {y z : List Int} (hl : y.length = z.length) (h : ∀ q,q < z.length→y.getD q 0 = z.getD q 0) : obj l y = obj l z:=by
 unfold obj goodL costL
 rw [hl,cost_congr h,good_congr h,good_congr h,good_congr h,good_congr h]
structure Inv (l : List TaiChoice) (B : Int) (s : T_knap_search) : Prop where
 sl : s.l = l
 now : s.now.length = l.length
 g4 : s.good = [s.good.getD 0 0,s.good.getD 1 0,s.good.getD 2 0,s.good.getD 3 0]
 best : s.best ≠ []→s.best.length = l.length∧FA l s.best∧costL l s.best ≤ B∧s.good = goodL l s.best∧s.cost = costL l s.best
def cd (z : List Int) : Nat→Int
 | 0 => 0
 | n + 1 => cd z n * 5 + (z.getD n 0 + 1)
theorem cd_congr {y z : List Int} : ∀ {n : Nat},(∀ q,q < n→y.getD q 0 = z.getD q 0)→cd y n = cd z n
 | 0,_ => rfl
 | n + 1,h => by
  simp only [cd]
  rw [cd_congr fun q hq => h q (by omega),h n (by omega)]
theorem fit_range {c : TaiChoice} (hc : OkC c) {p : Int} (h : fitB c p = true) : -1 ≤ p∧p < 4:=by
 simp only [fitB,Bool.or_eq_true,beq_iff_eq] at h
 rcases h with h | h
 ·omega
 ·simp only [hasB,decide_eq_true_eq] at h
  have:=hc.l4
  omega
theorem cd_lt {l : List TaiChoice} (hl : OkL l) {y z : List Int} (hy : FA l y) (hz : FA l z) {i : Nat} (he : ∀ q,q < i→y.getD q 0 = z.getD q 0) (hlt : y.getD i 0 < z.getD i 0) : ∀ d : Nat,i + 1 + d ≤ l.length→cd y (i + 1 + d) < cd z (i + 1 + d)
 | 0,_ => by
  show cd y i * 5 + (y.getD i 0 + 1) < cd z i * 5 + (z.getD i 0 + 1)
  rw [cd_congr he]; omega
 | d + 1,h => by
  have h1:=cd_lt hl hy hz he hlt d (by omega)
  have h2:=fit_range (hl _) (hy (i + 1 + d) (by omega))
  have h3:=fit_range (hl _) (hz (i + 1 + d) (by omega))
  show cd y (i + 1 + d) * 5 + (y.getD (i + 1 + d) 0 + 1) < cd z (i + 1 + d) * 5 + (z.getD (i + 1 + d) 0 + 1)
  omega
def Up (l : List TaiChoice) (s s' : T_knap_search) : Prop:=s.best ≠ []→s'.best ≠ []∧(s'.best = s.best ∨ obj l s.best < obj l s'.best)
def Le (l : List TaiChoice) (z x : List Int) : Prop:=obj l z < obj l x ∨ (obj l z = obj l x∧cd x l.length ≤ cd z l.length)
def Cov (l : List TaiChoice) (s : T_knap_search) (z : List Int) : Prop:=s.best ≠ []∧Le l z s.best
theorem Cov.up {l : List TaiChoice} {s s' : T_knap_search} {z : List Int} (h : Cov l s z) (u : Up l s s') : Cov l s' z:=by
 obtain ⟨h1,h2⟩:=u h.1
 refine ⟨h1,?_⟩
 rcases h2 with h2 | h2
 ·rw [h2]; exact h.2
 ·rcases h.2 with h3 | h3
  ·exact .inl (by omega)
  ·exact .inl (by omega)
theorem Up.trans {l : List TaiChoice} {s s' s'' : T_knap_search} (h : Up l s s') (h' : Up l s' s'') : Up l s s'':=fun hs => by
 obtain ⟨a1,a2⟩:=h hs
 obtain ⟨b1,b2⟩:=h' a1
 refine ⟨b1,?_⟩
 rcases a2 with a2 | a2 <;> rcases b2 with b2 | b2
 ·exact .inl (b2.trans a2)
 ·rw [a2] at b2; exact .inr b2
 ·rw [← b2] at a2; exact .inr a2
 ·exact .inr (by omega)
structure Post (l : List TaiChoice) (B : Int) (i : Nat) (s s' : T_knap_search) : Prop where
 inv : Inv l B s'
 pre : ∀ q,q < i→s'.now.getD q 0 = s.now.getD q 0
 up : Up l s s'
 cov : ∀ z : List Int,z.length = l.length→(∀ q,q < i→z.getD q 0 = s.now.getD q 0)→FA l z→costL l z ≤ B→Cov l s' z
 dst : s'.best ≠ []→s'.best = s.best ∨ ∀ q,q < i→s'.best.getD q 0 = s.now.getD q 0
structure Pre (l : List TaiChoice) (B : Int) (i : Nat) (left : Int) (s : T_knap_search) : Prop where
 inv : Inv l B s
 hi : i ≤ l.length
 fit : ∀ q,q < i→fitB (ch l q) (s.now.getD q 0) = true
 nn : 0 ≤ left
 sum : sm (cf l s.now) i + left = B
 bef : s.best ≠ []→∀ z : List Int,(∀ q,q < i→z.getD q 0 = s.now.getD q 0)→FA l z→cd s.best l.length < cd z l.length
theorem eta {l : List TaiChoice} {B : Int} {s : T_knap_search} (h : Inv l B s) : (⟨s.l,s.now,s.best,[s.good.getD 0 0,s.good.getD 1 0,s.good.getD 2 0,s.good.getD 3 0],s.cost⟩ : T_knap_search) = s:=by
 have:=h.g4
 rw [← this]
theorem neO_ok {α : Type} {xs : List α} (h : xs ≠ []) : neO xs = some ():=by
 unfold neO
 cases xs with
 | nil => exact absurd rfl h
 | cons => rfl
theorem obj_lt {l : List TaiChoice} (hl : OkL l) {y z : List Int} (hy : y.length ≤ 8) (hz : z.length ≤ 8) : (key (goodL l y) < key (goodL l z) ∨ key (goodL l y) = key (goodL l z)∧costL l z < costL l y) ↔ obj l y < obj l z:=by
 have a:=cf_bd hl y y.length
 have b:=cf_bd hl z z.length
 unfold obj
 unfold costL
 omega
theorem try_leaf {l : List TaiChoice} {B : Int} (hl : OkL l) (h1 : 0 < l.length) (h8 : l.length ≤ 8) {s : T_knap_search} {left : Int} {k : Nat} (hk : 10 ≤ k) (hp : Pre l B l.length left s) : ∃ s',p_knap_search_try (k + 1) s (l.length : Int) left = some s'∧Post l B l.length s s':=by
 have hi:=hp.inv
 have hn:=hi.now
 rw [p_knap_search_try,hi.sl]
 rw [show (((l.length : Nat) : Int) == ((l.length : Nat) : Int)) = true from beq_self_eq_true _,cond_true,good_ok hl hn h8 hk,cost_ok hl hn h8 hk]
 simp only [Option.bind_some]
 have hfa : FA l s.now:=hp.fit
 have hcost : costL l s.now ≤ B:=by
  have:=hp.sum
  have:=hp.nn
  unfold costL
  rw [hn]; omega
 have g4:=goodL_4 hl (z:=s.now) (by omega)
 have hnn : s.now ≠ []:=fun e => by rw [e] at hn; simp at hn; omega
 have yes : ∃ s',(bif true then (p_clone 8 s.now).bind fun r37 => (neO r37).bind fun _ => some (⟨l,s.now,r37,[(goodL l s.now).getD 0 0,(goodL l s.now).getD 1 0,(goodL l s.now).getD 2 0,(goodL l s.now).getD 3 0],costL l s.now⟩ : T_knap_search) else some (⟨l,s.now,s.best,[s.good.getD 0 0,s.good.getD 1 0,s.good.getD 2 0,s.good.getD 3 0],s.cost⟩ : T_knap_search)) = some s'∧s' = ⟨l,s.now,s.now,goodL l s.now,costL l s.now⟩:=by
  rw [cond_true,clone_eq (by omega) (by omega),Option.bind_some,neO_ok hnn,Option.bind_some]
  exact ⟨_,rfl,by rw [← g4.len]⟩
 have postY : (s.best ≠ []→obj l s.best < obj l s.now)→Post l B l.length s ⟨l,s.now,s.now,goodL l s.now,costL l s.now⟩:=fun hb =>
  ⟨⟨rfl,hn,g4.len,fun _ => ⟨hn,hfa,hcost,rfl,rfl⟩⟩,fun _ _ => rfl,fun h => ⟨hnn,.inr (hb h)⟩,fun z hz hz2 _ _ => ⟨hnn,.inr ⟨obj_congr (y:=z) (z:=s.now) (by omega) (fun q hq => hz2 q (by omega)),by
   rw [cd_congr (y:=z) (z:=s.now) hz2]
   exact Int.le_refl _⟩⟩,fun _ => .inr fun _ _ => rfl⟩
 by_cases hb : s.best = []
 ·have e : s.best.isEmpty = true:=by rw [hb]; rfl
  rw [e]
  simp only [cond_true,Option.bind_some]
  obtain ⟨s',y1,rfl⟩:=yes
  exact ⟨_,y1,postY fun h => absurd hb h⟩
 ·have e : s.best.isEmpty = false:=by
   cases hx : s.best with
   | nil => exact absurd hx hb
   | cons => rfl
  obtain ⟨b1,b2,b3,b4,b5⟩:=hi.best hb
  have g5:=goodL_4 hl (z:=s.best) (by omega)
  have hgb : G4 s.good:=by rw [b4]; exact g5
  rw [e,← hgb.len,better_ok g4 hgb hk,eq4 g4 hgb,b4,b5]
  simp only [cond_false,Option.bind_some]
  have ol:=obj_lt hl (y:=s.best) (z:=s.now) (by omega) (by omega)
  by_cases hbt : obj l s.best < obj l s.now
  ·have hc : (bif decide (key (goodL l s.best) < key (goodL l s.now)) then some true else (bif decide (key (goodL l s.now) = key (goodL l s.best)) then some (decide (costL l s.now < costL l s.best)) else some false).bind fun b28 => some b28) = some true:=by
    rcases ol.2 hbt with h | ⟨h,h'⟩
    ·simp [h]
    ·simp [h,h']
   rw [hc]
   simp only [Option.bind_some]
   obtain ⟨s',y1,rfl⟩:=yes
   rw [b4] at y1
   exact ⟨_,y1,postY fun _ => hbt⟩
  ·have hc : (bif decide (key (goodL l s.best) < key (goodL l s.now)) then some true else (bif decide (key (goodL l s.now) = key (goodL l s.best)) then some (decide (costL l s.now < costL l s.best)) else some false).bind fun b28 => some b28) = some false:=by
    have h1 : ¬ key (goodL l s.best) < key (goodL l s.now):=fun h => hbt (ol.1 (.inl h))
    by_cases h2 : key (goodL l s.now) = key (goodL l s.best)
    ·have h3 : ¬ costL l s.now < costL l s.best:=fun h => hbt (ol.1 (.inr ⟨h2.symm,h⟩))
     simp [h2,h3]
    ·simp [h1,h2]
   rw [hc]
   simp only [Option.bind_some,cond_false]
   refine ⟨_,rfl,?_⟩
   rw [show (⟨l,s.now,s.best,goodL l s.best,costL l s.best⟩ : T_knap_search) = s by rw [← b4,← b5,← hi.sl]]
   exact ⟨hi,fun _ _ => rfl,fun h => ⟨h,.inl rfl⟩,fun z hz hz2 hzf _ => ⟨hb,by
    have e1:=obj_congr (l:=l) (y:=z) (z:=s.now) (by omega) (fun q hq => hz2 q (by omega))
    have e2:=hp.bef hb z hz2 hzf
    by_cases h : obj l z = obj l s.best
    ·exact .inr ⟨h,by omega⟩
    ·exact .inl (by omega)⟩,fun _ => .inl rfl⟩
structure LInv (l : List TaiChoice) (B : Int) (i j : Nat) (s0 s : T_knap_search) : Prop where
 inv : Inv l B s
 pre : ∀ q,q < i→s.now.getD q 0 = s0.now.getD q 0
 up : Up l s0 s
 cov : ∀ z : List Int,z.length = l.length→(∀ q,q < i→z.getD q 0 = s0.now.getD q 0)→FA l z→costL l z ≤ B→z.getD i 0 < (j : Int) - 1→Cov l s z
 dst : s.best ≠ []→s.best = s0.best ∨ ((∀ q,q < i→s.best.getD q 0 = s0.now.getD q 0)∧s.best.getD i 0 < (j : Int) - 1)
theorem getD_set {xs : List Int} {i q : Nat} {x : Int} (h : i < xs.length) : (xs.set i x).getD q 0 = if q = i then x else xs.getD q 0:=by
 simp only [List.getD_eq_getElem?_getD,List.getElem?_set]
 by_cases hq : i = q
 ·subst hq; simp [h]
 ·rw [if_neg hq,if_neg (Ne.symm hq)]
theorem fit_has {c : TaiChoice} {p : Int} (h : fitB c p = true) (h0 : 0 ≤ p) : hasB c p = true:=by
 simp only [fitB,Bool.or_eq_true,beq_iff_eq] at h
 rcases h with h | h
 ·omega
 ·exact h
theorem try_loop {l : List TaiChoice} {B : Int} (hl : OkL l) (h8 : l.length ≤ 8) (hB : B ≤ 1048576) {i : Nat} (hil : i < l.length) {left : Int} {s0 : T_knap_search} (hp : Pre l B i left s0) {rec : T_knap_search→Int→Int→Option T_knap_search}
  (hrec : ∀ left' s,Pre l B (i + 1) left' s→∃ s',rec s ((i + 1 : Nat) : Int) left' = some s'∧Post l B (i + 1) s s') (kE : T_knap_search→Option T_knap_search) :
  ∀ m j k : Nat,j + m = 5→m < k→∀ s,LInv l B i j s0 s→∃ s',p_knap_search_try_l0 k rec kE (i : Int) left ((j : Int) - 1) s = kE s'∧LInv l B i 5 s0 s':=by
 intro m
 induction m with
 | zero =>
  intro j k hj hk s hs
  obtain ⟨k,rfl⟩ : ∃ j,k = j + 1:=⟨k - 1,by omega⟩
  rw [p_knap_search_try_l0,eta hs.inv]
  have : decide ((j : Int) - 1 < 4) = false:=by simp; omega
  rw [this,cond_false]
  have : j = 5:=by omega
  subst this
  exact ⟨s,rfl,hs⟩
 | succ m ih =>
  intro j k hj hk s hs
  obtain ⟨k,rfl⟩ : ∃ j,k = j + 1:=⟨k - 1,by omega⟩
  rw [p_knap_search_try_l0,eta hs.inv]
  have hi:=hs.inv
  have hn:=hi.now
  have e1 : decide ((j : Int) - 1 < 4) = true:=by simp; omega
  have ew : IntKind.wrap .i64 (((j : Int) - 1) + 1) = ((j + 1 : Nat) : Int) - 1:=by rw [wrap_i64 (by omega) (by omega)]; omega
  have ewi : IntKind.wrap .i64 ((i : Int) + 1) = ((i + 1 : Nat) : Int):=wrap_nat (by omega)
  rw [e1,cond_true,hi.sl,ix_ch hil]
  simp only [Option.bind_some]
  rw [fits_ok (hl i)]
  simp only [Option.bind_some]
  have csum : ∀ z : List Int,z.length = l.length→(∀ q,q < i→z.getD q 0 = s0.now.getD q 0)→z.getD i 0 = (j : Int) - 1→costL l z ≤ B→cst (ch l i) ((j : Int) - 1) ≤ left:=fun z hz hq hzi hc => by
   have h1:=sm_mono (f:=cf l z) (fun _ => cst_lo) (i:=i + 1) (l.length - (i + 1))
   rw [show i + 1 + (l.length - (i + 1)) = z.length by omega] at h1
   have h2 : sm (cf l z) (i + 1) = sm (cf l z) i + cst (ch l i) ((j : Int) - 1):=by rw [← hzi]; rfl
   rw [cost_congr hq] at h2
   have:=hp.sum
   unfold costL at hc
   omega
  have skip : (∀ z : List Int,z.length = l.length→(∀ q,q < i→z.getD q 0 = s0.now.getD q 0)→FA l z→costL l z ≤ B→z.getD i 0 = (j : Int) - 1→False)→∃ s',p_knap_search_try_l0 k rec kE (i : Int) left (((j + 1 : Nat) : Int) - 1) s = kE s'∧LInv l B i 5 s0 s':=fun hno =>
   ih (j + 1) k (by omega) (by omega) s ⟨hi,hs.pre,hs.up,fun z h1 h2 h3 h4 h5 => by
    by_cases hz : z.getD i 0 = (j : Int) - 1
    ·exact (hno z h1 h2 h3 h4 hz).elim
    ·exact hs.cov z h1 h2 h3 h4 (by omega),fun h => (hs.dst h).imp id fun ⟨a,b⟩ => ⟨a,by omega⟩⟩
  cases hf : fitB (ch l i) ((j : Int) - 1)
  ·simp only [Bool.not_false,cond_true,Option.bind_some]
   rw [ew]
   exact skip fun z h1 _ h3 _ h5 => by
    have:=h3 i hil
    rw [h5,hf] at this
    cases this
  ·have go : cst (ch l i) ((j : Int) - 1) ≤ left→∃ s',((rec ⟨l,s.now.set i ((j : Int) - 1),s.best,s.good,s.cost⟩ ((i + 1 : Nat) : Int) (left - cst (ch l i) ((j : Int) - 1))).bind fun r =>
      p_knap_search_try_l0 k rec kE (i : Int) left (((j + 1 : Nat) : Int) - 1) ⟨r.l,r.now,r.best,[r.good.getD 0 0,r.good.getD 1 0,r.good.getD 2 0,r.good.getD 3 0],r.cost⟩) = kE s'∧LInv l B i 5 s0 s':=fun hc => by
    have hset : ∀ q,(s.now.set i ((j : Int) - 1)).getD q 0 = if q = i then (j : Int) - 1 else s.now.getD q 0:=fun q => getD_set (by omega)
    have hpre : Pre l B (i + 1) (left - cst (ch l i) ((j : Int) - 1)) ⟨l,s.now.set i ((j : Int) - 1),s.best,s.good,s.cost⟩:=by
     refine ⟨⟨rfl,by simpa using hn,hi.g4,hi.best⟩,by omega,fun q hq => ?_,by omega,?_,fun hb z hz hzf => ?_⟩
     ·show fitB (ch l q) ((s.now.set i ((j : Int) - 1)).getD q 0) = true
      rw [hset]
      by_cases h : q = i
      ·rw [if_pos h,h,hf]
      ·rw [if_neg h,hs.pre q (by omega)]; exact hp.fit q (by omega)
     ·show sm (cf l (s.now.set i ((j : Int) - 1))) (i + 1) + _ = B
      have h2 : sm (cf l (s.now.set i ((j : Int) - 1))) (i + 1) = sm (cf l (s.now.set i ((j : Int) - 1))) i + cst (ch l i) ((j : Int) - 1):=by
       simp only [sm]
       congr 1
       unfold cf
       rw [hset,if_pos rfl]
      have h3 : sm (cf l (s.now.set i ((j : Int) - 1))) i = sm (cf l s0.now) i:=cost_congr fun q hq => by rw [hset,if_neg (by omega),hs.pre q hq]
      have:=hp.sum
      omega
     ·have hz2 : ∀ q,q < i + 1→z.getD q 0 = if q = i then (j : Int) - 1 else s.now.getD q 0:=fun q hq => (hz q hq).trans (hset q)
      have hz3 : ∀ q,q < i→z.getD q 0 = s0.now.getD q 0:=fun q hq => by
       rw [hz2 q (by omega),if_neg (by omega),hs.pre q hq]
      rcases hs.dst hb with hd | ⟨hd1,hd2⟩
      ·show cd s.best _ < _
       rw [hd]
       exact hp.bef (by rw [← hd]; exact hb) z hz3 hzf
      ·have e:=cd_lt hl (hi.best hb).2.1 hzf (i:=i) (fun q hq => by rw [hd1 q hq,hz3 q hq]) (by rw [hz2 i (by omega),if_pos rfl]; exact hd2) (l.length - (i + 1)) (by omega)
       rw [show i + 1 + (l.length - (i + 1)) = l.length by omega] at e
       exact e
    obtain ⟨s1,r1,p1⟩:=hrec _ _ hpre
    rw [r1,Option.bind_some,eta p1.inv]
    have up1 : Up l s s1:=p1.up
    refine ih (j + 1) k (by omega) (by omega) s1 ⟨p1.inv,fun q hq => ?_,hs.up.trans up1,fun z h1 h2 h3 h4 h5 => ?_,fun hb => ?_⟩
    ·rw [p1.pre q (by omega)]
     show (s.now.set i ((j : Int) - 1)).getD q 0 = _
     rw [hset,if_neg (by omega),hs.pre q hq]
    ·by_cases hz : z.getD i 0 = (j : Int) - 1
     ·refine p1.cov z h1 (fun q hq => ?_) h3 h4
      show _ = (s.now.set i ((j : Int) - 1)).getD q 0
      rw [hset]
      by_cases h : q = i
      ·rw [if_pos h,h,hz]
      ·rw [if_neg h,h2 q (by omega),hs.pre q (by omega)]
     ·exact (hs.cov z h1 h2 h3 h4 (by omega)).up up1
    ·rcases p1.dst hb with hd | hd
     ·have hd : s1.best = s.best:=hd
      rw [hd] at hb ⊢
      exact (hs.dst hb).imp id fun ⟨a,b⟩ => ⟨a,by omega⟩
     ·have hd2 : ∀ q,q < i + 1→s1.best.getD q 0 = if q = i then (j : Int) - 1 else s.now.getD q 0:=fun q hq => (hd q hq).trans (hset q)
      exact .inr ⟨fun q hq => by rw [hd2 q (by omega),if_neg (by omega),hs.pre q hq],by rw [hd2 i (by omega),if_pos rfl]; omega⟩
   have hix : ix s.now (i : Int) = some (s.now.getD i 0):=ix_z (by omega)
   have hstx : stx s.now (i : Int) ((j : Int) - 1) = some (s.now.set i ((j : Int) - 1)):=by
    unfold stx
    rw [if_pos ⟨by omega,by omega⟩]; rfl
   have hgd : [s.good.getD 0 0,s.good.getD 1 0,s.good.getD 2 0,s.good.getD 3 0] = s.good:=hi.g4.symm
   by_cases h0 : 0 ≤ (j : Int) - 1
   ·have hh:=fit_has hf h0
    have hb2:=hh
    simp only [hasB,decide_eq_true_eq] at hb2
    have e0 : decide ((j : Int) - 1 ≥ 0) = true:=by simpa using h0
    have ec:=cst_has hh
    have lo:=@cst_lo (ch l i) ((j : Int) - 1)
    have hi2:=cst_hi (hl i) (p:=(j : Int) - 1)
    have hlb : left ≤ B:=by
     have:=(cf_bd hl s0.now i).1
     have:=hp.sum
     omega
    have hnn:=hp.nn
    rw [e0,ix_get (d:=0) h0 hb2.2.1,← ec]
    simp only [Bool.not_true,cond_false,cond_true,Option.bind_some]
    by_cases hc : cst (ch l i) ((j : Int) - 1) > left
    ·rw [decide_eq_true hc,cond_true,ew]
     exact skip fun z h1 h2 _ h4 h5 => by
      have:=csum z h1 h2 h5 h4
      omega
    ·rw [decide_eq_false hc,cond_false,hix,hstx,ewi,ew,wrap_i64 (n:=left - cst (ch l i) ((j : Int) - 1)) (by omega) (by omega),hgd]
     simp only [Option.bind_some]
     exact go (by omega)
   ·have hj1 : (j : Int) - 1 = -1:=by omega
    have e0 : decide ((j : Int) - 1 ≥ 0) = false:=by simpa using h0
    have hz : cst (ch l i) ((j : Int) - 1) = 0:=by rw [hj1]; exact cst_no has_neg
    rw [e0,hix,hstx,ewi,ew,hgd]
    simp only [Bool.not_true,cond_false,Option.bind_some]
    have:=go (by rw [hz]; exact hp.nn)
    rw [hz,Int.sub_zero] at this
    exact this
theorem try_ok {l : List TaiChoice} {B : Int} (hl : OkL l) (h1 : 0 < l.length) (h8 : l.length ≤ 8) (hB : B ≤ 1048576) : ∀ m i k : Nat,i + m = l.length→10 + m < k→∀ left s,Pre l B i left s→∃ s',p_knap_search_try k s (i : Int) left = some s'∧Post l B i s s':=by
 intro m
 induction m with
 | zero =>
  intro i k hi hk left s hp
  obtain ⟨k,rfl⟩ : ∃ j,k = j + 1:=⟨k - 1,by omega⟩
  have : i = l.length:=by omega
  subst this
  exact try_leaf hl h1 h8 (by omega) hp
 | succ m ih =>
  intro i k hi hk left s hp
  obtain ⟨k,rfl⟩ : ∃ j,k = j + 1:=⟨k - 1,by omega⟩
  rw [p_knap_search_try,hp.inv.sl]
  have e : ((i : Int) == ((l.length : Nat) : Int)) = false:=beq_eq_false_iff_ne.2 (by omega)
  rw [e,cond_false]
  have hs:=eta hp.inv
  rw [hp.inv.sl] at hs
  rw [hs]
  obtain ⟨s',r,p⟩:=try_loop hl h8 hB (by omega) hp (rec:=p_knap_search_try k) (fun left' s h => ih (i + 1) k (by omega) (by omega) left' s h) (fun zp0 => some (⟨zp0.l,zp0.now,zp0.best,[zp0.good.getD 0 0,zp0.good.getD 1 0,zp0.good.getD 2 0,zp0.good.getD 3 0],zp0.cost⟩ : T_knap_search)) 5 0 k (by omega) (by omega) s
   ⟨hp.inv,fun _ _ => rfl,fun h => ⟨h,.inl rfl⟩,fun z h1 h2 h3 h4 h5 => by
    have:=fit_range (hl i) (h3 i (by omega))
    omega,fun _ => .inl rfl⟩
  refine ⟨s',r.trans (by rw [eta p.inv]),p.inv,p.pre,p.up,fun z h1 h2 h3 h4 => p.cov z h1 h2 h3 h4 ?_,fun h => (p.dst h).imp id fun q => q.1⟩
  have:=fit_range (hl i) (h3 i (by omega))
  omega
end Knap
end Go.Ev
namespace Go.Ev
namespace Knap
theorem getD_all {α : Type} {P : α→Prop} {d : α} (hd : P d) {xs : List α} (h : ∀ x ∈ xs,P x) (q : Nat) : P (xs.getD q d):=by
 rw [List.getD_eq_getElem?_getD]
 cases hq : xs[q]? with
 | none => exact hd
 | some x => exact h x (List.mem_of_getElem? hq)
theorem okL_of {l : List TaiChoice} (h : ∀ c ∈ l,OkC c) : OkL l:=fun q => getD_all (P:=OkC) ⟨by decide,by decide,rfl,by decide,fun q => by simp,fun q => by simp,fun q => by simp⟩ h q
theorem okC_of {cls : Int} {cs gs : List Int} (h0 : 0 ≤ cls) (h3 : cls ≤ 3) (hlen : cs.length = gs.length) (hl : cs.length ≤ 3) (hc : ∀ x ∈ cs,x ≤ 14) (hg : ∀ x ∈ gs,0 ≤ x∧x ≤ 1048576) : OkC ⟨cls,cs,gs⟩ :=
 ⟨h0,by show cls < 4; omega,hlen,by show cs.length ≤ 4; omega,fun q => getD_all (P:=fun x => x ≤ 1048576) (by omega) (fun x hx => by have:=hc x hx; omega) q,
  fun q => getD_all (P:=fun x => 0 ≤ x) (by omega) (fun x hx => (hg x hx).1) q,fun q => getD_all (P:=fun x => x ≤ 1048576) (by omega) (fun x hx => (hg x hx).2) q⟩
theorem and3 (x : Int) : 0 ≤ intBits .and .i64 x 3∧intBits .and .i64 x 3 ≤ 3:=by
 have a1 : intBits .and .i64 x 3 = x % 2 ^ 2:=and_mask (n:=2) (m:=3) _ rfl (by decide)
 rw [a1]; omega
theorem and31 (x : Int) : 0 ≤ intBits .and .i64 x 31∧intBits .and .i64 x 31 ≤ 31:=by
 have a1 : intBits .and .i64 x 31 = x % 2 ^ 5:=and_mask (n:=5) (m:=31) _ rfl (by decide)
 rw [a1]; omega
theorem getD_rep (n q : Nat) : (List.replicate n (-1 : Int)).getD q 0 = if q < n then -1 else 0:=by
 rw [List.getD_eq_getElem?_getD,List.getElem?_replicate]
 split <;> rfl
theorem none_fits {l : List TaiChoice} : FA l (List.replicate l.length (-1)):=fun q hq => by
 rw [getD_rep,if_pos hq]; rfl
theorem sm_zero {f : Nat→Int} : ∀ {n : Nat},(∀ q,q < n→f q = 0)→sm f n = 0
 | 0,_ => rfl
 | n + 1,h => by
  simp only [sm]
  rw [sm_zero fun q hq => h q (by omega),h n (by omega)]; rfl
theorem none_costs {l : List TaiChoice} : costL l (List.replicate l.length (-1)) = 0:=by
 unfold costL
 refine sm_zero fun q hq => ?_
 rw [List.length_replicate] at hq
 unfold cf
 rw [getD_rep,if_pos hq]
 exact cst_no has_neg
theorem best_first {l : List TaiChoice} (hl : OkL l) (h1 : 0 < l.length) (h8 : l.length ≤ 8) {b : Int} (b0 : 0 ≤ b) (b1 : b ≤ 4096) {k : Nat} (hk : 40 ≤ k) :
  ∃ x,p_knap_Best k l b = some x∧x.length = l.length∧FA l x∧costL l x ≤ b∧∀ z : List Int,z.length = l.length→FA l z→costL l z ≤ b→Le l z x:=by
 unfold p_knap_Best
 have e1 : (if ((l.length : Int)) < 8 then ((l.length : Int)) else 8) = (l.length : Int):=by split <;> omega
 have e2 : ((l.length : Int) == 0) = false:=beq_eq_false_iff_ne.2 (by omega)
 have e3 : (if ((if 4096 < b then 4096 else b)) > 0 then ((if 4096 < b then 4096 else b)) else 0) = b:=by
  rw [if_neg (show ¬ 4096 < b by omega)]
  split <;> omega
 have e4 : mk 8 (0 : Int) (l.length : Int) = some (List.replicate l.length 0):=by
  unfold mk
  rw [if_pos ⟨by omega,by omega,by omega⟩]; rfl
 have e5 : decide ((0 : Int) < IntKind.wrap .i64 ((l.length : Int) - (l.length : Int))) = false:=by
  rw [Int.sub_self]; rfl
 rw [e1,e2,cond_false,sub_all rfl,Option.bind_some,e4,Option.bind_some,e3]
 have hp : Pre l b 0 b ⟨l,List.replicate l.length 0,[],[0,0,0,0],0⟩:=⟨⟨rfl,by simp,rfl,fun h => absurd rfl h⟩,by omega,fun q hq => by omega,b0,by simp [sm],fun h => absurd rfl h⟩
 obtain ⟨s',r1,p⟩:=try_ok hl h1 h8 (by omega) l.length 0 k (by omega) (by omega) b _ hp
 have hc:=p.cov _ (by simp) (fun q hq => by omega) none_fits (by rw [none_costs]; exact b0)
 obtain ⟨c1,c2,c3,_,_⟩:=p.inv.best hc.1
 have r2 : p_knap_search_try k ⟨l,List.replicate l.length 0,[],[0,0,0,0],0⟩ 0 b = some s':=r1
 rw [r2,Option.bind_some,e5,cond_false]
 exact ⟨s'.best,rfl,c1,c2,c3,fun z h1 h2 h3 => (p.cov z h1 (fun q hq => by omega) h2 h3).2⟩
end Knap
end Go.Ev
namespace Go.Ev
open Go.Proofs
set_option linter.unusedVariables false
set_option linter.unusedSimpArgs false
set_option maxRecDepth 100000
noncomputable section
abbrev KT7:=Exit→Env→H→Option (List C × H)
variable (rec : CallF) (loop : LoopV) (σ : Stamp)
def zr18_Best_c0 : Code:=(codeAt (bodyOf Try.f34) [1,1,1,0,1,0,0])
def zr18_Best_l0 : Lv:=⟨33,16,[(0,33)]⟩
def zr18_Best_k0 : KT7:=(kBlock 0 (kSeq G rec loop (codeAt (bodyOf Try.f34) [1,1,1,1]) ⟨16,16,[]⟩ (1::1::1::0::σ) (finC G false Try.f34 (1::σ))))
def zr18_Best_c1 : Code:=(codeAt (bodyOf Try.f34) [1,1,1,1,1,1,0,0,0])
def zr18_Best_l1 : Lv:=⟨128,16,[(2,128)]⟩
def zr18_Best_k1 : KT7:=(kBlock 2 (kSeq G rec loop (codeAt (bodyOf Try.f34) [1,1,1,1,1,1,1]) ⟨16,16,[]⟩ (1::1::1::1::1::1::0::σ) (finC G false Try.f34 (1::σ))))
theorem zr18_Best_entry (x0 : V) (x1 : Int) (h : H) : cvBody G rec loop 34 σ [x0,(.p (.int .i64 x1))] h =
(lenO x0).bind fun t1 =>
(castI .i64 t1).bind fun n2 =>
bif n2 == 0 then (
fin false σ (List.replicate 56 []::h) [(.p (.slice .none 0 0))])
else (
(buildV Try.prog 136 [(1,(.p (.int .i64 ((if 0 > ((if 4096 < x1 then 4096 else x1)) then 0 else ((if 4096 < x1 then 4096 else x1)))))))]).bind fun t3 =>
(boxO true (4::0::1::1::0::σ) 15 (List.replicate 56 []::h) t3).bind fun q4 =>
(loop zr18_Best_c0 zr18_Best_l0 (1::0::1::1::1::0::σ) (envL [(0,x0),(5,q4.1),(6,(.p (.int .i64 0)))]) q4.2).bind fun r5 => zr18_Best_k0 rec loop σ r5.1 r5.2.1 r5.2.2):=by kernel_rfl
theorem zr18_Best_r0 (x0 : V) (x5 : V) (x6 : Int) (h : H) : cvRound G rec loop zr18_Best_c0 zr18_Best_l0 σ (envL [(0,x0),(5,x5),(6,(.p (.int .i64 x6)))]) h =
(lenO x0).bind fun t6 =>
(castI .i64 t6).bind fun n7 =>
(bif decide (x6 < n7) then (some (decide (x6 < 8))) else (some false)).bind fun b8 =>
bif b8 then (
(nilChk x5).bind fun t9 =>
(fA t9 0).bind fun t10 =>
(ldO false 1 h t10).bind fun t11 =>
(iS 3 x0 x6).bind fun t12 =>
(ldO true 3 h t12).bind fun t13 =>
(callO rec 78 (9::0::1::0::σ) [t13] h (some 35)).bind fun q14 =>
need (ldO false 1 q14.2 t10 = some t11) (
(bSV Try.prog 66 1 [(0,q14.1)]).bind fun t15 =>
(apO false 3 56 (11::0::1::0::σ) 37 q14.2 t11 t15).bind fun q16 =>
(nilChk x5).bind fun t17 =>
(fA t17 0).bind fun t18 =>
((stO true 1 (14::0::1::0::σ) q16.2 t18 q16.1).map fun h => (udf,h)).bind fun q19 =>
loop zr18_Best_c0 zr18_Best_l0 (1::σ) (envL [(0,x0),(5,x5),(6,(.p (.int .i64 (IntKind.wrap .i64 (x6 + 1)))))]) q19.2))
else (
some ((.exit 0),(envL [(0,x0),(5,x5)]),h)):=by kernel_rfl
theorem zr18_Best_a0_0 (x0 : V) (x5 : V) (h : H) : zr18_Best_k0 rec loop σ (.exit 0) (envL [(0,x0),(5,x5)]) h =
(buildV Try.prog 134 []).bind fun t20 =>
(callO rec 79 (2::0::1::1::1::1::0::σ) [x5,(.p (.slice .none 0 0)),t20,(.p (.int .i64 0))] h (some 42)).bind fun q21 =>
(nilChk x5).bind fun t22 =>
(fA t22 2).bind fun t23 =>
(ldO false 1 q21.2 t23).bind fun t24 =>
(loop zr18_Best_c1 zr18_Best_l1 (0::1::1::1::1::1::1::0::σ) (envL [(0,x0),(7,t24)]) q21.2).bind fun r25 => zr18_Best_k1 rec loop σ r25.1 r25.2.1 r25.2.2:=by kernel_rfl
theorem zr18_Best_r1 (x0 : V) (x7 : V) (h : H) : cvRound G rec loop zr18_Best_c1 zr18_Best_l1 σ (envL [(0,x0),(7,x7)]) h =
(lenO x7).bind fun t26 =>
(castI .i64 t26).bind fun n27 =>
(lenO x0).bind fun t28 =>
(castI .i64 t28).bind fun n29 =>
bif decide (n27 < n29) then (
(bSV Try.prog 43 1 [(0,(.p (.int .i64 (-1))))]).bind fun t30 =>
(apO true 1 8 (2::1::0::σ) 54 h x7 t30).bind fun q31 =>
loop zr18_Best_c1 zr18_Best_l1 (1::σ) (envL [(0,x0),(7,q31.1)]) q31.2)
else (
some ((.exit 2),(envL [(7,x7)]),h)):=by kernel_rfl
theorem zr18_Best_a1_2 (x7 : V) (h : H) : zr18_Best_k1 rec loop σ (.exit 2) (envL [(7,x7)]) h =
fin false σ h [x7]:=by kernel_rfl
def zr18_few_c0 : Code:=(codeAt (bodyOf Try.f78) [1,1,1,0,1,0,0])
def zr18_few_l0 : Lv:=⟨14,4,[(0,14)]⟩
def zr18_few_k0 : KT7:=(kBlock 0 (kSeq G rec loop (codeAt (bodyOf Try.f78) [1,1,1,1]) ⟨4,4,[]⟩ (1::1::1::0::σ) (finC G false Try.f78 (1::σ))))
theorem zr18_few_entry (x0 : V) (h : H) : cvBody G rec loop 78 σ [x0] h =
(boxO false (0::0::0::σ) 1 (List.replicate 34 []::h) x0).bind fun q1 =>
(some (alO [.p (.int .i64 0),.p (.slice none 0 0),.p (.slice none 0 0)] (1::0::0::σ) 2 q1.2)).bind fun q2 =>
(fA q1.1 1).bind fun t3 =>
(ldO false 1 q2.2 t3).bind fun t4 =>
(fA q1.1 1).bind fun t5 =>
(ldO false 1 q2.2 t5).bind fun t6 =>
(lenO t6).bind fun t7 =>
(castI .i64 t7).bind fun n8 =>
(slS 1 t4 none (some ((if 4 < n8 then 4 else n8))) none).bind fun t9 =>
(fA q1.1 1).bind fun t10 =>
((stO true 1 (8::0::1::0::σ) q2.2 t10 t9).map fun h => (udf,h)).bind fun q11 =>
(fA q1.1 2).bind fun t12 =>
(ldO false 1 q11.2 t12).bind fun t13 =>
(lenO t13).bind fun t14 =>
(castI .i64 t14).bind fun n15 =>
(loop zr18_few_c0 zr18_few_l0 (1::0::1::1::1::0::σ) (envL [(1,q1.1),(2,q2.1),(3,(.p (.slice .none 0 0))),(15,t13),(16,(.p (.int .i64 n15))),(17,(.p (.int .i64 0)))]) q11.2).bind fun r16 => zr18_few_k0 rec loop σ r16.1 r16.2.1 r16.2.2:=by kernel_rfl
theorem zr18_few_r0 (x1 : V) (x2 : V) (x3 : V) (x15 : V) (x16 : Int) (x17 : Int) (h : H) : cvRound G rec loop zr18_few_c0 zr18_few_l0 σ (envL [(1,x1),(2,x2),(3,x3),(15,x15),(16,(.p (.int .i64 x16))),(17,(.p (.int .i64 x17)))]) h =
bif decide (x17 < x16) then (
(iS 1 x15 x17).bind fun t17 =>
(ldO false 1 h t17).bind fun t18 =>
(castI .i64 t18).bind fun n19 =>
bif decide (x17 < 4) then (
(bSV Try.prog 43 1 [(0,(.p (.int .i64 ((if 0 > ((if 1073741824 < n19 then 1073741824 else n19)) then 0 else ((if 1073741824 < n19 then 1073741824 else n19)))))))]).bind fun t20 =>
(apO true 1 8 (5::1::1::0::1::1::0::σ) 29 h x3 t20).bind fun q21 =>
loop zr18_few_c0 zr18_few_l0 (1::σ) (envL [(1,x1),(2,x2),(3,q21.1),(15,x15),(16,(.p (.int .i64 x16))),(17,(.p (.int .i64 (IntKind.wrap .i64 (x17 + 1)))))]) q21.2)
else (
loop zr18_few_c0 zr18_few_l0 (1::σ) (envL [(1,x1),(2,x2),(3,x3),(15,x15),(16,(.p (.int .i64 x16))),(17,(.p (.int .i64 (IntKind.wrap .i64 (x17 + 1)))))]) h))
else (
some ((.exit 0),(envL [(1,x1),(2,x2),(3,x3)]),h)):=by kernel_rfl
theorem zr18_few_a0_0 (x1 : V) (x2 : V) (x3 : V) (h : H) : zr18_few_k0 rec loop σ (.exit 0) (envL [(1,x1),(2,x2),(3,x3)]) h =
(fA x1 2).bind fun t22 =>
((stO true 1 (2::0::1::1::1::1::0::σ) h t22 x3).map fun h => (udf,h)).bind fun q23 =>
(ldO true 3 q23.2 x1).bind fun t24 =>
((stO false 3 (1::0::1::1::1::1::1::0::σ) q23.2 x2 t24).map fun h => (udf,h)).bind fun q25 =>
((ldO true 3 q25.2 x2).bind fun t26 => (some []).map (t26::·)).bind fun t27 => fin false σ q25.2 t27:=by kernel_rfl
end
end Go.Ev
namespace Go.Ev
open Go.Proofs
set_option linter.unusedVariables false
set_option linter.unusedSimpArgs false
set_option maxRecDepth 100000
section
variable {β α : Type} {Q : β→α→Prop} {K : Exit × Env × H→Option α}
def p_zr18_few_l0 {β : Type} (k : Nat) (kE0 : (List Int)→TaiChoice→TaiChoice→Option β) (x3 : (List Int)) (x15 : (List Int)) (x16 : Int) (x17 : Int) (yg8 : TaiChoice) (yg12 : TaiChoice) : Option β:=match k with
| 0 => none
| k + 1 =>
bif decide (x17 < x16) then (
(ix x15 x17).bind fun a43 =>
bif decide (x17 < 4) then (
(ap 8 x3 ([((if 0 > ((if 1073741824 < a43 then 1073741824 else a43)) then 0 else ((if 1073741824 < a43 then 1073741824 else a43))))])).bind fun a48 =>
p_zr18_few_l0 k kE0 a48 x15 x16 (IntKind.wrap .i64 (x17 + 1)) yg8 yg12)
else (
p_zr18_few_l0 k kE0 x3 x15 x16 (IntKind.wrap .i64 (x17 + 1)) yg8 yg12))
else (
kE0 x3 yg8 yg12)
def p_zr18_few (k : Nat) (x0 : TaiChoice) : Option (TaiChoice) :=
(sub x0.Costs 0 ((if 4 < ((x0.Costs.length : Int)) then 4 else ((x0.Costs.length : Int))))).bind fun a13 =>
p_zr18_few_l0 k (fun r76_3 yg29 yg33 =>
some (((⟨yg29.Class,yg29.Costs,r76_3⟩ : TaiChoice)))) (([] : List Int)) x0.Goods ((x0.Goods.length : Int)) 0 ((⟨x0.Class,a13,x0.Goods⟩ : TaiChoice)) ((⟨0,(([] : List Int)),(([] : List Int))⟩ : TaiChoice))
theorem zr18_few_l0_ok {h : H}  {kE0 : (List Int)→TaiChoice→TaiChoice→Option β} (hE0 : ∀ (q3 : (List Int)) (yg29 : TaiChoice) (yg33 : TaiChoice) (v56 : V) (w58 : List V) (h59 : dTaiChoice.R yg29 w58) (s60 : Stamp) (w62 : List V) (h63 : dTaiChoice.R yg33 w62) (s64 : Stamp) (H54 : Go.Ev.H) (_ : Fm 34 h [] [(1,s60,List.map C.v w58),(2,s64,List.map C.v w62)] [⟨[29],v56,(dI .i64),q3⟩] H54),Sim (kE0 q3 yg29 yg33) (K ((.exit 0),(envL [(1,(.ref ⟨h.length,1,0,s60,[]⟩ 0)),(2,(.ref ⟨h.length,2,0,s64,[]⟩ 0)),(3,v56)]),H54)) Q) (k : Nat) : ∀ (x3 : (List Int)) (x15 : (List Int)) (x16 : Int) (x17 : Int) (yg8 : TaiChoice) (yg12 : TaiChoice) (v22 : V) (v24 : V) (h25 : SlF (dI .i64) x15 v24) (w26 : List V) (h27 : dTaiChoice.R yg8 w26) (s28 : Stamp) (w30 : List V) (h31 : dTaiChoice.R yg12 w30) (s32 : Stamp) (H20 : Go.Ev.H) (_ : Fm 34 h [] [(1,s28,List.map C.v w26),(2,s32,List.map C.v w30)] [⟨[29],v22,(dI .i64),x3⟩] H20) {σ : Stamp},Sim (p_zr18_few_l0 k kE0 x3 x15 x16 x17 yg8 yg12) ((cvL G X0 zr18_few_c0 zr18_few_l0 σ (envL [(1,(.ref ⟨h.length,1,0,s28,[]⟩ 0)),(2,(.ref ⟨h.length,2,0,s32,[]⟩ 0)),(3,v22),(15,v24),(16,(.p (.int .i64 x16))),(17,(.p (.int .i64 x17)))]) H20).bind K) Q:=by
 induction k with
 | zero => intros; exact .no
 | succ k ih =>
  intro x3 x15 x16 x17 yg8 yg12 v22 v24 h25 w26 h27 s28 w30 h31 s32 H20 S21 σ
  rw [p_zr18_few_l0]
  refine .round (Sim.ext (zr18_few_r0 _ _ _ _ _ _ _ _ _ _) ?_)
  obtain ⟨v34,v36,rfl,h35,h37⟩:=dTaiChoice.inv h27
  obtain ⟨v38,v40,rfl,h39,h41⟩:=dTaiChoice.inv h31
  refine .cq ?_ ?_
  ·refine .bd fun a43 h44 => ?_
   refine .op ((h25.h H20).iS h44 rfl) ?_
   obtain ⟨_,rfl,hE45⟩:=(h25.h H20).el h44 rfl
   refine .op (hE45.ld (j:=0) rfl) ?_
   refine .ci ?_
   refine .cq ?_ ?_
   ·have h47:=SlF.int1 .i64 ((if 0 > ((if 1073741824 < a43 then 1073741824 else a43)) then 0 else ((if 1073741824 < a43 then 1073741824 else a43))))
    refine .op (bldS (pC rfl pN) (by kernel_rfl : _ = some (vOf h47))) ?_
    refine .bd fun a48 h49 => ?_
    obtain ⟨v50,H51,e52,S53⟩:=S21.app (i:=0) (d:=29) (e:=1) (own:=true) (σ:=(5::1::1::0::1::1::0::σ)) rfl (h47.h H20).y h49 rfl (by decide) (by decide) rfl
    refine .op (e52) ?_
    exact ih a48 x15 x16 (IntKind.wrap .i64 (x17 + 1)) yg8 yg12 v50 v24 h25 _ h27 s28 _ h31 s32 H51 (S53.wk2 (aC (aM 0 rfl) (aC (aM 1 rfl) aN)) (aC ⟨[29,29],by simp,aM 0 rfl⟩ aN))
   exact ih x3 x15 x16 (IntKind.wrap .i64 (x17 + 1)) yg8 yg12 v22 v24 h25 _ h27 s28 _ h31 s32 H20 (S21.wk2 (aC (aM 0 rfl) (aC (aM 1 rfl) aN)) (aC ⟨[29],by simp,aM 0 rfl⟩ aN))
  exact hE0 x3 yg8 yg12 v22 _ h27 s28 _ h31 s32 H20 (S21.wk2 (aC (aM 0 rfl) (aC (aM 1 rfl) aN)) (aC ⟨[29],by simp,aM 0 rfl⟩ aN))
theorem zr18_few_ok (k : Nat) {h : H} {σ : Stamp} (x0 : TaiChoice) {u0 : List V} (hu0 : dTaiChoice.R x0 u0) : Sim (p_zr18_few k x0) (ev G X0 78 σ [(.agg u0)] h) (fun r s => ∃ (w0 : List V),dTaiChoice.R r w0∧s = ([.v (.agg w0)],h)):=by
 refine .ev rfl (Sim.ext (zr18_few_entry _ _ _ _ _) ?_)
 rw [p_zr18_few]
 obtain ⟨v1,v3,rfl,h2,h4⟩:=dTaiChoice.inv hu0
 have S0 : Fm 34 h [] [] [] (List.replicate 34 []::h):=Fm.start0
 obtain ⟨H5,e6,S7⟩:=S0.box (own:=false) (d:=1) (s:=(0::0::0::σ)) (xs:=[(.p (.int .i64 x0.Class)),v1,v3]) (sC (sI _ _) (sC h2.still (sC h4.still sN))) (by decide) rfl
 refine .op (e6) ?_
 obtain ⟨H9,e10,S11⟩:=S7.al (d:=2) (s:=(1::0::0::σ)) (z:=[(.p (.int .i64 0)),(.p (.slice none 0 0)),(.p (.slice none 0 0))]) (by decide) rfl
 refine .op (congrArg some e10) ?_
 refine .fa ?_
 refine .op ((S11.atG (i:=1) rfl).ld (j:=1) rfl) ?_
 refine .fa ?_
 refine .op ((S11.atG (i:=1) rfl).ld (j:=1) rfl) ?_
 refine .op ((h2.h H9).len) ?_
 refine .ci ?_
 refine .bd fun a13 h14 => ?_
 refine .op ((h2.h H9).slS h14 rfl rfl rfl) ?_
 refine .fa ?_
 obtain ⟨H15,e16,S17⟩:=S11.stG (i:=1) (j:=1) (own:=true) (σ:=(8::0::1::0::σ)) (x:=(subV 1 v1 (Int.toNat (0)) (Int.toNat ((if 4 < ((x0.Costs.length : Int)) then 4 else ((x0.Costs.length : Int))))))) rfl rfl (h2.sub h14 (e:=1) rfl).still rfl
 refine .op (sM e16) ?_
 refine .fa ?_
 refine .op ((S17.atG (i:=1) rfl).ld (j:=2) rfl) ?_
 refine .op ((h4.h H15).len) ?_
 refine .ci ?_
 have S75:=S17.nil (dI .i64) []
 refine .as (zr18_few_l0_ok ?_ k (([] : List Int)) x0.Goods ((x0.Goods.length : Int)) 0 ((⟨x0.Class,a13,x0.Goods⟩ : TaiChoice)) ((⟨0,(([] : List Int)),(([] : List Int))⟩ : TaiChoice)) (.p (.slice none 0 0)) v3 h4 _ (dTaiChoice.mk (h2.sub h14 (e:=1) rfl) h4) (0::0::0::σ) _ (dTaiChoice.mk (SlF.nil (dI .i64)) (SlF.nil (dI .i64))) (1::0::0::σ) H15 (S75.wk2 (aC (aM 1 rfl) (aC (aM 0 rfl) aN)) (aC ⟨[],by simp,aM 0 rfl⟩ aN)))
 ·intro r76_3 yg29 yg33 v79 w81 h82 s83 w85 h86 s87 H77 S78
  refine .ext (zr18_few_a0_0 _ _ _ _ _ _ _) ?_
  obtain ⟨v89,v91,rfl,h90,h92⟩:=dTaiChoice.inv h82
  obtain ⟨v93,v95,rfl,h94,h96⟩:=dTaiChoice.inv h86
  refine .fa ?_
  obtain ⟨c100,H97,e98,h101,h102,S99⟩:=S78.mvG (i:=0) (j:=2) (k:=0) (σ:=(2::0::1::1::1::1::0::σ)) rfl rfl rfl rfl rfl rfl
  refine .op (sM e98) ?_
  obtain ⟨v103,h104,h105⟩:=h101.fr
  obtain ⟨w106,H107,h112,e108,e109,e110,S111⟩:=S99.frzV (i:=0) (n:=3) (ys:=[(.p (.int .i64 yg29.Class)),v89,v103]) rfl rfl ⟨(FrC.v (sI _ _)),⟨(FrC.v h90.still),⟨h104,trivial⟩⟩⟩ rfl (by decide)
  refine .op (e108) ?_
  obtain ⟨H113,e114,S115⟩:=Fm.stFrz (S0:=S99) (i0:=1) (i:=1) (j:=0) (n:=3) (σ:=(1::0::1::1::1::1::1::0::σ)) S111 rfl e110 rfl rfl h112 rfl rfl
  refine .op (sM e114) ?_
  have e116 : ldO true 3 H113 (.ref ⟨h.length,2,0,s87,[]⟩ 0) = some (.agg [.p (.int .i64 yg29.Class),v89,v103]):=(S115.atG (i:=1) rfl).ldVs (j:=0) rfl rfl (by decide)
  refine .op (congrArg (Option.bind · _) e116) ?_
  exact .fin (S115.finN (lC (Stills.lv (dTaiChoice.still (dTaiChoice.mk h90 h105))) lN)) ⟨_,(dTaiChoice.mk h90 h105),rfl⟩
end
end Go.Ev
namespace Go.Ev
open Go.Proofs
set_option linter.unusedVariables false
set_option linter.unusedSimpArgs false
set_option maxRecDepth 100000
noncomputable section
abbrev KT8:=Exit→Env→H→Option (List C × H)
variable (rec : CallF) (loop : LoopV) (σ : Stamp)
def zr18_search_try_c0 : Code:=(codeAt (bodyOf Try.f79) [1,1,1,1,1,1,1,0,0])
def zr18_search_try_l0 : Lv:=⟨0,0,[(0,0)]⟩
def zr18_search_try_k0 (rec : CallF) (loop : LoopV) (σ : Stamp) : KT8:=(kBlock 0 (finC G false Try.f79 (1::σ)))
theorem zr18_search_try_entry (x0 : V) (x1 : V) (x2 : V) (x3 : Int) (h : H) : cvBody G rec loop 79 σ [x0,x1,x2,(.p (.int .i64 x3))] h =
(boxO false (0::0::0::σ) 6 (List.replicate 152 []::h) x2).bind fun q1 =>
(lenO x1).bind fun t2 =>
(castI .i64 t2).bind fun n3 =>
(nilChk x0).bind fun t4 =>
(fA t4 0).bind fun t5 =>
(ldO false 1 q1.2 t5).bind fun t6 =>
(lenO t6).bind fun t7 =>
(castI .i64 t7).bind fun n8 =>
bif n3 == n8 then (
(nilChk x0).bind fun t9 =>
(fA t9 2).bind fun t10 =>
(ldO false 1 q1.2 t10).bind fun t11 =>
(binV Try.prog q1.2 .eql 43 t11 (.p (.slice .none 0 0))).bind fun t12 =>
(asB t12).bind fun b13 =>
(bif b13 then (some ((.p (.bool true)),q1.2)) else ((ldO true 4 q1.2 q1.1).bind fun t14 =>
(nilChk x0).bind fun t15 =>
(fA t15 3).bind fun t16 =>
(ldO true 4 q1.2 t16).bind fun t17 =>
(callO rec 127 (11::0::0::1::0::1::1::0::σ) [t14,t17] q1.2 (some 33)).bind fun q18 =>
(asB q18.1).bind fun b19 =>
some ((.p (.bool b19)),q18.2))).bind fun q20 =>
(asB q20.1).bind fun b21 =>
(bif b21 then (some ((.p (.bool true)),q20.2)) else ((nilChk x0).bind fun t22 =>
(fA t22 3).bind fun t23 =>
(ldO true 4 q20.2 t23).bind fun t24 =>
(ldO true 4 q20.2 q1.1).bind fun t25 =>
(callO rec 127 (19::0::0::1::0::1::1::0::σ) [t24,t25] q20.2 (some 41)).bind fun q26 =>
(asB q26.1).bind fun b27 =>
(bif !b27 then ((nilChk x0).bind fun t28 =>
(fA t28 7).bind fun t29 =>
(ldO false 1 q26.2 t29).bind fun t30 =>
(castI .i64 t30).bind fun n31 =>
(bif decide (x3 < n31) then (some ((.p (.bool true)),q26.2)) else ((nilChk x0).bind fun t32 =>
(fA t32 7).bind fun t33 =>
(ldO false 1 q26.2 t33).bind fun t34 =>
(castI .i64 t34).bind fun n35 =>
(bif x3 == n35 then ((nilChk x0).bind fun t36 =>
(fA t36 2).bind fun t37 =>
(ldO false 1 q26.2 t37).bind fun t38 =>
(callO rec 128 (41::0::0::1::0::1::1::0::σ) [x1,t38] q26.2 (some 63)).bind fun q39 =>
(asB q39.1).bind fun b40 =>
some ((.p (.bool b40)),q39.2)) else (some ((.p (.bool false)),q26.2))).bind fun q41 =>
(asB q41.1).bind fun b42 =>
some ((.p (.bool b42)),q41.2))).bind fun q43 =>
(asB q43.1).bind fun b44 =>
some ((.p (.bool b44)),q43.2)) else (some ((.p (.bool false)),q26.2))).bind fun q45 =>
(asB q45.1).bind fun b46 =>
some ((.p (.bool b46)),q45.2))).bind fun q47 =>
(asB q47.1).bind fun b48 =>
bif b48 then (
(bSV Try.prog 43 0 []).bind fun t49 =>
(ldO true 4 q47.2 q1.1).bind fun t50 =>
(apO true 1 8 (5::1::0::1::0::1::1::0::σ) 73 q47.2 t49 x1).bind fun q51 =>
need (ldO true 4 q51.2 q1.1 = some t50) (
(nilChk x0).bind fun t52 =>
(fA t52 2).bind fun t53 =>
((stO true 1 (10::1::0::1::0::1::1::0::σ) q51.2 t53 q51.1).map fun h => (udf,h)).bind fun q54 =>
need (ldO true 4 q54.2 q1.1 = some t50) (
(nilChk x0).bind fun t55 =>
(fA t55 3).bind fun t56 =>
((stO false 4 (13::1::0::1::0::1::1::0::σ) q54.2 t56 t50).map fun h => (udf,h)).bind fun q57 =>
(nilChk x0).bind fun t58 =>
(fA t58 7).bind fun t59 =>
((stO true 1 (16::1::0::1::0::1::1::0::σ) q57.2 t59 (.p (.int .i64 x3))).map fun h => (udf,h)).bind fun q60 =>
fin false σ q60.2 [])))
else (
fin false σ q47.2 []))
else (
(nilChk x0).bind fun t61 =>
(fA t61 0).bind fun t62 =>
(ldO false 1 q1.2 t62).bind fun t63 =>
(iS 3 t63 n3).bind fun t64 =>
(ldO true 3 q1.2 t64).bind fun t65 =>
(some (alO [.p (.int .i64 0),.p (.slice none 0 0),.p (.slice none 0 0)] (7::0::1::1::1::0::σ) 9 q1.2)).bind fun q66 =>
((stO false 3 (8::0::1::1::1::0::σ) q66.2 q66.1 t65).map fun h => (udf,h)).bind fun q67 =>
(bSV Try.prog 43 0 []).bind fun t68 =>
(apO true 1 8 (2::0::1::1::1::1::0::σ) 91 q67.2 t68 x1).bind fun q69 =>
(bSV Try.prog 43 1 [(0,(.p (.int .i64 (-1))))]).bind fun t70 =>
(apO true 1 8 (4::0::1::1::1::1::0::σ) 93 q69.2 q69.1 t70).bind fun q71 =>
(ldO true 4 q71.2 q1.1).bind fun t72 =>
(callO rec 79 (4::0::1::1::1::1::1::0::σ) [x0,q71.1,t72,(.p (.int .i64 x3))] q71.2 (some 98)).bind fun q73 =>
(fA q66.1 1).bind fun t74 =>
(ldO false 1 q73.2 t74).bind fun t75 =>
(lenO t75).bind fun t76 =>
(castI .i64 t76).bind fun n77 =>
(loop zr18_search_try_c0 zr18_search_try_l0 (1::1::1::1::1::1::1::0::σ) (envL [(0,x0),(3,(.p (.int .i64 x3))),(6,q1.1),(8,(.p (.int .i64 n3))),(9,q66.1),(10,q71.1),(101,(.p (.int .i64 n77))),(102,(.p (.int .i64 0)))]) q73.2).bind fun r78 => zr18_search_try_k0 rec loop σ r78.1 r78.2.1 r78.2.2):=by kernel_rfl
theorem zr18_search_try_r0 (x0 : V) (x3 : Int) (x6 : V) (x8 : Int) (x9 : V) (x10 : V) (x101 : Int) (x102 : Int) (h : H) : cvRound G rec loop zr18_search_try_c0 zr18_search_try_l0 σ (envL [(0,x0),(3,(.p (.int .i64 x3))),(6,x6),(8,(.p (.int .i64 x8))),(9,x9),(10,x10),(101,(.p (.int .i64 x101))),(102,(.p (.int .i64 x102)))]) h =
bif decide (x102 < x101) then (
(ldO true 3 h x9).bind fun t79 =>
(callO rec 80 (2::0::1::0::1::1::0::σ) [t79,(.p (.int .i64 x102))] h (some 107)).bind fun q80 =>
(asB q80.1).bind fun b81 =>
(bif b81 then ((fA x9 1).bind fun t82 =>
(ldO false 1 q80.2 t82).bind fun t83 =>
(iS 1 t83 x102).bind fun t84 =>
(ldO false 1 q80.2 t84).bind fun t85 =>
(castI .i64 t85).bind fun n86 =>
(nilChk x0).bind fun t87 =>
(fA t87 1).bind fun t88 =>
(ldO false 1 q80.2 t88).bind fun t89 =>
(castI .i64 t89).bind fun n90 =>
some (decide (n86 ≤ (IntKind.wrap .i64 (n90 - x3))))) else (some false)).bind fun b91 =>
bif b91 then (
(ldO true 4 q80.2 x6).bind fun t92 =>
(some (alO [.p (.int .i64 0),.p (.int .i64 0),.p (.int .i64 0),.p (.int .i64 0)] (1::0::1::1::0::1::1::0::σ) 12 q80.2)).bind fun q93 =>
((stO false 4 (2::0::1::1::0::1::1::0::σ) q93.2 q93.1 t92).map fun h => (udf,h)).bind fun q94 =>
(fA x9 0).bind fun t95 =>
(ldO false 1 q94.2 t95).bind fun t96 =>
(castI .i64 t96).bind fun n97 =>
(fA x9 0).bind fun t98 =>
(ldO false 1 q94.2 t98).bind fun t99 =>
(castI .i64 t99).bind fun n100 =>
(iA 4 1 q93.1 n100).bind fun t101 =>
(ldO false 1 q94.2 t101).bind fun t102 =>
(castI .i64 t102).bind fun n103 =>
(fA x9 2).bind fun t104 =>
(ldO false 1 q94.2 t104).bind fun t105 =>
(iS 1 t105 x102).bind fun t106 =>
(ldO false 1 q94.2 t106).bind fun t107 =>
(castI .i64 t107).bind fun n108 =>
(iA 4 1 q93.1 n97).bind fun t109 =>
((stO true 1 (13::0::1::1::1::0::1::1::0::σ) q94.2 t109 (.p (.int .i64 (IntKind.wrap .i64 (n103 + n108))))).map fun h => (udf,h)).bind fun q110 =>
(iS 1 x10 x8).bind fun t111 =>
((stO true 1 (4::0::1::1::1::1::0::1::1::0::σ) q110.2 t111 (.p (.int .i64 x102))).map fun h => (udf,h)).bind fun q112 =>
(ldO true 4 q112.2 q93.1).bind fun t113 =>
(fA x9 1).bind fun t114 =>
(ldO false 1 q112.2 t114).bind fun t115 =>
(iS 1 t115 x102).bind fun t116 =>
(ldO false 1 q112.2 t116).bind fun t117 =>
(castI .i64 t117).bind fun n118 =>
(callO rec 79 (10::1::1::1::1::1::0::1::1::0::σ) [x0,x10,t113,(.p (.int .i64 (IntKind.wrap .i64 (x3 + n118))))] q112.2 (some 150)).bind fun q119 =>
loop zr18_search_try_c0 zr18_search_try_l0 (1::σ) (envL [(0,x0),(3,(.p (.int .i64 x3))),(6,x6),(8,(.p (.int .i64 x8))),(9,x9),(10,x10),(101,(.p (.int .i64 x101))),(102,(.p (.int .i64 (IntKind.wrap .i64 (x102 + 1)))))]) q119.2)
else (
loop zr18_search_try_c0 zr18_search_try_l0 (1::σ) (envL [(0,x0),(3,(.p (.int .i64 x3))),(6,x6),(8,(.p (.int .i64 x8))),(9,x9),(10,x10),(101,(.p (.int .i64 x101))),(102,(.p (.int .i64 (IntKind.wrap .i64 (x102 + 1)))))]) q80.2))
else (
some ((.exit 0),(envL []),h)):=by kernel_rfl
theorem zr18_search_try_a0_0  (h : H) : zr18_search_try_k0 rec loop σ (.exit 0) (envL []) h =
fin false σ h []:=by kernel_rfl
end
end Go.Ev
