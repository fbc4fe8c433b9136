/- A part of the proof that follows: bytes of any kind (up to the kit bound on bulk) that ctl.Read takes are a right message and are written back as the same bytes -/
import Derived.Test.YtigkdihkmihmmaaMCtlReads1
import Derived.Laws.RangeAny
import Derived.Laws.Runes
import Derived.Test.YtigkdihkmihmmaaRows
import Derived.ProofKit
import Derived.Tactics
import Derived.Tactics2
import Derived.StillTactics
import Derived.LoopTactic
import Derived.WalkKit
import Derived.Laws.Concat
import Derived.Laws.Strings
import Derived.Laws.Cover4
import Derived.OwnWalk
import Derived.Laws.AppendOwn
import Derived.KernelRfl
namespace Go.Ev
set_option linter.unusedVariables false
set_option linter.unusedSimpArgs false
section
variable {h : H} {l : Loc} {off j : Nat} {cs : List C}
theorem AtC.rng (ha : AtC h l off cs) {n : Nat} (hj : j + n ≤ cs.length) : ∃ all,nd h l = some all∧Go.Ev.rng all (off + j) n = some ((cs.drop j).take n):=by
 obtain ⟨p,q,hn,hp⟩:=ha
 refine ⟨_,hn,?_⟩
 unfold Go.Ev.rng
 rw [if_pos (by simp; omega)]
 congr 1
 rw [← List.drop_drop,List.append_assoc,← hp,List.drop_left,List.drop_append_of_le_length (by omega),List.take_append_of_le_length (by rw [List.length_drop]; omega)]
theorem AtC.ldAgg (ha : AtC h l off cs) {n : Nat} {agg : Bool} {xs : List V} (hj : j + n ≤ cs.length) (hx : toVs l (off + j) ((cs.drop j).take n) = some xs) : ldO agg n h (.ref l (off + j)) = mkV agg xs:=by
 obtain ⟨all,h1,h2⟩:=ha.rng hj
 simp only [ldO,h1,h2,Option.bind_some,hx]
theorem drop_one {α : Type} {cs : List α} {j : Nat} {c : α} (hj : cs[j]? = some c) : (cs.drop j).take 1 = [c]:=by
 obtain ⟨hlt,he⟩:=List.getElem?_eq_some_iff.1 hj
 rw [List.drop_eq_getElem_cons hlt,he]; rfl
theorem AtC.ldC (ha : AtC h l off cs) {c : C} {x : V} (hj : cs[j]? = some c) (hx : toV l (off + j) c = some x) : ldO false 1 h (.ref l (off + j)) = some x:=by
 have hlt:=(List.getElem?_eq_some_iff.1 hj).1
 rw [ha.ldAgg (xs:=[x]) (by omega) (by rw [drop_one hj]; simp [toVs,hx])]
 rfl
theorem AtC.ld (ha : AtC h l off cs) {x : V} (hj : cs[j]? = some (.v x)) : ldO false 1 h (.ref l (off + j)) = some x:=ha.ldC hj rfl
theorem AtC.ldVs (ha : AtC h l off cs) {xs : List V} {n : Nat} (hn : xs.length = n) (hj : (cs.drop j).take n = xs.map .v) (hp : 0 < n) : ldO true n h (.ref l (off + j)) = some (.agg xs):=by
 have : j + n ≤ cs.length:=by
  have:=congrArg List.length hj
  rw [List.length_take,List.length_drop,List.length_map,hn] at this
  omega
 rw [ha.ldAgg (xs:=xs) this (by rw [hj,toVs_plain])]
 rfl
theorem AtC.st (ha : AtC h l off cs) {own : Bool} {σ : Stamp} {x : V} (hx : Still x) (hj : j < cs.length) : stO own 1 σ h (.ref l (off + j)) x = some (ptC h l off (cs.set j (.v x))):=by
 obtain ⟨p,q,hn,hp⟩:=ha
 rw [stO_still hx hn (by simp; omega),ptC_eq hn hp (by simp)]
 congr 2
 rw [List.append_assoc,List.set_append_right _ _ (by omega),List.set_append_left _ _ (by omega),← List.append_assoc]
 congr 3
 omega
theorem AtC.stVs (ha : AtC h l off cs) {own : Bool} {σ : Stamp} {xs : List V} {n : Nat} (hx : Stills xs) (hn : xs.length = n) (hj : j + n ≤ cs.length) : stO own n σ h (.ref l (off + j)) (.agg xs) = some (ptC h l off (cs.take j ++ xs.map .v ++ cs.drop (j + n))):=by
 subst hn
 obtain ⟨p,q,hn,hp⟩:=ha
 rw [stO_agg hx hn (by simp; omega),ptC_eq hn hp (by simp; omega)]
 congr 2
 rw [List.append_assoc p,List.take_append,List.take_of_length_le (l:=p) (by omega),List.drop_append,List.drop_of_length_le (l:=p) (by omega),List.nil_append,hp,Nat.add_sub_cancel_left,Nat.add_assoc,Nat.add_sub_cancel_left,List.take_append_of_le_length (by omega),List.drop_append_of_le_length (by omega)]
 simp
theorem AtC.hop (ha : AtC h l off cs) {c : C} {s : Stamp} {ds : List C} (hj : cs[j]? = some c) (hd : c.node s = some ds) : AtC h (l.hop (off + j) s) 0 ds:=by
 obtain ⟨p,q,hn,hp⟩:=ha
 have hlt:=(List.getElem?_eq_some_iff.1 hj).1
 refine ⟨[],[],?_,rfl⟩
 rw [nd_in hn (c:=c) (ds:=ds) _ hd]
 ·simp
 ·rw [List.append_assoc,List.getElem?_append_right (by omega),show off + j - p.length = j by omega,List.getElem?_append_left hlt,hj]
end

section
variable {α : Type} {h : H} {d : Dt α} {xs : List α} {v : V}
structure El (h : H) (v : V) (o : Nat) (ws : List V) : Prop where
 ld : ∀ {j y},ws[j]? = some y→ldO false 1 h (adr v (o + j)) = some y
 fa : ∀ {j},j ≤ ws.length→fA (adr v o) j = some (adr v (o + j))
 all : 0 < ws.length→ldO true ws.length h (adr v o) = some (.agg ws)
 ldn : ∀ {j n},0 < n→j + n ≤ ws.length→ldO true n h (adr v (o + j)) = some (.agg ((ws.drop j).take n))
theorem SlH.len (hv : SlH h d xs v) : lenO v = some (.p (.int .i64 xs.length)):=by obtain ⟨cs,h1,h2⟩:=hv; exact h1.lenO
theorem SlH.iS (hv : SlH h d xs v) {i : Int} {x : α} (hx : ix xs i = some x) {e : Nat} (he : d.sz = e) : Go.Ev.iS e v i = some (adr v (i.toNat * e)):=by
 subst he
 obtain ⟨cs,h1,h2⟩:=hv
 obtain ⟨h0,hi,_⟩:=ix_some hx
 exact h1.iS h0 (by omega)
theorem SlH.el (hv : SlH h d xs v) {i : Int} {x : α} (hx : ix xs i = some x) {e : Nat} (he : d.sz = e) : ∃ ws,d.R x ws∧El h v (i.toNat * e) ws:=by
 subst he
 obtain ⟨cs,h1,h2⟩:=hv
 obtain ⟨h0,hi,rfl⟩:=ix_some hx
 obtain ⟨ws,hR,hw⟩:=RL.get (fun h => d.len h) h2 hi
 have hl:=d.len hR
 have hc:=h1.clen
 have hle : i.toNat * d.sz + d.sz ≤ cs.length:=by
  have:=Nat.mul_le_mul_right d.sz (Nat.succ_le_of_lt hi)
  rw [Nat.succ_mul] at this; omega
 refine ⟨ws,hR,⟨fun {j y} hj => ?_,fun {j} hj => ?_,fun hp => ?_,fun {j n} hp hj => ?_⟩⟩
 ·have hjl:=(List.getElem?_eq_some_iff.1 hj).1
  refine h1.ld1 ?_
  rw [← hw,List.getElem?_take_of_lt (by omega),List.getElem?_drop] at hj
  exact hj
 ·by_cases hz : d.sz = 0
  ·have : j = 0:=by omega
   subst this
   rcases h1.cases with ⟨rfl,h3,rfl⟩ | ⟨t,rfl⟩ | ⟨l,off,av,ds,rfl,hn,hl,hv,hav⟩
   ·omega
   ·simp [adr,fA]
   ·simp [adr,fA]
  ·exact h1.fA (Nat.mul_pos (by omega) (by omega)) (by omega)
 ·rw [hl] at hp ⊢
  rw [h1.ld hle hp,hw]; rfl
 ·rw [h1.ld (by omega) hp,← hw,List.drop_take,List.take_take,Nat.min_eq_left (by omega),List.drop_drop]; rfl
theorem SlH.sub (hv : SlH h d xs v) {a b : Int} {ys : List α} (hs : Ev.sub xs a b = some ys) {e : Nat} (he : d.sz = e) : SlH h d ys (subV e v a.toNat b.toNat):=by
 subst he
 obtain ⟨cs,h1,h2⟩:=hv
 obtain ⟨⟨q0,q1,q2⟩,rfl⟩:=sub_some hs
 have e1 : (b - a).toNat = b.toNat - a.toNat:=by omega
 refine ⟨_,?_,(RL.take (fun h => d.len h) (b - a).toNat (RL.drop (fun h => d.len h) a.toNat h2))⟩
 rw [e1]
 have:=h1.sub (a:=a.toNat) (b:=b.toNat) (by omega) (by omega)
 rwa [List.length_take,List.length_drop,Nat.min_eq_left (by omega)]
theorem SlF.sub (hv : SlF d xs v) {a b : Int} {ys : List α} (hs : Ev.sub xs a b = some ys) {e : Nat} (he : d.sz = e) : SlF d ys (subV e v a.toNat b.toNat):=by
 subst he
 obtain ⟨cs,h1,h2⟩:=hv
 obtain ⟨⟨q0,q1,q2⟩,rfl⟩:=sub_some hs
 have e1 : (b - a).toNat = b.toNat - a.toNat:=by omega
 refine ⟨_,?_,(RL.take (fun h => d.len h) (b - a).toNat (RL.drop (fun h => d.len h) a.toNat h2))⟩
 rw [e1]
 intro h
 have:=(h1 h).sub (a:=a.toNat) (b:=b.toNat) (by omega) (by omega)
 rwa [List.length_take,List.length_drop,Nat.min_eq_left (by omega)]
theorem SlH.slS (hv : SlH h d xs v) {a b : Int} {ys : List α} (hs : Ev.sub xs a b = some ys) {lo hi : Option Int} (ha : lo.getD 0 = a) (hb : hi.getD xs.length = b) {e : Nat} (he : d.sz = e) : Go.Ev.slS e v lo hi none = some (subV e v a.toNat b.toNat):=by
 subst he
 obtain ⟨cs,h1,h2⟩:=hv
 obtain ⟨⟨q0,q1,q2⟩,rfl⟩:=sub_some hs
 exact h1.slS ha hb q0 q1 q2
theorem SlF.nil (d : Dt α) : SlF d [] (.p (.slice none 0 0)):=⟨[],.nil _,rfl⟩
theorem SlF.lit {cs : List V} {n : Nat} (hl : d.L xs cs) (hn : xs.length = n) {e : Nat} (he : d.sz = e) (t : Bool) : SlF d xs (.fz cs n e t):=by
 subst hn; subst he
 exact ⟨cs,.fz (RL.length (fun h => d.len h) hl) t,hl⟩
end

structure Gw where
 {α : Type}
 D : List Nat
 v : V
 d : Dt α
 xs : List α
def Gw.ok (g : Gw) (L : Layer) (n0 : Nat) : Prop:=∃ cs,g.d.L g.xs cs∧GrowS g.D L n0 g.v g.d.sz g.xs.length cs
def freeG (Γ : List (Nat × Stamp × List C)) (d : Nat) : Bool:=Γ.all fun e => e.1 != d
def freeD (Δ : List Gw) (d : Nat) : Bool:=Δ.all fun g => !g.D.contains d
def freeL (D : List Nat) (Γ : List (Nat × Stamp × List C)) (Δ : List Gw) : Bool:=D.all fun d => freeG Γ d && freeD Δ d
def Fm (N : Nat) (h0 : H) (B : List Rt) (Γ : List (Nat × Stamp × List C)) (Δ : List Gw) (Hp : H) : Prop :=
 ∃ L,Hp = L::pts h0 B∧L.length = N∧BOk h0 B∧(∀ e ∈ Γ,L[e.1]? = some [.own e.2.1 e.2.2])∧(∀ g ∈ Δ,g.ok L h0.length)
section
variable {N : Nat} {h0 Hp : H} {B : List Rt} {Γ Γ' : List (Nat × Stamp × List C)} {Δ Δ' : List Gw}
theorem Fm.start (hB : BOk h0 B) (hs : ∀ r ∈ B,AtC h0 r.l r.off r.cs) : Fm N h0 B [] [] (List.replicate N []::h0) :=
 ⟨List.replicate N [],by rw [BOk.same hs],List.length_replicate,hB,by simp,by simp⟩
theorem Fm.start0 : Fm N h0 [] [] [] (List.replicate N []::h0):=Fm.start trivial (by simp)
theorem Fm.wk (S : Fm N h0 B Γ Δ Hp) (hG : ∀ e ∈ Γ',e ∈ Γ) (hD : ∀ g ∈ Δ',g ∈ Δ) : Fm N h0 B Γ' Δ' Hp:=by
 obtain ⟨L,h1,h2,h3,h4,h5⟩:=S
 exact ⟨L,h1,h2,h3,fun e he => h4 e (hG e he),fun g hg => h5 g (hD g hg)⟩
theorem Fm.len (S : Fm N h0 B Γ Δ Hp) : Hp.length = h0.length + 1:=by
 obtain ⟨L,rfl,_⟩:=S; simp [pts_length]
theorem Fm.nil (S : Fm N h0 B Γ Δ Hp) {α : Type} (d : Dt α) (D : List Nat) : Fm N h0 B Γ (⟨D,.p (.slice none 0 0),d,[]⟩::Δ) Hp:=by
 obtain ⟨L,h1,h2,h3,h4,h5⟩:=S
 refine ⟨L,h1,h2,h3,h4,fun g hg => ?_⟩
 rcases List.mem_cons.1 hg with rfl | hg
 ·exact ⟨[],rfl,.inl ⟨rfl,rfl,.inl rfl⟩⟩
 ·exact h5 g hg
theorem Fm.nil' (S : Fm N h0 B Γ Δ Hp) {α : Type} (d : Dt α) (D : List Nat) {e : Nat} (he : d.sz = e) : Fm N h0 B Γ (⟨D,.fz [] 0 e true,d,[]⟩::Δ) Hp:=by
 subst he
 obtain ⟨L,h1,h2,h3,h4,h5⟩:=S
 refine ⟨L,h1,h2,h3,h4,fun g hg => ?_⟩
 rcases List.mem_cons.1 hg with rfl | hg
 ·exact ⟨[],rfl,.inl ⟨rfl,rfl,.inr rfl⟩⟩
 ·exact h5 g hg
theorem Fm.lit (S : Fm N h0 B Γ Δ Hp) {α : Type} {d : Dt α} {xs : List α} {cs : List V} {n e m : Nat} (hl : d.L xs cs) (he : d.sz = e) (hn : xs.length = n) (hm : 1000000 ≤ m) : Fm N h0 B Γ (⟨[m],.fz cs n e true,d,xs⟩::Δ) Hp:=by
 subst he; subst hn
 obtain ⟨L,h1,h2,h3,h4,h5⟩:=S
 refine ⟨L,h1,h2,h3,h4,fun g hg => ?_⟩
 rcases List.mem_cons.1 hg with rfl | hg
 ·exact ⟨cs,hl,.inr (.inr ⟨rfl,RL.length (fun h => d.len h) hl,RL.stills hl,m,List.mem_singleton.2 rfl,hm⟩)⟩
 ·exact h5 g hg
theorem Fm.sl (S : Fm N h0 B Γ Δ Hp) {i : Nat} {g : Gw} (hi : Δ[i]? = some g) : SlH Hp g.d g.xs g.v:=by
 obtain ⟨L,rfl,h2,h3,h4,h5⟩:=S
 obtain ⟨cs,q1,q2⟩:=h5 g (List.mem_of_getElem? hi)
 rw [← pts_length B] at q2
 exact ⟨cs,q2.sl,q1⟩
theorem Fm.low (S : Fm N h0 [] Γ Δ Hp) {α : Type} {d : Dt α} {xs : List α} {v : V} (hv : SlH h0 d xs v) : SlH Hp d xs v:=by
 obtain ⟨L,rfl,_⟩:=S
 obtain ⟨cs,q1,q2⟩:=hv
 exact ⟨cs,q1.up L,q2⟩
theorem Fm.atG (S : Fm N h0 B Γ Δ Hp) {i d : Nat} {s : Stamp} {cs : List C} (hi : Γ[i]? = some (d,s,cs)) : AtC Hp ⟨h0.length,d,0,s,[]⟩ 0 cs:=by
 obtain ⟨L,rfl,h2,h3,h4,h5⟩:=S
 have:=h4 _ (List.mem_of_getElem? hi)
 refine ⟨[],[],?_,rfl⟩
 rw [← pts_length B,nd_own this]; simp
theorem mem_set.{u} {α : Type u} {xs : List α} {i : Nat} {x y : α} (h : y ∈ xs.set i x) (hi : i < xs.length) : y = x ∨ y ∈ xs.eraseIdx i:=by
 obtain ⟨j,hj⟩:=List.mem_iff_getElem?.1 h
 rw [List.getElem?_set] at hj
 split at hj
 ·rename_i hij; subst hij
  first
   | exact .inl (Option.some.inj hj).symm
   | (rw [if_pos hi] at hj; exact .inl (Option.some.inj hj).symm)
 ·rename_i hij
  exact .inr (List.mem_eraseIdx_iff_getElem?.2 ⟨j,Ne.symm hij,hj⟩)
theorem mem_erase.{u} {α : Type u} {xs : List α} {i : Nat} {y : α} (h : y ∈ xs.eraseIdx i) : y ∈ xs:=by
 obtain ⟨j,_,hj⟩:=List.mem_eraseIdx_iff_getElem?.1 h
 exact List.mem_of_getElem? hj
theorem freeG_ne {d : Nat} (h : freeG Γ d = true) {e : Nat × Stamp × List C} (he : e ∈ Γ) : e.1 ≠ d:=by
 have:=List.all_eq_true.1 h e he
 simpa using this
theorem freeD_ne {d : Nat} (h : freeD Δ d = true) {g : Gw} (hg : g ∈ Δ) : d ∉ g.D:=by
 have:=List.all_eq_true.1 h g hg
 simpa using this
theorem Gw.ok.frame {g : Gw} {L L' : Layer} {n0 : Nat} (h : g.ok L n0) (hL : ∀ d ∈ g.D,L'[d]? = L[d]?) : g.ok L' n0:=by
 obtain ⟨cs,q1,q2⟩:=h
 exact ⟨cs,q1,q2.frame hL⟩
theorem Fm.setG (S : Fm N h0 B Γ Δ Hp) {i d : Nat} {s : Stamp} {cs cs' : List C} (hi : Γ[i]? = some (d,s,cs)) (hf : (freeG (Γ.eraseIdx i) d && freeD Δ d) = true) (hc : cs'.length = cs.length) : Fm N h0 B (Γ.set i (d,s,cs')) Δ (ptC Hp ⟨h0.length,d,0,s,[]⟩ 0 cs'):=by
 obtain ⟨L,rfl,h2,h3,h4,h5⟩:=S
 have hL:=h4 _ (List.mem_of_getElem? hi)
 have hlt:=(List.getElem?_eq_some_iff.1 hi).1
 have hdl:=(List.getElem?_eq_some_iff.1 hL).1
 simp only [Bool.and_eq_true] at hf
 refine ⟨L.set d [.own s cs'],?_,by simpa using h2,h3,fun e he => ?_,fun g hg => ?_⟩
 ·have hn:=nd_own (h:=pts h0 B) hL
  rw [← pts_length B]
  rw [ptC_eq (off:=0) (p:=[]) (q:=[]) (cs:=cs) (by rw [hn]; simp) rfl hc,setNd_own hL]
  simp
 ·rcases mem_set he hlt with rfl | he
  ·simp only; rw [List.getElem?_set_self hdl]
  ·rw [List.getElem?_set_ne (Ne.symm (freeG_ne hf.1 he))]; exact h4 e (mem_erase he)
 ·exact (h5 g hg).frame fun x hx => by rw [List.getElem?_set_ne (fun e => freeD_ne hf.2 hg (by rw [e]; exact hx))]
theorem Fm.atB (S : Fm N h0 B Γ Δ Hp) {i : Nat} {r : Rt} (hi : B[i]? = some r) : AtC Hp r.l r.off r.cs:=by
 obtain ⟨L,rfl,h2,h3,h4,h5⟩:=S
 exact (h3.at hi).up L
theorem Fm.setB (S : Fm N h0 B Γ Δ Hp) {i : Nat} {r : Rt} {cs : List C} (hi : B[i]? = some r) (hc : cs.length = r.cs.length) : Fm N h0 (B.set i ⟨r.l,r.off,cs⟩) Γ Δ (ptC Hp r.l r.off cs):=by
 obtain ⟨L,rfl,h2,h3,h4,h5⟩:=S
 exact ⟨L,by rw [(h3.at hi).put_up L hc,h3.pt hi hc],h2,h3.set hi hc,h4,h5⟩
theorem Fm.stG (S : Fm N h0 B Γ Δ Hp) {i d j : Nat} {s σ : Stamp} {own : Bool} {x : V} {cs : List C} (hi : Γ[i]? = some (d,s,cs)) (hf : (freeG (Γ.eraseIdx i) d && freeD Δ d) = true) (hx : Still x) (hj : (cs[j]?).isSome = true) :
  ∃ H',stO own 1 σ Hp (.ref ⟨h0.length,d,0,s,[]⟩ j) x = some H'∧Fm N h0 B (Γ.set i (d,s,cs.set j (.v x))) Δ H':=by
 have hlt : j < cs.length:=by
  obtain ⟨y,hy⟩:=Option.isSome_iff_exists.1 hj
  exact (List.getElem?_eq_some_iff.1 hy).1
 have e:=(S.atG hi).st (own:=own) (σ:=σ) hx hlt
 rw [Nat.zero_add] at e
 exact ⟨_,e,S.setG hi hf (by simp)⟩
theorem Fm.stGv (S : Fm N h0 B Γ Δ Hp) {i d j n : Nat} {s σ : Stamp} {own : Bool} {xs : List V} {cs : List C} (hi : Γ[i]? = some (d,s,cs)) (hf : (freeG (Γ.eraseIdx i) d && freeD Δ d) = true) (hx : Stills xs) (hn : xs.length = n) (hj : decide (j + n ≤ cs.length) = true) :
  ∃ H',stO own n σ Hp (.ref ⟨h0.length,d,0,s,[]⟩ j) (.agg xs) = some H'∧Fm N h0 B (Γ.set i (d,s,cs.take j ++ xs.map .v ++ cs.drop (j + n))) Δ H':=by
 have hj:=of_decide_eq_true hj
 have e:=(S.atG hi).stVs (own:=own) (σ:=σ) hx hn hj
 rw [Nat.zero_add] at e
 exact ⟨_,e,S.setG hi hf (by simp; omega)⟩
theorem Fm.stB (S : Fm N h0 B Γ Δ Hp) {i off j : Nat} {l : Loc} {σ : Stamp} {own : Bool} {x : V} {cs : List C} (hi : B[i]? = some ⟨l,off,cs⟩) (hx : Still x) (hj : (cs[j]?).isSome = true) :
  ∃ H',stO own 1 σ Hp (.ref l (off + j)) x = some H'∧Fm N h0 (B.set i ⟨l,off,cs.set j (.v x)⟩) Γ Δ H':=by
 have hlt : j < cs.length:=by
  obtain ⟨y,hy⟩:=Option.isSome_iff_exists.1 hj
  exact (List.getElem?_eq_some_iff.1 hy).1
 exact ⟨_,(S.atB hi).st (own:=own) (σ:=σ) hx hlt,S.setB hi (by simp)⟩
theorem Fm.add (S : Fm N h0 B Γ Δ Hp) {d : Nat} {s : Stamp} {cs : List C} (hd : d < N) (hf : (freeG Γ d && freeD Δ d) = true) : Fm N h0 B ((d,s,cs)::Γ) Δ (setSlot Hp d [.own s cs]):=by
 obtain ⟨L,rfl,h2,h3,h4,h5⟩:=S
 simp only [Bool.and_eq_true] at hf
 refine ⟨L.set d [.own s cs],rfl,by simpa using h2,h3,fun e he => ?_,fun g hg => ?_⟩
 ·rcases List.mem_cons.1 he with rfl | he
  ·simp only; rw [List.getElem?_set_self (by omega)]
  ·rw [List.getElem?_set_ne (Ne.symm (freeG_ne hf.1 he))]; exact h4 e he
 ·exact (h5 g hg).frame fun x hx => by rw [List.getElem?_set_ne (fun e => freeD_ne hf.2 hg (by rw [e]; exact hx))]
theorem Fm.newLoc (S : Fm N h0 B Γ Δ Hp) (d : Nat) (s : Stamp) : Ev.newLoc Hp d s = ⟨h0.length,d,0,s,[]⟩:=by
 obtain ⟨L,rfl,_⟩:=S; rw [newLoc_cons,pts_length]
theorem Fm.al (S : Fm N h0 B Γ Δ Hp) {d : Nat} {s : Stamp} {z : List V} (hd : d < N) (hf : (freeG Γ d && freeD Δ d) = true) : ∃ H',alO z s d Hp = (.ref ⟨h0.length,d,0,s,[]⟩ 0,H')∧Fm N h0 B ((d,s,z.map .v)::Γ) Δ H' :=
 ⟨_,by rw [alO,S.newLoc],S.add hd hf⟩
theorem Fm.box (S : Fm N h0 B Γ Δ Hp) {d : Nat} {s : Stamp} {own : Bool} {xs : List V} (hx : Stills xs) (hd : d < N) (hf : (freeG Γ d && freeD Δ d) = true) : ∃ H',boxO own s d Hp (.agg xs) = some (.ref ⟨h0.length,d,0,s,[]⟩ 0,H')∧Fm N h0 B ((d,s,xs.map .v)::Γ) Δ H' :=
 ⟨_,by unfold boxO; rw [show (V.agg xs).cells = xs from rfl,layCs_still own _ hx]; simp only [Option.bind_some]; rw [S.newLoc],S.add hd hf⟩
theorem Fm.slot (S : Fm N h0 B Γ Δ Hp) {i d : Nat} {s : Stamp} {cs : List C} (hi : Γ[i]? = some (d,s,cs)) : slotOf Hp d = some [.own s cs]:=by
 obtain ⟨L,rfl,h2,h3,h4,h5⟩:=S
 exact h4 _ (List.mem_of_getElem? hi)

def YsH {α : Type} (h : H) (d : Dt α) (ys : List α) (y : V) : Prop:=∃ cs,Ys h y d.sz ys.length cs∧d.L ys cs
theorem SlH.y {α : Type} {h : H} {d : Dt α} {ys : List α} {y : V} (hy : SlH h d ys y) : YsH h d ys y:=by
 obtain ⟨cs,h1,h2⟩:=hy; exact ⟨cs,h1.ys,h2⟩
theorem Fm.app (S : Fm N h0 B Γ Δ Hp) {i d b e : Nat} {g : Gw} {own : Bool} {σ : Stamp} {y : V} {ys zs : List g.α} (hi : Δ[i]? = some g) (hy : YsH Hp g.d ys y) (hz : ap b g.xs ys = some zs) (he : g.d.sz = e) (hk : e ≠ 0) (hd : d < N) (hf : freeL (d::g.D) Γ (Δ.eraseIdx i) = true) :
  ∃ v H',apO own e b σ d Hp g.v y = some (v,H')∧Fm N h0 B Γ (Δ.set i ⟨d::g.D,v,g.d,zs⟩) H':=by
 subst he
 obtain ⟨⟨hb1,hb2⟩,rfl⟩:=ap_some hz
 obtain ⟨L,rfl,h2,h3,h4,h5⟩:=S
 obtain ⟨cs,q1,q2⟩:=h5 g (List.mem_of_getElem? hi)
 obtain ⟨ds,r1,r2⟩:=hy
 rw [← pts_length B] at q2
 have hlt:=(List.getElem?_eq_some_iff.1 hi).1
 obtain ⟨v',L',e1,e2,e3,e4⟩:=q2.app (own:=own) (σ:=σ) (d:=d) (by omega) r1 (RL.stills r2) hk hb1 hb2
 have hfr:=List.all_eq_true.1 hf
 have nG : ∀ e ∈ Γ,e.1 ∉ d::g.D:=fun e he hm => by
  have:=hfr _ hm
  simp only [Bool.and_eq_true] at this
  exact freeG_ne this.1 he rfl
 have nD : ∀ g' ∈ Δ.eraseIdx i,∀ x ∈ g'.D,x ∉ d::g.D:=fun g' hg' x hx hm => by
  have:=hfr _ hm
  simp only [Bool.and_eq_true] at this
  exact freeD_ne this.2 hg' hx
 refine ⟨v',_,e1,L',rfl,by omega,h3,fun e he => by rw [e4 _ (nG e he)]; exact h4 e he,fun g' hg' => ?_⟩
 rcases mem_set hg' hlt with rfl | hg'
 ·refine ⟨cs ++ ds,q1.append r2,?_⟩
  rw [← pts_length B,List.length_append]
  exact e2
 ·exact (h5 g' (mem_erase hg')).frame fun x hx => e4 x (nD g' hg' x hx)
theorem Fm.setD (S : Fm N h0 B Γ Δ Hp) {i e : Nat} {g : Gw} {own : Bool} {σ : Stamp} {k : Int} {x : g.α} {xv : V} {zs : List g.α} (hi : Δ[i]? = some g) (hz : stx g.xs k x = some zs) (he : g.d.sz = 1) (hx : g.d.R x [xv]) (hD : noLit g.D = true) (hf : freeL g.D Γ (Δ.eraseIdx i) = true) :
  ∃ H',stO own 1 σ Hp (adr g.v (k.toNat * 1)) xv = some H'∧Fm N h0 B Γ (Δ.set i ⟨g.D,g.v,g.d,zs⟩) H':=by
 obtain ⟨⟨hk0,hk1⟩,rfl⟩:=stx_some hz
 obtain ⟨L,rfl,h2,h3,h4,h5⟩:=S
 obtain ⟨cs,q1,q2⟩:=h5 g (List.mem_of_getElem? hi)
 rw [← pts_length B] at q2
 have hlt:=(List.getElem?_eq_some_iff.1 hi).1
 have hcl:=RL.length (fun h => g.d.len h) q1
 rw [he,Nat.mul_one] at hcl
 have hs : Still xv:=g.d.still hx xv (List.mem_cons_self ..)
 obtain ⟨L',e1,e2,e3,e4⟩:=q2.set hD (own:=own) (σ:=σ) (j:=k.toNat * 1) (x:=xv) (by omega) hs
 have hfr:=List.all_eq_true.1 hf
 refine ⟨_,e1,L',rfl,by omega,h3,fun e he => by
  rw [e4 _ fun hm => ?_]
  ·exact h4 e he
  ·have:=hfr _ hm
   simp only [Bool.and_eq_true] at this
   exact freeG_ne this.1 he rfl,fun g' hg' => ?_⟩
 rcases mem_set hg' hlt with rfl | hg'
 ·refine ⟨_,?_,by rw [← pts_length B]; simpa using e2⟩
  have:=q1.set (k:=1) (fun h => by rw [g.d.len h,he]) (i:=k.toNat) (y:=x) (by omega) hx
  rw [Nat.mul_one] at this
  rw [set_take_drop cs _ _ (by omega)] at this
  exact this
 ·exact (h5 g' (mem_erase hg')).frame fun x hx => e4 x fun hm => by
   have:=hfr _ hm
   simp only [Bool.and_eq_true] at this
   exact freeD_ne this.2 hg' hx
theorem Fm.mk (S : Fm N h0 B Γ Δ Hp) {α : Type} {dt : Dt α} {d b e : Nat} {z : α} {zv : List V} {n : Int} {σ : Stamp} {zs : List α} (hz : Ev.mk b z n = some zs) (hR : dt.R z zv) (he : dt.sz = e) (hk : e ≠ 0) (hd : d < N) (hf : (freeG Γ d && freeD Δ d) = true) :
  ∃ v H',mkO e b zv σ d Hp n n = some (v,H')∧Fm N h0 B Γ (⟨[d],v,dt,zs⟩::Δ) H':=by
 subst he
 obtain ⟨⟨z0,z1,z2⟩,rfl⟩:=mk_some hz
 obtain ⟨L,rfl,h2,h3,h4,h5⟩:=S
 simp only [Bool.and_eq_true] at hf
 obtain ⟨v,L',e1,e2,e3,e4⟩:=GrowS.make (L:=L) (h:=pts h0 B) (b:=b) (d:=d) (z:=zv) (n:=n) (σ:=σ) (by omega) z0 z1 (by omega) (dt.len hR) hk
 refine ⟨v,_,e1,L',rfl,by omega,h3,fun e he => by rw [e4 _ (freeG_ne hf.1 he)]; exact h4 e he,fun g hg => ?_⟩
 rcases List.mem_cons.1 hg with rfl | hg
 ·refine ⟨_,RL.rep hR _,?_⟩
  rw [← pts_length B]
  simpa using e2
 ·exact (h5 g hg).frame fun x hx => e4 x fun h => freeD_ne hf.2 hg (h ▸ hx)
theorem Fm.land (S : Fm N h0 B Γ Δ Hp) {α : Type} {dt : Dt α} {d e n : Nat} {c : C} {cs : List V} {xs : List α} (ho : OwnS c dt.sz xs.length cs) (hl : dt.L xs cs) (hd : d < N) (hf : (freeG Γ d && freeD Δ d) = true) :
  ∃ v H',Ev.land Hp (some d) [c] = (v,H')∧Fm N h0 B Γ (⟨[d],v,dt,xs⟩::Δ) H':=by
 obtain ⟨L,rfl,h2,h3,h4,h5⟩:=S
 simp only [Bool.and_eq_true] at hf
 obtain ⟨v,L',e1,e2,e3,e4⟩:=ho.land (L:=L) (h:=pts h0 B) (d:=d) (by omega)
 refine ⟨v,_,e1,L',rfl,by omega,h3,fun e he => by rw [e4 _ (freeG_ne hf.1 he)]; exact h4 e he,fun g hg => ?_⟩
 rcases List.mem_cons.1 hg with rfl | hg
 ·exact ⟨cs,hl,by rw [← pts_length B]; exact e2⟩
 ·exact (h5 g hg).frame fun x hx => e4 x fun h => freeD_ne hf.2 hg (h ▸ hx)
theorem Fm.landN (S : Fm N h0 B Γ Δ Hp) {α : Type} {dt : Dt α} {d : Nat} {c : C} {cs : List V} {xs : List α} (ho : OwnS c dt.sz xs.length cs) (hl : dt.L xs cs) (hd : d < N) (hf : (freeG Γ d && freeD Δ d) = true) (y : V) (ys : List V) :
  ∃ v H',Ev.land Hp (some d) (c::(y::ys).map .v) = (.tup (v::y::ys),H')∧Fm N h0 B Γ (⟨[d],v,dt,xs⟩::Δ) H':=by
 obtain ⟨L,rfl,h2,h3,h4,h5⟩:=S
 simp only [Bool.and_eq_true] at hf
 obtain ⟨v,L',e1,e2,e3,e4⟩:=ho.landN (L:=L) (h:=pts h0 B) (d:=d) (by omega) (y:=y) ys
 refine ⟨v,_,e1,L',rfl,by omega,h3,fun e he => by rw [e4 _ (freeG_ne hf.1 he)]; exact h4 e he,fun g hg => ?_⟩
 rcases List.mem_cons.1 hg with rfl | hg
 ·exact ⟨cs,hl,by rw [← pts_length B]; exact e2⟩
 ·exact (h5 g hg).frame fun x hx => e4 x fun h => freeD_ne hf.2 hg (h ▸ hx)
def Lv1 (x : V) : Prop:=∀ frz τ h,expF frz τ h x = some (.v x,h)
theorem Still.lv {x : V} (h : Still x) : Lv1 x:=h.exp
theorem Stills.lv {xs : List V} (h : Stills xs) : Lv1 (.agg xs):=fun _ τ h' => expF_agg h τ h'
theorem Fm.finN (S : Fm N h0 B Γ Δ Hp) {frz : Bool} {σ : Stamp} {xs : List V} (hx : ∀ x ∈ xs,Lv1 x) : fin frz σ Hp xs = some (xs.map .v,pts h0 B):=by
 obtain ⟨L,rfl,_⟩:=S
 have : ∀ (xs : List V) (j : Nat),(∀ x ∈ xs,Lv1 x)→expCs frz (1::σ) j (L::pts h0 B) xs = some (xs.map .v,L::pts h0 B):=fun xs => by
  induction xs with
  | nil => intro j _; rfl
  | cons x xs ih => intro j hx; simp only [expCs,hx x (List.mem_cons_self ..) frz,Option.bind_some,ih (j + 1) (fun y hy => hx y (List.mem_cons_of_mem _ hy)),Option.map_some,List.map_cons]
 simp [fin,this xs 0 hx]
theorem Fm.finOwn (S : Fm N h0 B Γ Δ Hp) {i : Nat} {g : Gw} (hi : Δ[i]? = some g) (hD : noLit g.D = true) {σ : Stamp} : ∃ c cs,fin false σ Hp [g.v] = some ([c],pts h0 B)∧OwnS c g.d.sz g.xs.length cs∧g.d.L g.xs cs:=by
 obtain ⟨L,rfl,h2,h3,h4,h5⟩:=S
 obtain ⟨cs,q1,q2⟩:=h5 g (List.mem_of_getElem? hi)
 rw [← pts_length B] at q2
 obtain ⟨c,e1,e2⟩:=q2.own hD σ
 exact ⟨c,cs,e1,e2,q1⟩
end
end Go.Ev
namespace Go.Ev
set_option linter.unusedVariables false
set_option linter.unusedSimpArgs false
section
variable {β α γ δ : Type} {x : Option β} {Q : β→α→Prop} {K : δ→Option α}
theorem Sim.as {A : Option γ} {g : γ→Option δ} (s : Sim x (A.bind fun v => (g v).bind K) Q) : Sim x ((A.bind g).bind K) Q:=by
 rw [Option.bind_assoc]; exact s
theorem Sim.ext {Y Y' : Option δ} (e : Y = Y') (s : Sim x (Y'.bind K) Q) : Sim x (Y.bind K) Q:=by rw [e]; exact s
theorem Sim.pure {v : δ} (s : Sim x (K v) Q) : Sim x ((some v).bind K) Q:=s
end
theorem sM {o : Option H} {h : H} (e : o = some h) : (o.map fun h => ((udf : V),h)) = some (udf,h):=by rw [e]; rfl
theorem lN : ∀ x ∈ ([] : List V),Lv1 x:=fun _ h => by cases h
theorem lC {x : V} {xs : List V} (h : Lv1 x) (t : ∀ y ∈ xs,Lv1 y) : ∀ y ∈ x::xs,Lv1 y:=fun y hy => by
 rcases List.mem_cons.1 hy with rfl | hy
 ·exact h
 ·exact t y hy
def Ex (frz : Bool) (τ : Stamp) (j : Nat) (h : H) (xs : List V) (cs : List C) (h' : H) : Prop:=expCs frz τ j h xs = some (cs,h')
theorem Ex.nil {frz : Bool} {τ : Stamp} {j : Nat} {h : H} : Ex frz τ j h [] [] h:=rfl
theorem Ex.pl {frz : Bool} {τ : Stamp} {j : Nat} {h h' : H} {x : V} {xs : List V} {cs : List C} (hx : Lv1 x) (t : Ex frz τ (j + 1) h xs cs h') : Ex frz τ j h (x::xs) (.v x::cs) h':=by
 unfold Ex at t ⊢; simp only [expCs,hx frz,Option.bind_some,t,Option.map_some]
theorem Ex.st {frz : Bool} {τ : Stamp} {j : Nat} {h h1 h' : H} {x : V} {c : C} {xs : List V} {cs : List C} (hx : expF frz (j::τ) h x = some (c,h1)) (t : Ex frz τ (j + 1) h1 xs cs h') : Ex frz τ j h (x::xs) (c::cs) h':=by
 unfold Ex at t ⊢; simp only [expCs,hx,Option.bind_some,t,Option.map_some]
section
variable {N : Nat} {h0 Hp : H} {B : List Rt} {Γ : List (Nat × Stamp × List C)} {Δ : List Gw}
theorem Fm.finE (S : Fm N h0 B Γ Δ Hp) {frz : Bool} {σ : Stamp} {H : Ev.H} {xs : List V} {cs : List C} (e : Ex frz (1::σ) 0 H xs cs Hp) : fin frz σ H xs = some (cs,pts h0 B):=by
 obtain ⟨L,rfl,_⟩:=S
 unfold Ex at e
 simp [fin,e]
theorem dead_ok {L : Layer} {d : Nat} (S : Fm N h0 B Γ Δ (L::pts h0 B)) (hf : (freeG Γ d && freeD Δ d) = true) (c : List C) : Fm N h0 B Γ Δ (L.set d c::pts h0 B):=by
 obtain ⟨L',he,h2,h3,h4,h5⟩:=S
 obtain ⟨rfl,_⟩:=List.cons.inj he
 simp only [Bool.and_eq_true] at hf
 refine ⟨_,rfl,by simpa using h2,h3,fun e he => ?_,fun g hg => ?_⟩
 ·rw [List.getElem?_set_ne (Ne.symm (freeG_ne hf.1 he))]; exact h4 e he
 ·exact (h5 g hg).frame fun x hx => by rw [List.getElem?_set_ne (fun e => freeD_ne hf.2 hg (by rw [e]; exact hx))]
theorem mem_one {D : List Nat} {Γ : List (Nat × Stamp × List C)} {Δ : List Gw} (hf : freeL D Γ Δ = true) {d : Nat} (hd : d ∈ D) : (freeG Γ d && freeD Δ d) = true:=List.all_eq_true.1 hf d hd
theorem Fm.expFrz (S : Fm N h0 B Γ Δ Hp) {i : Nat} {g : Gw} (hi : Δ[i]? = some g) (hf : freeL g.D Γ (Δ.eraseIdx i) = true) {τ : Stamp} : ∃ v H',expF true τ Hp g.v = some (.v v,H')∧SlF g.d g.xs v∧Fm N h0 B Γ (Δ.eraseIdx i) H':=by
 have S' : Fm N h0 B Γ (Δ.eraseIdx i) Hp:=S.wk (fun _ h => h) (fun _ h => mem_erase h)
 obtain ⟨L,rfl,h2,h3,h4,h5⟩:=S
 obtain ⟨cs,q1,q2⟩:=h5 g (List.mem_of_getElem? hi)
 rw [← pts_length B] at q2
 rcases q2 with ⟨e1,e2,e3⟩ | ⟨q2,d',hd',s,tl,hv,h6⟩ | ⟨hv,q2,_⟩
 ·refine ⟨g.v,_,?_,⟨cs,?_,q1⟩,S'⟩
  ·rcases e3 with e | e <;> rw [e]
   ·exact still_nilS.exp ..
   ·exact (still_fz ..).exp ..
  ·rw [e1,e2]
   rcases e3 with e | e <;> rw [e]
   ·exact .nil _
   ·exact .fz (by simp) _
 ·refine ⟨.fz cs g.xs.length g.d.sz false,_,?_,⟨cs,.fz q2 _,q1⟩,dead_ok S' (mem_one hf hd') (.dead::tl)⟩
  rw [hv,expF_frz h6 q2]
 ·exact ⟨g.v,_,by rw [hv]; exact (still_fz ..).exp ..,⟨cs,by rw [hv]; exact .fz q2 _,q1⟩,S'⟩
theorem Fm.expOwn (S : Fm N h0 B Γ Δ Hp) {i : Nat} {g : Gw} (hi : Δ[i]? = some g) (hD : noLit g.D = true) (hf : freeL g.D Γ (Δ.eraseIdx i) = true) {τ : Stamp} : ∃ c cs H',expF false τ Hp g.v = some (c,H')∧OwnS c g.d.sz g.xs.length cs∧g.d.L g.xs cs∧Fm N h0 B Γ (Δ.eraseIdx i) H':=by
 have S' : Fm N h0 B Γ (Δ.eraseIdx i) Hp:=S.wk (fun _ h => h) (fun _ h => mem_erase h)
 obtain ⟨L,rfl,h2,h3,h4,h5⟩:=S
 obtain ⟨cs,q1,q2⟩:=h5 g (List.mem_of_getElem? hi)
 rw [← pts_length B] at q2
 rcases q2 with ⟨e1,e2,e3⟩ | ⟨q2,d',hd',s,tl,hv,h6⟩ | ⟨_,_,_,hd⟩
 ·refine ⟨.v g.v,cs,_,?_,⟨by rw [e1,e2]; simp,.inl ⟨e1,e2,?_⟩⟩,q1,S'⟩
  ·rcases e3 with e | e <;> rw [e]
   ·exact still_nilS.exp ..
   ·exact (still_fz ..).exp ..
  ·rcases e3 with e | e <;> rw [e] <;> simp
 ·refine ⟨.arr s g.xs.length g.d.sz (cs.map .v),cs,_,?_,⟨q2,.inr ⟨s,rfl⟩⟩,q1,dead_ok S' (mem_one hf hd') (.dead::tl)⟩
  rw [hv,expF_arr h6 (by simpa using q2)]
 ·exact (noLit_no hD hd).elim
end
def fillC (places : Nat→Option (Nat × Nat)) (cells : List V) : List (Nat × List V)→Option (List V)
 | [] => some cells
 | (i,v)::rest =>
  match places i with
  | none => none
  | some (off,size) =>
   if v.length ≠ size ∨ off + v.length > cells.length then none
   else fillC places (cells.take off ++ v ++ cells.drop (off + v.length)) rest
theorem fillC_ok (places : Nat→Option (Nat × Nat)) : ∀ (parts : List (Nat × V)) (cells : List V),fillV places cells parts = fillC places cells (parts.map fun q => (q.1,q.2.cells))
 | [],cells => rfl
 | (i,v)::rest,cells => by
  simp only [fillV,fillC,List.map_cons]
  cases places i with
  | none => rfl
  | some q =>
   simp only
   split
   ·rfl
   ·exact fillC_ok places rest _
def buildC (P : Program) (t : TypeId) (parts : List (Nat × List V)) : Option V :=
 (tzero P t).bind fun zero =>
 match P.underlying t with
 | some (.struct fs) => if fs.toList.all (fun f => known P f.type) then (fillC (fun i => (fs[i]?).map fun f => (f.offset,tsize P f.type)) zero parts).map .agg else none
 | some (.array _ e) => if known P e then (fillC (fun i => some (i * tsize P e,tsize P e)) zero parts).map .agg else none
 | _ => none
def buildSliceC (P : Program) (t : TypeId) (len : Nat) (parts : List (Nat × List V)) : Option V :=
 (telem P t).bind fun e => (tzero P e).bind fun zero =>
 if zero.length ≠ tsize P e ∨ tsize P e = 0 ∨ len * tsize P e > 2 ^ 24 then none else
 (fillC (fun i => some (i * tsize P e,tsize P e)) (rept len zero) parts).map fun cs => .fz cs len (tsize P e) true
theorem bldV {P : Program} {t : TypeId} {parts : List (Nat × V)} {cs : List (Nat × List V)} {r : V} (hp : (parts.map fun q => (q.1,q.2.cells)) = cs) (hb : buildC P t cs = some r) : buildV P t parts = some r:=by
 rw [← hb,← hp]; unfold buildV buildC; simp only [fillC_ok]; rfl
theorem bldS {P : Program} {t : TypeId} {n : Nat} {parts : List (Nat × V)} {cs : List (Nat × List V)} {r : V} (hp : (parts.map fun q => (q.1,q.2.cells)) = cs) (hb : buildSliceC P t n cs = some r) : bSV P t n parts = some r:=by
 rw [← hb,← hp]; unfold bSV buildSliceC; simp only [fillC_ok]
theorem pN : (([] : List (Nat × V)).map fun q => (q.1,q.2.cells)) = []:=rfl
theorem pC {i : Nat} {v : V} {c : List V} {ps : List (Nat × V)} {cs : List (Nat × List V)} (h : v.cells = c) (t : (ps.map fun q => (q.1,q.2.cells)) = cs) : (((i,v)::ps).map fun q => (q.1,q.2.cells)) = (i,c)::cs:=by rw [List.map_cons,h,t]
def shP (op : BinOp) (k : IntKind) (a b : Int) : Option Int:=if b < 0 then none else match op with
 | .shl => some (k.wrap (a * 2 ^ min b.toNat k.bits))
 | .shr => some (a.fdiv (2 ^ min b.toNat k.bits))
 | _ => none
theorem shP_ok {op : BinOp} {k : IntKind} {a b n : Int} (h : shP op k a b = some n) : shiftV op k a b = some (.p (.int k n)):=by
 unfold shP at h; unfold shiftV
 split at h
 ·cases h
 ·rename_i h0
  rw [if_neg h0]
  split at h <;> cases h <;> rfl
def remP (a b : Int) : Option Int:=if b = 0 then none else some (a.tmod b)
theorem remP_ok {k : IntKind} {a b n : Int} (h : remP a b = some n) : remI k a b = some (.p (.int k n)):=by
 unfold remP at h; unfold remI
 split at h
 ·cases h
 ·rename_i h0; rw [if_neg h0]; cases h; rfl
def strB (xs : List Int) : ByteArray:=⟨(xs.map fun n => UInt8.ofNat n.toNat).toArray⟩
def bytesS (s : ByteArray) : List Int:=s.data.toList.map fun b => (b.toNat : Int)
def ixS (s : ByteArray) (i : Int) : Option Int:=if 0 ≤ i then (s[i.toNat]?).map fun b => (b.toNat : Int) else none
theorem ixS_ok {s : ByteArray} {i n : Int} (h : ixS s i = some n) : iStr s i = some (.p (.int .u8 n)):=by
 unfold ixS at h; unfold iStr
 split at h
 ·rename_i h0
  rw [if_pos h0]
  obtain ⟨b,hb,rfl⟩:=Option.map_eq_some_iff.1 h
  rw [hb]; rfl
 ·cases h
theorem RL.ints {k : IntKind} : ∀ {xs : List Int} {cs : List V},(dI k).L xs cs→cs = xs.map fun n => .p (.int k n)
 | [],cs,h => h
 | x::xs,cs,⟨a,b,h1,h2,h3⟩ => by
  have e : a = [.p (.int k x)]:=h2
  subst h1; subst e
  rw [RL.ints h3]; rfl
theorem RL.of_ints (k : IntKind) : ∀ (xs : List Int),(dI k).L xs (xs.map fun n => .p (.int k n))
 | [] => rfl
 | x::xs => .cons (show (dI k).R x [.p (.int k x)] from rfl) (RL.of_ints k xs)
theorem bytesOfV_ints : ∀ (xs : List Int),bytesOfV (xs.map fun n => .p (.int .u8 n)) = some (xs.map fun n => UInt8.ofNat n.toNat)
 | [] => rfl
 | x::xs => by simp [bytesOfV,bytesOfV_ints xs]
theorem SlH.str {h : H} {xs : List Int} {v : V} (hv : SlH h (dI .u8) xs v) : strO h v = some (.p (.string (strB xs))):=by
 obtain ⟨cs,h1,h2⟩:=hv
 have e:=RL.ints h2
 subst e
 have hl:=h1.sl
 unfold strO
 split
 ·simp [isSl] at hl
 ·simp only [toS,hl,h1.cells,h1.len,Option.bind_some,and_self,if_true]
  rw [if_pos (by simp),bytesOfV_ints]; rfl
theorem ysS (h : H) (s : ByteArray) : YsH h (dI .u8) (bytesS s) (.p (.string s)):=by
 refine ⟨_,⟨?_,rfl,?_⟩,?_⟩
 ·show some s.size = some (bytesS s).length
  unfold bytesS; rw [List.length_map]; rfl
 ·unfold bytesS; rw [List.length_map,List.length_map]; exact (Nat.mul_one _).symm
 ·have:=RL.of_ints .u8 (bytesS s)
  have e : (bytesS s).map (fun n => V.p (.int .u8 n)) = s.data.toList.map fun b => .p (.int .u8 b.toNat):=by unfold bytesS; rw [List.map_map]; rfl
  rw [e] at this; exact this
theorem SlF.bytes (s : ByteArray) : SlF (dI .u8) (bytesS s) (.fz (s.data.toList.map fun b => .p (.int .u8 b.toNat)) s.size 1 false):=by
 have e : (bytesS s).map (fun n => V.p (.int .u8 n)) = s.data.toList.map fun b => .p (.int .u8 b.toNat):=by unfold bytesS; rw [List.map_map]; rfl
 have:=RL.of_ints .u8 (bytesS s)
 rw [e] at this
 refine SlF.lit this ?_ rfl false
 unfold bytesS; rw [List.length_map]; rfl
end Go.Ev
namespace Go.Ev
set_option linter.unusedVariables false
set_option linter.unusedSimpArgs false
theorem aN.{u} {α : Type u} {P : α→Prop} : ∀ x ∈ ([] : List α),P x:=fun _ h => by cases h
theorem aC.{u} {α : Type u} {P : α→Prop} {a : α} {l : List α} (h : P a) (t : ∀ x ∈ l,P x) : ∀ x ∈ a::l,P x:=fun x hx => by
 rcases List.mem_cons.1 hx with rfl | hx
 ·exact h
 ·exact t x hx
theorem aM.{u} {α : Type u} {a : α} {l : List α} (i : Nat) (h : l[i]? = some a) : a ∈ l:=List.mem_of_getElem? h
section
variable {N : Nat} {h0 Hp : H} {B : List Rt} {Γ Γ' : List (Nat × Stamp × List C)} {Δ Δ' : List Gw}
theorem Fm.wk2 (S : Fm N h0 B Γ Δ Hp) (hG : ∀ e ∈ Γ',e ∈ Γ) (hD : ∀ g ∈ Δ',∃ D,(∀ d ∈ D,d ∈ g.D)∧(⟨D,g.v,g.d,g.xs⟩ : Gw) ∈ Δ) : Fm N h0 B Γ' Δ' Hp:=by
 obtain ⟨L,h1,h2,h3,h4,h5⟩:=S
 refine ⟨L,h1,h2,h3,fun e he => h4 e (hG e he),fun g hg => ?_⟩
 obtain ⟨D,q1,q2⟩:=hD g hg
 obtain ⟨cs,r1,r2⟩:=h5 _ q2
 refine ⟨cs,r1,?_⟩
 rcases r2 with q | ⟨r2,d',hd',r⟩ | ⟨a1,a2,a3,d',hd',a4⟩
 ·exact .inl q
 ·exact .inr (.inl ⟨r2,d',q1 d' hd',r⟩)
 ·exact .inr (.inr ⟨a1,a2,a3,d',q1 d' hd',a4⟩)
theorem Fm.start1 {l : Loc} {off : Nat} {cs : List C} (ha : AtC h0 l off cs) : Fm N h0 [⟨l,off,cs⟩] [] [] (List.replicate N []::h0) :=
 Fm.start ⟨⟨cs,rfl,ha⟩,aN,trivial⟩ (aC ha aN)
def clipBody (e n : Nat) (σ : Stamp) (x : V) (h : H) : Option (List C × H) :=
 (lenO x).bind fun t1 => (castI .i64 t1).bind fun n2 => (lenO x).bind fun t3 => (castI .i64 t3).bind fun n4 => (slS e x none (some n2) (some n4)).bind fun t5 => fin false σ (List.replicate n []::h) [t5]
theorem clip_body {e n : Nat} {σ : Stamp} {x : V} {h : H} {m : Nat} {y : V} (hl : lenO x = some (.p (.int .i64 m))) (hs : slS e x none (some m) (some m) = some y) (hf : fin false σ (List.replicate n []::h) [y] = some ([.v y],h)) : clipBody e n σ x h = some ([.v y],h):=by
 unfold clipBody
 simp only [hl,Option.bind_some,castI_p,hs,hf]
theorem clip_D {G : Cfg} {X : CallF} {f n e i d : Nat} {g : Gw} {σ : Stamp} (entry : ∀ (x : V) (h : H),cvBody G (ev G X) (cvL G X) f σ [x] h = clipBody e n σ x h)
  (S : Fm N h0 B Γ Δ Hp) (hi : Δ[i]? = some g) (he : g.d.sz = e) (hX : X f σ [g.v] Hp = none) :
  ∃ v,callO (ev G X) f σ [g.v] Hp (some d) = some (v,Hp)∧Fm N h0 B Γ (Δ.set i ⟨g.D,v,g.d,g.xs⟩) Hp:=by
 subst he
 have S0:=S
 obtain ⟨L,rfl,h2,h3,h4,h5⟩:=S
 have h5g:=h5 g (List.mem_of_getElem? hi)
 obtain ⟨cs,q1,q2⟩:=h5g
 have len : lenO g.v = some (.p (.int .i64 g.xs.length)):=(S0.sl hi).len
 have key : ∃ v,slS g.d.sz g.v none (some g.xs.length) (some g.xs.length) = some v∧GrowS g.D L h0.length v g.d.sz g.xs.length cs∧fin false σ (List.replicate n []::L::pts h0 B) [v] = some ([.v v],L::pts h0 B):=by
  rcases q2 with ⟨e1,e2,e3 | e3⟩ | ⟨q2,d',hd',s,tl,hv,h6⟩ | ⟨hv,a2,a3,a4⟩
  ·rw [e1,e3]; exact ⟨_,rfl,.inl ⟨rfl,e2,.inl rfl⟩,fin_1 still_nilS⟩
  ·rw [e1,e3]; exact ⟨.fz [] 0 g.d.sz true,by simp [slS,bI],.inl ⟨rfl,e2,.inr rfl⟩,fin_1 (still_fz ..)⟩
  ·rw [hv]
   by_cases h0' : g.xs.length = 0
   ·have : cs = []:=by rw [h0'] at q2; simpa using q2
    refine ⟨.fz [] 0 g.d.sz true,?_,.inl ⟨h0',this,.inr rfl⟩,fin_1 (still_fz ..)⟩
    rw [h0']; simp [slS,bI]
   ·refine ⟨.sl ⟨h0.length,d',0,s,[]⟩ 0 g.xs.length g.xs.length g.d.sz,?_,.inr (.inl ⟨q2,d',hd',s,tl,rfl,h6⟩),?_⟩
    ·simp [slS,bI,h0']
    ·exact fin_low (by simp [pts_length])
  ·rw [hv]
   exact ⟨.fz cs g.xs.length g.d.sz true,by simp [slS,bI,← a2],.inr (.inr ⟨rfl,a2,a3,a4⟩),fin_1 (still_fz ..)⟩
 obtain ⟨v,k1,k2,k3⟩:=key
 refine ⟨v,?_,L,rfl,h2,h3,h4,fun g' hg' => ?_⟩
 ·exact callO_1 (ev_cv hX (by rw [entry]; exact clip_body len k1 k3))
 ·rcases mem_set hg' (List.getElem?_eq_some_iff.1 hi).1 with rfl | hg'
  ·exact ⟨cs,q1,k2⟩
  ·exact h5 g' (mem_erase hg')
end
end Go.Ev
namespace Go.Ev
section
variable {N : Nat} {h0 Hp : H} {B : List Rt} {Γ Γ' : List (Nat × Stamp × List C)} {Δ Δ' : List Gw}
theorem Fm.lowA (S : Fm N h0 [] Γ Δ Hp) {l : Loc} {off : Nat} {cs : List C} (ha : AtC h0 l off cs) : AtC Hp l off cs:=by
 obtain ⟨L,rfl,_⟩:=S
 exact ha.up L
end
theorem Sim.clo {β α δ : Type} {x : Option β} {Q : β→α→Prop} {K : δ→Option α} {rec : CallF} {f : FuncId} {σ : Stamp} {args caps : List V} {H : H} {d : Option Nat} {g : V × Go.Ev.H→Option δ} (s : Sim x (((callO rec f σ (args ++ caps) H d).bind g).bind K) Q) : Sim x (((cloO rec (.clo f caps) σ args H d).bind g).bind K) Q:=s
def p_clone {α : Type} (b : Nat) (xs : List α) : Option (List α):=ap b [] xs
theorem clone_ok {G : Cfg} {X : CallF} {f n d e b t tt : Nat} {P : Program} {own : Bool} {τ : Stamp→Stamp} {α : Type} {dt : Dt α} {h : H} {σ : Stamp} {xs : List α} {x : V}
  (entry : ∀ (x : V) (h : H),cvBody G (ev G X) (cvL G X) f σ [x] h = (binV P (List.replicate n []::h) .eql t x (.p (.slice .none 0 0))).bind fun t1 => (asB t1).bind fun b2 => bif b2 then (fin false σ (List.replicate n []::h) [(.p (.slice .none 0 0))]) else ((bSV P t 0 []).bind fun t3 => (apO own e b (τ σ) d (List.replicate n []::h) t3 x).bind fun q4 => fin false σ q4.2 [q4.1]))
  (hx : SlH h dt xs x) (he : dt.sz = e) (hk : e ≠ 0) (hd : d < n) (hdd : d < 1000000) (hu : P.underlying t = some (.slice tt)) (hb : bSV P t 0 [] = some (.fz [] 0 e true)) (hX : X f σ [x] h = none) :
  Sim (p_clone b xs) (ev G X f σ [x] h) (fun r s => ∃ (c : C) (a : List V),OwnS c dt.sz r.length a∧dt.L r a∧s = ([c],h)):=by
 intro r hr
 have S0 : Fm n h [] [] [] (List.replicate n []::h):=Fm.start0
 have hn : ∀ (y : V),isSl y = true→y ≠ .p (.slice none 0 0)→binV P (List.replicate n []::h) .eql t y (.p (.slice none 0 0)) = some (.p (.bool false)):=fun y hy hne => by
  unfold isSl at hy
  split at hy
  ·exact absurd rfl hne
  ·simp [binV,eqlV,hu]
  ·simp [binV,eqlV,hu]
  ·cases hy
 have hnil : binV P (List.replicate n []::h) .eql t (.p (.slice none 0 0)) (.p (.slice none 0 0)) = some (.p (.bool true)):=by simp [binV,eqlV,hu]
 obtain ⟨⟨b1,b2⟩,hrr⟩:=ap_some hr
 obtain rfl : xs = r:=hrr.symm
 by_cases hnl : x = .p (.slice none 0 0)
 ·subst hnl
  obtain ⟨cs,q1,q2⟩:=hx
  have hlen:=q1.len
  simp only [lenOf,Option.some.injEq] at hlen
  have : xs = []:=List.length_eq_zero_iff.1 hlen.symm
  subst this
  refine ⟨_,ev_cv hX ?_,.v (.p (.slice none 0 0)),[],⟨by simp,.inl ⟨rfl,rfl,.inl rfl⟩⟩,rfl,rfl⟩
  rw [entry,hnil]
  simp only [Option.bind_some,asB_p,cond_true]
  exact fin_1 still_nilS
 ·have S1:=S0.nil' dt [] he
  have hsl : isSl x = true:=by obtain ⟨cs,q1,q2⟩:=hx; exact q1.sl
  obtain ⟨v,H1,e1,S2⟩:=S1.app (i:=0) (d:=d) (b:=b) (own:=own) (σ:=τ σ) (e:=e) rfl (S1.low hx).y hr he hk hd (by simp [freeL,freeG,freeD])
  obtain ⟨c,a,f1,f2,f3⟩:=S2.finOwn (i:=0) (σ:=σ) rfl (by simp [noLit]; omega)
  refine ⟨_,ev_cv hX ?_,c,a,f2,f3,rfl⟩
  rw [entry,hn x hsl hnl]
  simp only [Option.bind_some,asB_p,cond_false,hb]
  rw [e1]
  exact f1
end Go.Ev
namespace Go.Ev
set_option linter.unusedVariables false
set_option linter.unusedSimpArgs false
def SoC {α : Type} (d : Dt α) (xs : List α) (c : C) : Prop:=(∃ v,c = .v v∧SlF d xs v) ∨ ∃ s ws,c = .arr s xs.length d.sz (ws.map .v)∧d.L xs ws
theorem SoC.frz {α : Type} {d : Dt α} {xs : List α} {v : V} (h : SlF d xs v) : SoC d xs (.v v):=.inl ⟨v,rfl,h⟩
theorem SoC.own {α : Type} {d : Dt α} {xs : List α} {c : C} {ws : List V} (h : OwnS c d.sz xs.length ws) (hl : d.L xs ws) : SoC d xs c:=by
 obtain ⟨h1,⟨h2,h3,rfl | rfl⟩ | ⟨s,rfl⟩⟩:=h
 ·exact .inl ⟨_,rfl,ws,by rw [h2,h3]; exact .nil _,hl⟩
 ·exact .inl ⟨_,rfl,ws,by rw [h2,h3]; exact .fz (by simp) _,hl⟩
 ·exact .inr ⟨s,ws,rfl,hl⟩
def cellV (l : Loc) (o : Nat) (c : C) : V:=(toV l o c).getD udf
section
variable {α : Type} {h : H} {l : Loc} {off j : Nat} {cs : List C} {c : C} {d : Dt α} {xs : List α}
theorem SoC.ld (hc : SoC d xs c) (ha : AtC h l off cs) (hj : cs[j]? = some c) : ldO false 1 h (.ref l (off + j)) = some (cellV l (off + j) c):=by
 rcases hc with ⟨v,rfl,_⟩ | ⟨s,ws,rfl,_⟩
 ·exact ha.ldC hj rfl
 ·exact ha.ldC hj rfl
theorem SoC.sl (hc : SoC d xs c) (ha : AtC h l off cs) (hj : cs[j]? = some c) : SlH h d xs (cellV l (off + j) c):=by
 rcases hc with ⟨v,rfl,hv⟩ | ⟨s,ws,rfl,hl⟩
 ·exact hv.h h
 ·have hlen:=RL.length (fun h => d.len h) hl
  refine ⟨ws,.mk_sl (l:=l.hop (off + j) s) (ds:=ws.map .v) ?_ (by simp [hlen]) ?_ (Nat.le_refl _),hl⟩
  ·obtain ⟨p,q,hn,hp⟩:=ha.hop hj (s:=s) (ds:=ws.map .v) (by simp [C.node])
   have : p = []:=List.length_eq_zero_iff.1 hp
   subst this
   have hq:=ha.hop hj (s:=s) (ds:=ws.map .v) (by simp [C.node])
   obtain ⟨p,q,hn,hp⟩:=ha
   have hlt:=(List.getElem?_eq_some_iff.1 hj).1
   rw [nd_in hn (c:=.arr s xs.length d.sz (ws.map .v)) (ds:=ws.map .v)]
   ·rw [List.append_assoc,List.getElem?_append_right (by omega),show off + j - p.length = j by omega,List.getElem?_append_left hlt,hj]
   ·simp [C.node]
  ·rw [List.drop_zero,List.take_of_length_le (by simp [hlen]),toVs_plain]
end
section
variable {N : Nat} {h0 Hp : H} {B : List Rt} {Γ : List (Nat × Stamp × List C)} {Δ : List Gw}
theorem getElem_app {p cs q : List C} {off j : Nat} (hp : p.length = off) (hj : j < cs.length) : (p ++ cs ++ q)[off + j]? = cs[j]?:=by
 rw [List.append_assoc,List.getElem?_append_right (by omega),show off + j - p.length = j by omega,List.getElem?_append_left hj]
theorem at_killed {l : Loc} {off j : Nat} {cs : List C} {c : C} {s : Stamp} (ha : AtC Hp l off cs) (hj : cs[j]? = some c) (hc : (c.node s).isSome) : setAt Hp (l.hop (off + j) s) .dead = ptC Hp l off (cs.set j .dead):=by
 obtain ⟨p,q,hn,hp⟩:=ha
 have hlt:=(List.getElem?_eq_some_iff.1 hj).1
 have hcell : (p ++ cs ++ q)[off + j]? = some c:=by rw [getElem_app hp hlt,hj]
 rw [setAt_hop hn hcell,ptC_eq hn hp (by simp)]
 congr 1
 rw [List.append_assoc,List.set_append_right _ _ (by omega),List.set_append_left _ _ (by omega),← List.append_assoc]
 congr 3
 omega
structure Spot (N : Nat) (h0 : H) (Hp : H) (l : Loc) (off : Nat) (cs : List C) (T : List C→H→Prop) : Prop where
 at_ : AtC Hp l off cs
 put : ∀ cs',cs'.length = cs.length→T cs' (ptC Hp l off cs')
theorem app_cell {l : Loc} {off j d b e : Nat} {cs : List C} {c : C} {α : Type} {dt : Dt α} {xs ys zs : List α} {own : Bool} {σ : Stamp} {y : V}
  (ha : AtC Hp l off cs) (hj : cs[j]? = some c) (hc : SoC dt xs c) (hy : YsH Hp dt ys y) (hz : ap b xs ys = some zs) (hn : ys.length ≠ 0) (he : dt.sz = e) (hk : e ≠ 0) (hnt : ∀ v,c = .v v→v = .p (.slice none 0 0) ∨ v = .fz [] 0 e true) :
  ∃ ws s,dt.L zs ws∧∃ c',(c' = c ∨ c' = .dead)∧apO own e b σ d Hp (cellV l (off + j) c) y = some (.sl (newLoc Hp d s) 0 zs.length zs.length e,setSlot (ptC Hp l off (cs.set j c')) d [.arr s zs.length e (ws.map .v)]):=by
 subst he
 obtain ⟨⟨hb1,hb2⟩,rfl⟩:=ap_some hz
 obtain ⟨us,hu,hul⟩:=hy
 have hlt:=(List.getElem?_eq_some_iff.1 hj).1
 have same : ptC Hp l off (cs.set j c) = Hp:=by
  rw [show cs.set j c = cs from by rw [← (List.getElem?_eq_some_iff.1 hj).2]; exact List.set_getElem_self ..]
  exact ha.same
 have base : ∀ x,apO own dt.sz b σ d Hp x y = apTo dt.sz b σ d Hp ys.length (us.map .v) x:=fun x => by
  unfold apO
  rw [hu.len,hu.cells]
  simp only [Option.bind_some]
  rw [if_neg (by simp [hu.clen,hk]),if_neg hn,layCs_still own _ (RL.stills hul)]
  rfl
 rcases hc with ⟨v,rfl,hv⟩ | ⟨s,ws,rfl,hl⟩
 ·obtain ⟨vs,q1,q2⟩:=hv
  have hx0 : xs = []∧vs = []:=by
   rcases hnt v rfl with rfl | rfl
   ·have h1:=(q1 []).len
    simp only [lenOf,Option.some.injEq] at h1
    have h1 : xs = []:=List.length_eq_zero_iff.1 h1.symm
    subst h1
    exact ⟨rfl,by have:=(q1 []).clen; simpa using this⟩
   ·have h1:=(q1 []).len
    simp only [lenOf,Option.some.injEq] at h1
    have h1 : xs = []:=List.length_eq_zero_iff.1 h1.symm
    subst h1
    exact ⟨rfl,by have:=(q1 []).clen; simpa using this⟩
  obtain ⟨rfl,rfl⟩:=hx0
  refine ⟨us,σ,by simpa using hul,_,.inl rfl,?_⟩
  rw [base,same]
  rcases hnt v rfl with rfl | rfl
  ·simp only [cellV,toV,Option.getD_some,apTo]
   rw [if_pos ⟨by simpa using hb1,by simpa using hb2⟩]; simp
  ·simp only [cellV,toV,Option.getD_some,apTo]
   rw [if_pos ⟨trivial,trivial,by simp,by simpa using hb1,by simpa using hb2,by simp⟩]; simp
 ·refine ⟨ws ++ us,σ,hl.append hul,_,.inr rfl,?_⟩
  have hlen:=RL.length (fun h => dt.len h) hl
  have hnode : nd Hp (l.hop (off + j) s) = some (ws.map .v):=by
   obtain ⟨p,q,hn2,hp⟩:=ha
   exact nd_in hn2 (c:=.arr s xs.length dt.sz (ws.map .v)) (by rw [getElem_app hp hlt,hj]) (by simp [C.node])
  rw [base]
  simp only [cellV,toV,Option.getD_some,apTo]
  rw [if_neg (by simp),hnode]
  simp only [Option.bind_some]
  rw [if_neg (by omega),if_pos ⟨trivial,by simpa using hlen,hb1,hb2⟩,at_killed ha hj (by simp [C.node])]
  simp [newLoc,top,ptC_length]
theorem Fm.addArr (S : Fm N h0 B Γ Δ Hp) {α : Type} {dt : Dt α} {d e : Nat} {s : Stamp} {ws : List V} {xs : List α} (hl : dt.L xs ws) (he : dt.sz = e) (hd : d < N) (hf : (freeG Γ d && freeD Δ d) = true) :
  Fm N h0 B Γ (⟨[d],.sl ⟨h0.length,d,0,s,[]⟩ 0 xs.length xs.length e,dt,xs⟩::Δ) (setSlot Hp d [.arr s xs.length e (ws.map .v)]):=by
 subst he
 obtain ⟨L,rfl,h2,h3,h4,h5⟩:=S
 simp only [Bool.and_eq_true] at hf
 refine ⟨L.set d [.arr s xs.length dt.sz (ws.map .v)],rfl,by simpa using h2,h3,fun e he => ?_,fun g hg => ?_⟩
 ·rw [List.getElem?_set_ne (Ne.symm (freeG_ne hf.1 he))]; exact h4 e he
 ·rcases List.mem_cons.1 hg with rfl | hg
  ·exact ⟨ws,hl,.inr (.inl ⟨RL.length (fun h => dt.len h) hl,d,List.mem_singleton.2 rfl,s,[],rfl,by rw [List.getElem?_set_self (by omega)]⟩)⟩
  ·exact (h5 g hg).frame fun x hx => by rw [List.getElem?_set_ne (fun e => freeD_ne hf.2 hg (by rw [e]; exact hx))]
theorem Fm.appB (S : Fm N h0 B Γ Δ Hp) {i j d b e off : Nat} {l : Loc} {σ : Stamp} {cs : List C} {c : C} {α : Type} {dt : Dt α} {xs ys zs : List α} {own : Bool} {y : V}
  (hi : B[i]? = some ⟨l,off,cs⟩) (hj : cs[j]? = some c) (hc : SoC dt xs c) (hnt : ∀ v,c = .v v→v = .p (.slice none 0 0) ∨ v = .fz [] 0 e true) (hy : YsH Hp dt ys y) (hz : ap b xs ys = some zs) (hn : ys.length ≠ 0) (he : dt.sz = e) (hk : e ≠ 0) (hd : d < N)
  (hf2 : (freeG Γ d && freeD Δ d) = true) :
  ∃ v c' H',apO own e b σ d Hp (cellV l (off + j) c) y = some (v,H')∧Fm N h0 (B.set i ⟨l,off,cs.set j c'⟩) Γ (⟨[d],v,dt,zs⟩::Δ) H':=by
 obtain ⟨ws,s,hl,c',_,e1⟩:=app_cell (own:=own) (σ:=σ) (d:=d) (S.atB hi) hj hc hy hz hn he hk hnt
 refine ⟨_,c',_,e1,?_⟩
 rw [S.newLoc]
 exact (S.setB (cs:=cs.set j c') hi (by simp)).addArr hl he hd hf2
theorem mv_cell {l : Loc} {off j k : Nat} {cs : List C} {g : Gw} {σ : Stamp} (S : Fm N h0 B Γ Δ Hp) (hk : Δ[k]? = some g) (hD : noLit g.D = true) (hf : freeL g.D Γ (Δ.eraseIdx k) = true) (hloc : ∀ d ∈ g.D,∀ s,l.key ≠ (⟨h0.length,d,0,s,[]⟩ : Loc).key) (ha : AtC Hp l off cs) (hj : j < cs.length) :
  ∃ c ws H1,layC true Hp g.v = some (c,H1)∧stO true 1 σ Hp (.ref l (off + j)) g.v = some (ptC H1 l off (cs.set j c))∧OwnS c g.d.sz g.xs.length ws∧g.d.L g.xs ws∧AtC H1 l off cs∧Fm N h0 B Γ (Δ.eraseIdx k) H1:=by
 have S' : Fm N h0 B Γ (Δ.eraseIdx k) Hp:=S.wk (fun _ h => h) (fun _ h => mem_erase h)
 obtain ⟨L,rfl,h2,h3,h4,h5⟩:=S
 obtain ⟨ws,q1,q2⟩:=h5 g (List.mem_of_getElem? hk)
 have key : ∀ (v : V) (c : C) (H1 : H),v.cells = [v]→(∀ s n e ds,sameArr l (off + j) (some (.arr s n e ds)) v = false)→layC true (L::pts h0 B) v = some (c,H1)→AtC H1 l off cs→stO true 1 σ (L::pts h0 B) (.ref l (off + j)) v = some (ptC H1 l off (cs.set j c)):=fun v c H1 hv hs hl ha1 => by
  obtain ⟨p,q,hn,hp⟩:=ha
  obtain ⟨p1,q1',hn1,hp1⟩:=ha1
  have hsm : sameArr l (off + j) (p ++ cs ++ q)[off + j]? v = false:=by
   cases hx : (p ++ cs ++ q)[off + j]? with
   | none => rfl
   | some x =>
    cases x with
    | arr s n e ds => exact hs s n e ds
    | _ => rfl
  unfold stO
  simp only [hv,hn,hsm,Option.bind_some,layCs,hl]
  simp only [List.length_cons,List.length_nil,Bool.not_true,Bool.false_or,Nat.zero_add,bne_self_eq_false,Bool.false_eq_true,if_false,hn1,Option.bind_some]
  rw [if_pos (by simp; omega),set_take_drop _ _ _ (by simp; omega),ptC_eq hn1 hp1 (by simp)]
  congr 2
  rw [List.append_assoc,List.set_append_right _ _ (by omega),List.set_append_left _ _ (by omega),← List.append_assoc]
  congr 3
  omega
 rcases q2 with ⟨e1,e2,e3⟩ | ⟨q2,d',hd',s,tl,hv,h6⟩ | ⟨_,_,_,hd⟩
 ·refine ⟨.v g.v,ws,_,?_,key _ _ _ ?_ ?_ ?_ ha,⟨by rw [e1,e2]; simp,.inl ⟨e1,e2,?_⟩⟩,q1,ha,S'⟩
  all_goals rcases e3 with e | e <;> rw [e]
  all_goals first
   | rfl
   | (intro s n e' ds; rfl)
   | (exact .inl rfl)
   | (exact .inr rfl)
 ·have hr : rootC (L::pts h0 B) ⟨h0.length,d',0,s,[]⟩ = some (.arr s g.xs.length g.d.sz (ws.map .v)):=by simp [rootC,pts_length,h6]
  have hs : setRoot (L::pts h0 B) ⟨h0.length,d',0,s,[]⟩ .dead = L.set d' (.dead::tl)::pts h0 B:=by simp [setRoot,pts_length,h6]
  have hlay : layC true (L::pts h0 B) g.v = some (.arr s g.xs.length g.d.sz (ws.map .v),L.set d' (.dead::tl)::pts h0 B):=by
   rw [hv]; simp [layC,pts_length,hr,hs]
  have ha1 : AtC (L.set d' (.dead::tl)::pts h0 B) l off cs:=by
   obtain ⟨p,q,hn,hp⟩:=ha
   refine ⟨p,q,?_,hp⟩
   rw [← hs]
   have : (⟨h0.length,d',0,s,[]⟩ : Loc).key ≠ l.key:=Ne.symm (hloc d' hd' s)
   have e:=root_setRoot_ne (h:=L::pts h0 B) (l:=⟨h0.length,d',0,s,[]⟩) (l':=l) (c:=.dead) this
   rw [← hn]
   simp only [nd,at_,e]
  refine ⟨_,ws,_,hlay,key _ _ _ (by rw [hv]; rfl) ?_ hlay ha1,⟨q2,.inr ⟨s,rfl⟩⟩,q1,ha1,dead_ok S' (mem_one hf hd') (.dead::tl)⟩
  intro s' n' e' ds
  rw [hv]
  simp [sameArr,Loc.hop]
 ·exact (noLit_no hD hd).elim
theorem Fm.mvG (S : Fm N h0 B Γ Δ Hp) {i j k d0 : Nat} {s0 σ : Stamp} {cs : List C} {g : Gw} (hk : Δ[k]? = some g) (hD : noLit g.D = true) (hf : freeL g.D Γ (Δ.eraseIdx k) = true) (hi : Γ[i]? = some (d0,s0,cs)) (hf0 : (freeG (Γ.eraseIdx i) d0 && freeD (Δ.eraseIdx k) d0) = true) (hj : (cs[j]?).isSome = true) :
  ∃ c H',stO true 1 σ Hp (.ref ⟨h0.length,d0,0,s0,[]⟩ j) g.v = some H'∧SoC g.d g.xs c∧(∀ v,c = .v v→v = .p (.slice none 0 0) ∨ v = .fz [] 0 g.d.sz true)∧Fm N h0 B (Γ.set i (d0,s0,cs.set j c)) (Δ.eraseIdx k) H':=by
 have hlt : j < cs.length:=by
  obtain ⟨y,hy⟩:=Option.isSome_iff_exists.1 hj
  exact (List.getElem?_eq_some_iff.1 hy).1
 obtain ⟨c,ws,H1,_,e1,o1,o2,a1,S1⟩:=mv_cell (σ:=σ) S hk hD hf (fun d hd s he => by
  have:=mem_one hf hd
  simp only [Bool.and_eq_true] at this
  have:=freeG_ne this.1 (List.mem_of_getElem? hi)
  simp only [Loc.key,Prod.mk.injEq] at he
  exact this he.2.1) (S.atG hi) hlt
 rw [Nat.zero_add] at e1
 refine ⟨c,_,e1,SoC.own o1 o2,fun v hv => ?_,S1.setG hi hf0 (by simp)⟩
 obtain ⟨_,⟨_,_,h | h⟩ | ⟨s,h⟩⟩:=o1 <;> rw [hv] at h <;> cases h <;> simp
theorem Fm.mvB (S : Fm N h0 B Γ Δ Hp) {i j k off : Nat} {l : Loc} {σ : Stamp} {cs : List C} {g : Gw} (hk : Δ[k]? = some g) (hD : noLit g.D = true) (hf : freeL g.D Γ (Δ.eraseIdx k) = true) (hi : B[i]? = some ⟨l,off,cs⟩) (hj : (cs[j]?).isSome = true) :
  ∃ c H',stO true 1 σ Hp (.ref l (off + j)) g.v = some H'∧SoC g.d g.xs c∧(∀ v,c = .v v→v = .p (.slice none 0 0) ∨ v = .fz [] 0 g.d.sz true)∧Fm N h0 (B.set i ⟨l,off,cs.set j c⟩) Γ (Δ.eraseIdx k) H':=by
 have hlt : j < cs.length:=by
  obtain ⟨y,hy⟩:=Option.isSome_iff_exists.1 hj
  exact (List.getElem?_eq_some_iff.1 hy).1
 have hlow : l.lvl < h0.length:=by
  obtain ⟨L,rfl,h2,h3,h4,h5⟩:=S
  have:=(h3.at hi).lt
  rwa [pts_length] at this
 obtain ⟨c,ws,H1,_,e1,o1,o2,a1,S1⟩:=mv_cell (σ:=σ) S hk hD hf (fun d hd s he => by
  simp only [Loc.key,Prod.mk.injEq] at he
  omega) (S.atB hi) hlt
 refine ⟨c,_,e1,SoC.own o1 o2,fun v hv => ?_,S1.setB hi (by simp)⟩
 obtain ⟨_,⟨_,_,h | h⟩ | ⟨s,h⟩⟩:=o1 <;> rw [hv] at h <;> cases h <;> simp
end
end Go.Ev
namespace Go.Ev
def FrC (c : C) (y : V) : Prop:=(c = .v y∧Still y) ∨ ∃ s n k ws,c = .arr s n k (ws.map .v)∧ws.length = n * k∧y = .fz ws n k false
def FrCs : List C→List V→Prop
 | [],[] => True
 | c::cs,y::ys => FrC c y∧FrCs cs ys
 | _,_ => False
theorem FrC.v {x : V} (h : Still x) : FrC (.v x) x:=.inl ⟨rfl,h⟩
theorem SoC.fr {α : Type} {d : Dt α} {xs : List α} {c : C} (h : SoC d xs c) : ∃ y,FrC c y∧SlF d xs y:=by
 rcases h with ⟨v,rfl,hv⟩ | ⟨s,ws,rfl,hl⟩
 ·exact ⟨v,.inl ⟨rfl,hv.still⟩,hv⟩
 ·have hlen:=RL.length (fun h => d.len h) hl
  exact ⟨_,.inr ⟨s,_,_,ws,rfl,hlen,rfl⟩,ws,.fz hlen _,hl⟩
theorem FrC.still {c : C} {y : V} (h : FrC c y) : Still y:=by
 rcases h with ⟨_,h⟩ | ⟨s,n,k,ws,_,_,rfl⟩
 ·exact h
 ·exact still_fz ..
theorem FrCs.len : ∀ {cs : List C} {ys : List V},FrCs cs ys→ys.length = cs.length
 | [],[],_ => rfl
 | c::cs,y::ys,⟨_,h⟩ => by simp [FrCs.len h]
 | [],_::_,h => by cases h
 | _::_,[],h => by cases h
theorem FrCs.stills : ∀ {cs : List C} {ys : List V},FrCs cs ys→Stills ys
 | [],[],_ => sN
 | c::cs,y::ys,⟨h1,h⟩ => sC h1.still (FrCs.stills h)
 | [],_::_,h => by cases h
 | _::_,[],h => by cases h
theorem lay_fr {H : Ev.H} {l : Loc} {pre post : List C} {c : C} {y : V} (hl : l.lvl = top H) (ha : AtC H l 0 (pre ++ c::post)) (hf : FrC c y) : ∃ x,toV l pre.length c = some x∧layC false H x = some (.v y,ptC H l 0 (pre ++ .v y::post)):=by
 have hj : (pre ++ c::post)[pre.length]? = some c:=by simp
 rcases hf with ⟨rfl,hs⟩ | ⟨s,n,k,ws,rfl,hlen,rfl⟩
 ·exact ⟨y,rfl,by rw [ha.same]; exact hs.lay false H⟩
 ·refine ⟨_,rfl,?_⟩
  have h1 : (l.hop pre.length s).lvl = top H:=hl
  have ha0:=ha
  obtain ⟨p,q,hn,hp⟩:=ha
  have hp0 : p = []:=List.length_eq_zero_iff.1 hp
  subst hp0
  rw [List.nil_append] at hn
  have hcell : ((pre ++ C.arr s n k (ws.map C.v)::post) ++ q)[pre.length]? = some (.arr s n k (ws.map .v)):=by simp
  have h2 : at_ H (l.hop pre.length s) = some (.arr s n k (ws.map .v)):=by rw [at_hop,hn]; simp [C.node]
  have h3 : rng ws 0 (n * k) = some ws:=by unfold rng; rw [if_pos (by omega)]; simp [← hlen]
  simp only [layC,h1,h2,Bool.false_eq_true,if_false,if_true,hop_last,true_and,List.length_map,hlen,plainCells_map,Option.bind_some,h3]
  rw [if_neg (by simp [Loc.hop]),setAt_hop hn hcell,ptC_eq (off:=0) (p:=[]) (q:=q) (cs:=pre ++ C.arr s n k (ws.map C.v)::post) hn rfl (by simp)]
  simp
theorem top_pt {H : Ev.H} (l : Loc) (off : Nat) (cs : List C) : top (ptC H l off cs) = top H:=by simp [top,ptC_length]
theorem frz_all {l : Loc} : ∀ {cs : List C} {ys : List V} {H : Ev.H} {pre : List C},l.lvl = top H→AtC H l 0 (pre ++ cs)→FrCs cs ys →
  ∃ xs,toVs l pre.length cs = some xs∧frzCs H xs = some (ys,ptC H l 0 (pre ++ ys.map .v))∧layCs false H xs = some (ys.map .v,ptC H l 0 (pre ++ ys.map .v))
 | [],[],H,pre,hl,ha,_ => ⟨[],rfl,by rw [show pre ++ [].map C.v = pre ++ [] from rfl,ha.same]; rfl,by rw [show pre ++ [].map C.v = pre ++ [] from rfl,ha.same]; rfl⟩
 | c::cs,y::ys,H,pre,hl,ha,⟨h1,h2⟩ => by
  obtain ⟨x,e1,e2⟩:=lay_fr hl ha h1
  have ha2 : AtC (ptC H l 0 (pre ++ .v y::cs)) l 0 ((pre ++ [.v y]) ++ cs):=by
   have:=ha.put (cs':=pre ++ .v y::cs) (by simp)
   simpa using this
  obtain ⟨xs,q1,q2,q3⟩:=frz_all (pre:=pre ++ [.v y]) (by rw [top_pt]; exact hl) ha2 h2
  have hp : ptC (ptC H l 0 (pre ++ .v y::cs)) l 0 (pre ++ [C.v y] ++ ys.map .v) = ptC H l 0 (pre ++ (y::ys).map .v):=by
   rw [ha.put_put (by simp) (by have:=h2.len; simp; omega)]
   simp
  refine ⟨x::xs,?_,?_,?_⟩
  ·simp only [List.length_append,List.length_cons,List.length_nil] at q1
   simp only [toVs,e1,Option.bind_some,q1]
  ·simp only [frzCs,e2,Option.bind_some,q2,Option.map_some]
   rw [hp]
  ·simp only [layCs,e2,Option.bind_some,q3]
   rw [hp]; rfl
 | [],_::_,_,_,_,_,h => by cases h
 | _::_,[],_,_,_,_,h => by cases h
section
variable {N : Nat} {h0 Hp : H} {B : List Rt} {Γ : List (Nat × Stamp × List C)} {Δ : List Gw}
theorem Fm.frzV (S : Fm N h0 B Γ Δ Hp) {i d n : Nat} {s : Stamp} {cs : List C} {ys : List V} (hi : Γ[i]? = some (d,s,cs)) (hf : (freeG (Γ.eraseIdx i) d && freeD Δ d) = true) (hy : FrCs cs ys) (hn : ys.length = n) (_ : 0 < n) :
  ∃ xs H',xs.length = ys.length∧ldO true n Hp (.ref ⟨h0.length,d,0,s,[]⟩ 0) = some (.agg xs)∧(∀ frz τ,expF frz τ Hp (.agg xs) = some (.v (.agg ys),H'))∧layCs false Hp xs = some (ys.map .v,H')∧Fm N h0 B (Γ.set i (d,s,ys.map .v)) Δ H':=by
 have ha:=S.atG hi
 have hl : (⟨h0.length,d,0,s,[]⟩ : Loc).lvl = top Hp:=by simp [top,S.len]
 have hlen:=hy.len
 obtain ⟨xs,e1,e2,e3⟩:=frz_all (pre:=[]) hl (by simpa using ha) hy
 refine ⟨xs,_,by rw [toVs_length e1,hlen],?_,?_,e3,by simpa using S.setG (cs':=ys.map .v) hi hf (by simp [hlen])⟩
 ·have:=ha.ldAgg (j:=0) (n:=n) (agg:=true) (xs:=xs) (by omega) (by rw [List.drop_zero,List.take_of_length_le (by omega)]; exact e1)
  simpa [mkV] using this
 ·intro frz τ
  cases frz <;> simp [expF,expC,e2]
end
end Go.Ev
namespace Go.Ev
section
variable {N : Nat} {h0 Hp : H} {B : List Rt} {Γ : List (Nat × Stamp × List C)} {Δ : List Gw}
end
end Go.Ev
namespace Go.Ev
section
variable {N : Nat} {h0 Hp : H} {B : List Rt} {Γ : List (Nat × Stamp × List C)} {Δ : List Gw}
theorem Fm.stFrz {H : Ev.H} (S : Fm N h0 B Γ Δ Hp) {i d j n : Nat} {s σ : Stamp} {cs cs0 : List C} {B0 : List Rt} {Γ0 : List (Nat × Stamp × List C)} {Δ0 : List Gw} {i0 : Nat} {xs ys : List V} (S0 : Fm N h0 B0 Γ0 Δ0 H) (hi0 : Γ0[i0]? = some (d,s,cs0)) (hl : layCs false H xs = some (ys.map .v,Hp)) (hi : Γ[i]? = some (d,s,cs)) (hf : (freeG (Γ.eraseIdx i) d && freeD Δ d) = true) (hx : xs.length = ys.length) (hn : ys.length = n) (hj : decide (j + n ≤ cs.length) = true) :
  ∃ H',stO false n σ H (.ref ⟨h0.length,d,0,s,[]⟩ j) (.agg xs) = some H'∧Fm N h0 B (Γ.set i (d,s,cs.take j ++ ys.map .v ++ cs.drop (j + n))) Δ H':=by
 have hj:=of_decide_eq_true hj
 obtain ⟨p0,q0,hn0,hp0⟩:=S0.atG hi0
 have ha:=S.atG hi
 have h00 : p0 = []:=List.length_eq_zero_iff.1 hp0
 subst h00
 obtain ⟨p,q,hn1,hp⟩:=ha
 have h01 : p = []:=List.length_eq_zero_iff.1 hp
 subst h01
 refine ⟨_,?_,S.setG (cs':=cs.take j ++ ys.map .v ++ cs.drop (j + n)) hi hf (by simp; omega)⟩
 unfold stO
 have hsm : sameArr ⟨h0.length,d,0,s,[]⟩ j ([] ++ cs0 ++ q0)[j]? (.agg xs) = false:=same_no (by simp)
 have hc : (V.agg xs).cells = xs:=rfl
 simp only [hc,hx,hn,hn0,hsm,hl,Option.bind_some,hn1,List.length_map]
 simp only [Bool.not_true,Bool.false_or,bne_self_eq_false,Bool.false_eq_true,if_false]
 rw [if_pos (by simp; omega),ptC_eq (off:=0) hn1 rfl (by simp; omega)]
 simp only [List.nil_append]
 rw [List.take_append_of_le_length (by omega),List.drop_append_of_le_length (by omega)]
 simp
end
end Go.Ev
namespace Go.Ev
def andL : List Bool→Option Bool
 | [] => some true
 | b::bs => (some b).bind fun r => if r = true then andL bs else some false
def andB : List Bool→Bool
 | [] => true
 | b::bs => b && andB bs
theorem andL_ok : ∀ bs : List Bool,andL bs = some (andB bs)
 | [] => rfl
 | b::bs => by cases b <;> simp [andL,andB,andL_ok bs]
theorem eqS_v {P : Program} {h : H} {t : TypeId} {xs ys : List V} {b : Bool} (hb : flatE P t xs ys = some b) : eqlV P h t (.agg xs) (.agg ys) = some b:=by
 have hb0:=hb
 unfold flatE at hb
 split at hb
 ·rename_i fs hu
  simp only [eqlV,hu,hb0]
 ·rename_i n e hu
  simp only [eqlV,hu,hb0]
 ·cases hb
theorem nqS_ok {P : Program} {h : H} {t : TypeId} {xs ys : List V} {bs : List Bool} (hb : flatE P t xs ys = andL bs) : binV P h .neq t (.agg xs) (.agg ys) = some (.p (.bool !(andB bs))):=by
 show (eqlV P h t (.agg xs) (.agg ys)).map _ = _
 rw [eqS_v (hb.trans (andL_ok bs))]; rfl
end Go.Ev
namespace Go.Ev
theorem frz_of_lay : ∀ {xs ys : List V} {H H' : Ev.H},layCs false H xs = some (ys.map C.v,H')→frzCs H xs = some (ys,H')
 | [],ys,H,H',h => by
  simp only [layCs,Option.some.injEq,Prod.mk.injEq] at h
  obtain ⟨h1,rfl⟩:=h
  have : ys = []:=by cases ys with | nil => rfl | cons y ys => cases h1
  subst this; rfl
 | x::xs,ys,H,H',h => by
  simp only [layCs] at h
  obtain ⟨⟨c,H1⟩,h1,h2⟩:=Option.bind_eq_some_iff.1 h
  obtain ⟨⟨cs,H2⟩,h3,h4⟩:=Option.bind_eq_some_iff.1 h2
  simp only [Option.some.injEq,Prod.mk.injEq] at h4
  obtain ⟨h4,rfl⟩:=h4
  cases ys with
  | nil => cases h4
  | cons y ys =>
   simp only [List.map_cons,List.cons.injEq] at h4
   obtain ⟨rfl,rfl⟩:=h4
   simp only [frzCs,h1,Option.bind_some,frz_of_lay h3,Option.map_some]
section
variable {N : Nat} {h0 Hp : H} {B : List Rt} {Γ : List (Nat × Stamp × List C)} {Δ : List Gw}
theorem Fm.cellsD (S : Fm N h0 B Γ Δ Hp) {i : Nat} {g : Gw} (hi : Δ[i]? = some g) : g.v.cells = [g.v]:=by
 obtain ⟨L,rfl,h2,h3,h4,h5⟩:=S
 obtain ⟨cs,q1,q2⟩:=h5 g (List.mem_of_getElem? hi)
 rcases q2 with ⟨e1,e2,e3⟩ | ⟨q2,d',hd',s,tl,hv,h6⟩ | ⟨hv,q2,_⟩
 ·rcases e3 with e | e <;> rw [e] <;> rfl
 ·rw [hv]; rfl
 ·rw [hv]; rfl
theorem Fm.layD (S : Fm N h0 B Γ Δ Hp) {i : Nat} {g : Gw} (hi : Δ[i]? = some g) (hf : freeL g.D Γ (Δ.eraseIdx i) = true) : ∃ y H',layC false Hp g.v = some (.v y,H')∧SlF g.d g.xs y∧Fm N h0 B Γ (Δ.eraseIdx i) H':=by
 have S' : Fm N h0 B Γ (Δ.eraseIdx i) Hp:=S.wk (fun _ h => h) (fun _ h => mem_erase h)
 obtain ⟨L,rfl,h2,h3,h4,h5⟩:=S
 obtain ⟨cs,q1,q2⟩:=h5 g (List.mem_of_getElem? hi)
 rw [← pts_length B] at q2
 rcases q2 with ⟨e1,e2,e3⟩ | ⟨q2,d',hd',s,tl,hv,h6⟩ | ⟨hv,q2,_⟩
 ·refine ⟨g.v,_,?_,⟨cs,?_,q1⟩,S'⟩
  ·rcases e3 with e | e <;> rw [e]
   ·exact still_nilS.lay ..
   ·exact (still_fz ..).lay ..
  ·rw [e1,e2]
   rcases e3 with e | e <;> rw [e]
   ·exact .nil _
   ·exact .fz (by simp) _
 ·refine ⟨.fz cs g.xs.length g.d.sz false,_,?_,⟨cs,.fz q2 _,q1⟩,dead_ok S' (mem_one hf hd') (.dead::tl)⟩
  have h1 : at_ (L::pts h0 B) ⟨(pts h0 B).length,d',0,s,[]⟩ = some (.arr s g.xs.length g.d.sz (cs.map .v)):=at_root h6 (by simp [C.node])
  have h7:=setAt_root (h:=pts h0 B) (s:=s) h6 .dead
  have h8 : rng cs 0 (g.xs.length * g.d.sz) = some cs:=by unfold rng; rw [if_pos (by omega)]; simp [← q2]
  rw [hv]
  simp [layC,h1,h7,h8,plainCells_map,Loc.last,q2]
 ·exact ⟨g.v,_,by rw [hv]; exact (still_fz ..).lay ..,⟨cs,by rw [hv]; exact .fz q2 _,q1⟩,S'⟩
end
end Go.Ev
namespace Go.Ev
section
variable {h : H} {l : Loc} {off j n : Nat} {cs : List C} {α : Type} {xs : List α} {f : α→V}
end
section
variable {N : Nat} {h0 Hp : H} {B : List Rt} {Γ : List (Nat × Stamp × List C)} {Δ : List Gw}
end
end Go.Ev
namespace Go.Ev
theorem rl_val {t : DT} {α : Type} {d : Dt α} (f : t.D→α) (hc : ∀ x,d.R (f x) (t.cells x)) : ∀ l : List t.D,d.L (l.map f) (l.flatMap t.cells)
 | [] => RL.nil
 | x::l => by
  rw [List.map_cons,List.flatMap_cons]
  exact RL.cons (hc x) (rl_val f hc l)
theorem slF_val {b : Nat} {t : DT} {α : Type} {d : Dt α} (f : t.D→α) (hc : ∀ x,d.R (f x) (t.cells x)) (hz : d.sz = t.size) (x : Option (List t.D)) : SlF d ((x.getD []).map f) ((DT.slice b t).val x):=by
 refine ⟨(x.getD []).flatMap t.cells,?_,rl_val f hc _⟩
 rw [hz,List.length_map]
 exact fun h => isSl_val x h
theorem slF_ints {b : Nat} {k : IntKind} (x : Option (List Int)) : SlF (dI k) (x.getD []) ((DT.slice b (.int k)).val x):=by
 have:=slF_val (b:=b) (t:=.int k) (d:=dI k) (fun x => x) (fun x => rfl) rfl x
 rwa [List.map_id'] at this
theorem frzAs_nil {h : H} : frzAs h [] = some ([],h):=rfl
theorem frzAs_cons {h h1 h2 : H} {x y : V} {xs ys : List V} (a : frzA h x = some (y,h1)) (b : frzAs h1 xs = some (ys,h2)) : frzAs h (x::xs) = some (y::ys,h2):=by
 simp only [frzAs,a,Option.bind_some,b,Option.map_some]
theorem callFO_eq {rec : CallF} {f : FuncId} {σ : Stamp} {args args' : List V} {H H' : Go.Ev.H} {d : Option Nat} (e : frzAs H args = some (args',H')) : callFO rec f σ args H d = callO rec f σ args' H' d:=by
 unfold callFO callO; rw [e]; rfl
def zB (n : Int) : Option (List Int):=if 0 ≤ n∧n < 2 ^ 40 then some (List.replicate n.toNat 0) else none
theorem bytesS_zeros (n : Nat) : bytesS (zerosB n) = List.replicate n 0:=by
 unfold bytesS zerosB
 simp
theorem Fm.appZ {N : Nat} {h0 Hp : H} {B : List Rt} {Γ : List (Nat × Stamp × List C)} {Δ : List Gw} (S : Fm N h0 B Γ Δ Hp) {i d : Nat} {D : List Nat} {v0 : V} {xs : List Int} {own : Bool} {σ : Stamp} {n : Int} {ys zs : List Int} (hi : Δ[i]? = some ⟨D,v0,dI .u8,xs⟩) (hn : zB n = some ys) (hz : ap 1 xs ys = some zs) (hd : d < N) (hf : freeL (d::D) Γ (Δ.eraseIdx i) = true) :
  ∃ v H',apZ own 1 1 σ d Hp v0 n = some (v,H')∧Fm N h0 B Γ (Δ.set i ⟨d::D,v,dI .u8,zs⟩) H':=by
 unfold zB at hn
 split at hn
 ·rename_i hc
  cases hn
  rw [← bytesS_zeros] at hz
  obtain ⟨v,H',e,S'⟩:=S.app (own:=own) (σ:=σ) (e:=1) hi (ysS Hp (zerosB n.toNat)) hz rfl (by decide) hd hf
  refine ⟨v,H',?_,S'⟩
  have hl : (lenOf v0).getD 0 < 2 ^ 60:=by
   obtain ⟨cs,h1,_⟩:=(S.sl hi)
   have h2 : lenOf v0 = some xs.length:=h1.ys.len
   have:=(ap_some hz).1.1
   rw [h2]
   show xs.length < 2 ^ 60
   omega
  unfold apZ
  rw [if_pos ⟨hc.1,hc.2,hl⟩]
  exact e
 ·cases hn
end Go.Ev
namespace Go.Ev
theorem ix_at {α : Type} {xs : List α} {i : Nat} {x : α} (h : xs[i]? = some x) : ix xs (i : Int) = some x:=by
 unfold ix; rw [if_pos (by omega)]; simpa using h
theorem ix_mid {α : Type} {xs ys : List α} {x : α} : ix (xs ++ x::ys) (xs.length : Int) = some x:=ix_at (by simp)
theorem ix_mid' {α : Type} {l xs ys : List α} {x : α} {i : Int} (hl : l = xs ++ x::ys) (hi : i = xs.length) : ix l i = some x:=by subst hl; subst hi; exact ix_mid
theorem ap_eq {α : Type} {b : Nat} {xs ys : List α} (hb : b ≤ 64) (h : xs.length + ys.length < 2 ^ 40) : ap b xs ys = some (xs ++ ys):=by
 unfold ap
 refine if_pos ⟨?_,by omega⟩
 have : (xs.length + ys.length) * b ≤ (xs.length + ys.length) * 64:=Nat.mul_le_mul_left _ hb
 omega
theorem clone_eq {α : Type} {b : Nat} {xs : List α} (hb : b ≤ 64) (h : xs.length < 2 ^ 40) : p_clone b xs = some xs:=by
 unfold p_clone; rw [ap_eq hb (by simpa using h)]; rfl
theorem sub_eq {α : Type} {xs : List α} {a n : Nat} (h : a + n ≤ xs.length) : sub xs (a : Int) ((a + n : Nat) : Int) = some ((xs.drop a).take n):=by
 unfold sub
 rw [if_pos ⟨by omega,by omega,by omega⟩]
 congr 2
 omega
theorem wrap_i64 {n : Int} (h1 : -9223372036854775808 ≤ n) (h2 : n < 9223372036854775808) : IntKind.wrap .i64 n = n:=wrap64 h1 h2
theorem wrap_u8 {n : Int} (h1 : 0 ≤ n) (h2 : n < 256) : IntKind.wrap .u8 n = n:=by
 simp only [IntKind.wrap,IntKind.signed,IntKind.bits]
 simp
 omega
end Go.Ev
namespace Go.Ev
def OwnA {α : Type} (D : List Nat) (h : H) (dt : Dt α) (xs : List α) (v : V) : Prop:=∃ cs L h1,h = L::h1∧dt.L xs cs∧GrowS D L h1.length v dt.sz xs.length cs
def KillA (D : List Nat) (h h' : H) : Prop:=∃ L L' h1,h = L::h1∧h' = L'::h1∧L'.length = L.length∧∀ j,j ∉ D→L'[j]? = L[j]?
theorem OwnA.h {α : Type} {D : List Nat} {h : H} {dt : Dt α} {xs : List α} {v : V} (ho : OwnA D h dt xs v) : SlH h dt xs v:=by
 obtain ⟨cs,L,h1,rfl,hl,hg⟩:=ho
 exact ⟨cs,hg.sl,hl⟩
theorem OwnA.refl {α : Type} {D : List Nat} {h : H} {dt : Dt α} {xs : List α} {v : V} (ho : OwnA D h dt xs v) : KillA D h h:=by
 obtain ⟨cs,L,h1,rfl,_,_⟩:=ho
 exact ⟨L,L,h1,rfl,rfl,rfl,fun _ _ => rfl⟩
theorem GrowS.appUp {D : List Nat} {L U : Layer} {h : H} {v : V} {k n : Nat} {xs : List V} (ha : GrowS D L h.length v k n xs) {own : Bool} {b d m : Nat} {σ : Stamp} {y : V} {ys : List V} (hd : d < U.length) (hy : Ys (U::L::h) y k m ys) (hs : Stills ys) (hk : k ≠ 0) (hm : m ≠ 0) (hb : (n + m) * b ≤ 2 ^ 47) (hb2 : n + m < 2 ^ 61) :
  ∃ v' U' L',apO own k b σ d (U::L::h) v y = some (v',U'::L'::h)∧GrowS [d] U' (h.length + 1) v' k (n + m) (xs ++ ys)∧U'.length = U.length∧L'.length = L.length∧∀ j,j ∉ D→L'[j]? = L[j]?:=by
 have hcl:=hy.clen
 have base : ∀ x,apO own k b σ d (U::L::h) x y = apTo k b σ d (U::L::h) m (ys.map .v) x:=fun x => by
  unfold apO
  rw [hy.len,hy.cells]
  simp only [Option.bind_some]
  rw [if_neg (by simp [hcl,hk]),if_neg hm,layCs_still own _ hs]
  rfl
 have nl : newLoc (U::L::h) d σ = ⟨h.length + 1,d,0,σ,[]⟩:=by simp [newLoc,top]
 rcases ha with ⟨rfl,rfl,rfl | rfl⟩ | ⟨h2,d',hd',s,tl,rfl,h3⟩ | ⟨rfl,h2,h3,_⟩
 ·refine ⟨_,U.set d [.arr σ m k (ys.map .v)],L,?_,.inr (.inl ⟨by simpa using hcl,d,List.mem_cons_self ..,σ,[],by rw [Nat.zero_add],by simp [hd]⟩),by simp,rfl,fun j hj => rfl⟩
  rw [base,apTo,if_pos ⟨by simpa using hb,by simpa using hb2⟩,nl]; rfl
 ·refine ⟨_,U.set d [.arr σ (0 + m) k (ys.map .v)],L,?_,.inr (.inl ⟨by simpa using hcl,d,List.mem_cons_self ..,σ,[],rfl,by simp [hd]⟩),by simp,rfl,fun j hj => rfl⟩
  rw [base,apTo,if_pos ⟨rfl,rfl,by simp,by simpa using hb,by simpa using hb2,by simp⟩,nl]; rfl
 ·have hnd : nd (U::L::h) ⟨h.length,d',0,s,[]⟩ = some (xs.map .v):=by
   have : nd (L::h) ⟨h.length,d',0,s,[]⟩ = some (xs.map .v):=nd_arr h3
   simp only [nd,at_,rootC] at this ⊢
   rw [if_neg (by simp)]
   exact this
  have hset : setAt (U::L::h) ⟨h.length,d',0,s,[]⟩ .dead = U::L.set d' (.dead::tl)::h:=by
   have h2 : rootC (U::L::h) ⟨h.length,d',0,s,[]⟩ = some (.arr s n k (xs.map .v)):=by simp [rootC,h3]
   simp [setAt,h2,repl,setRoot,h3]
  refine ⟨_,U.set d [.arr σ (n + m) k (xs.map .v ++ ys.map .v)],L.set d' (.dead::tl),?_,.inr (.inl ⟨by rw [List.length_append,h2,hcl,Nat.add_mul],d,List.mem_cons_self ..,σ,[],rfl,by simp [hd]⟩),by simp,by simp,fun j hj => ?_⟩
  ·rw [base,apTo,if_neg (by simp),hnd]
   simp only [Option.bind_some]
   rw [if_neg (by omega),if_pos ⟨trivial,by simpa using h2,hb,hb2⟩,hset,nl]
   rfl
  ·rw [List.getElem?_set_ne (fun e => hj (by rw [← e]; exact hd'))]
 ·refine ⟨_,U.set d [.arr σ (n + m) k (xs.map .v ++ ys.map .v)],L,?_,.inr (.inl ⟨by rw [List.length_append,h2,hcl,Nat.add_mul],d,List.mem_cons_self ..,σ,[],rfl,by simp [hd]⟩),by simp,rfl,fun j hj => rfl⟩
  rw [base,apTo,if_pos ⟨rfl,rfl,h2,hb,hb2,Still.leafs h3⟩,nl]; rfl
theorem Fm.appA {N : Nat} {h Hp : H} (S : Fm N h [] [] [] Hp) {α : Type} {dt : Dt α} {D : List Nat} {d b e : Nat} {x : V} {xs ys zs : List α} {own : Bool} {σ : Stamp} {y : V} (ho : OwnA D h dt xs x) (hy : YsH Hp dt ys y) (hz : ap b xs ys = some zs) (he : dt.sz = e) (hk : e ≠ 0) (hm : ys.length ≠ 0) (hd : d < N) :
  ∃ v h' H',apO own e b σ d Hp x y = some (v,H')∧KillA D h h'∧Fm N h' [] [] [⟨[d],v,dt,zs⟩] H':=by
 subst he
 obtain ⟨⟨hb1,hb2⟩,rfl⟩:=ap_some hz
 obtain ⟨cs,L,h1,rfl,hl,hg⟩:=ho
 obtain ⟨U,rfl,h2,h3,h4,h5⟩:=S
 obtain ⟨ds,r1,r2⟩:=hy
 obtain ⟨v',U',L',e1,e2,e3,e4,e5⟩:=hg.appUp (U:=U) (own:=own) (σ:=σ) (d:=d) (by omega) r1 (RL.stills r2) hk hm hb1 hb2
 refine ⟨v',L'::h1,_,e1,⟨L,L',h1,rfl,rfl,e4,e5⟩,U',rfl,by omega,trivial,by simp,fun g hg' => ?_⟩
 rcases List.mem_cons.1 hg' with rfl | hg'
 ·exact ⟨cs ++ ds,hl.append r2,by simpa using e2⟩
 ·cases hg'
theorem Fm.ownA {N : Nat} {h0 Hp : H} {B : List Rt} {Γ : List (Nat × Stamp × List C)} {Δ : List Gw} (S : Fm N h0 B Γ Δ Hp) {i : Nat} {g : Gw} (hi : Δ[i]? = some g) : OwnA g.D Hp g.d g.xs g.v:=by
 obtain ⟨L,rfl,h2,h3,h4,h5⟩:=S
 obtain ⟨cs,q1,q2⟩:=h5 g (List.mem_of_getElem? hi)
 exact ⟨cs,L,_,rfl,q1,by rw [pts_length]; exact q2⟩
theorem Fm.killA {N : Nat} {h0 Hp Hp' : H} {B : List Rt} {Γ : List (Nat × Stamp × List C)} {Δ : List Gw} (S : Fm N h0 B Γ Δ Hp) {i : Nat} {g : Gw} (_ : Δ[i]? = some g) (hf : freeL g.D Γ (Δ.eraseIdx i) = true) (hk : KillA g.D Hp Hp') : Fm N h0 B Γ (Δ.eraseIdx i) Hp':=by
 obtain ⟨L,rfl,h2,h3,h4,h5⟩:=S
 obtain ⟨L0,L',h1,e1,rfl,e3,e4⟩:=hk
 simp only [List.cons.injEq] at e1
 obtain ⟨rfl,rfl⟩:=e1
 have hfr:=List.all_eq_true.1 hf
 refine ⟨L',rfl,by omega,h3,fun e he => ?_,fun g' hg' => ?_⟩
 ·rw [e4 _ fun hm => ?_]
  ·exact h4 e he
  ·have:=hfr _ hm
   simp only [Bool.and_eq_true] at this
   exact freeG_ne this.1 he rfl
 ·exact (h5 g' (mem_erase hg')).frame fun x hx => e4 x fun hm => by
   have:=hfr _ hm
   simp only [Bool.and_eq_true] at this
   exact freeD_ne this.2 hg' hx
theorem frzCs_nil {h : H} : frzCs h [] = some ([],h):=rfl
theorem frzCs_cons {h h1 h2 : H} {x y : V} {xs ys : List V} (a : layC false h x = some (.v y,h1)) (b : frzCs h1 xs = some (ys,h2)) : frzCs h (x::xs) = some (y::ys,h2):=by
 simp only [frzCs,a,Option.bind_some,b,Option.map_some]
theorem frzA_fz {h h' : H} {xs ys : List V} {n k : Nat} {t : Bool} (e : frzCs h xs = some (ys,h')) : frzA h (.fz xs n k t) = some (.fz ys n k t,h'):=by
 simp only [frzA,e,Option.map_some]
theorem frzA_agg {h : H} {xs : List V} (hx : Stills xs) : frzA h (.agg xs) = some (.agg xs,h):=by simp only [frzA,frzCs_still h hx,Option.map_some]
theorem frzA_aggL {h h' : H} {xs ys : List V} (e : frzCs h xs = some (ys,h')) : frzA h (.agg xs) = some (.agg ys,h'):=by simp only [frzA,e,Option.map_some]
theorem GrowS.copy {D : List Nat} {L : Layer} {h : H} {v : V} {k n : Nat} {xs : List V} (ha : GrowS D L h.length v k n xs) (hD : noLit D = true) {a b m : Nat} (hab : a ≤ b) (hb : b ≤ n) {y : V} {ys : List V} (hy : IsSl (L::h) y k m ys) (hs : Stills ys) :
  ∃ L',cpO k (L::h) (subV k v a b) y = some (.p (.int .i64 ((min m (b - a) : Nat) : Int)),L'::h)∧GrowS D L' h.length v k n (xs.take (a * k) ++ ys.take (min m (b - a) * k) ++ xs.drop (a * k + min m (b - a) * k))∧L'.length = L.length∧∀ j,j ∉ D→L'[j]? = L[j]?:=by
 have hyl:=hy.clen
 by_cases h0 : min m (b - a) = 0
 ·refine ⟨L,?_,?_,rfl,fun j _ => rfl⟩
  ·have h1:=(ha.sl.sub hab hb).len
   have hsl : isSl (subV k v a b) = true:=by
    rcases ha with ⟨_,_,rfl | rfl⟩ | ⟨_,_,_,_,_,rfl,_⟩ | ⟨rfl,_⟩ <;> rfl
   unfold cpO
   rw [h1,Option.bind_some,hy.len,Option.bind_some,hy.cells,Option.bind_some,if_neg (by rw [hyl]; simp),if_neg (by rw [hsl]; simp),if_pos h0,h0]
   rfl
  ·rw [h0,Nat.zero_mul,List.take_zero,List.append_nil,Nat.add_zero,List.take_append_drop]
   exact ha
 ·rcases ha with ⟨rfl,_,_⟩ | ⟨h2,d',hd',s,tl,rfl,h3⟩ | ⟨_,_,_,hd⟩
  ·omega
  ·generalize hq : min m (b - a) = q at h0 ⊢
   have hlt:=(List.getElem?_eq_some_iff.1 h3).1
   have hqk : q * k ≤ m * k:=Nat.mul_le_mul_right _ (by omega)
   have hqb : a * k + q * k ≤ n * k:=by rw [← Nat.add_mul]; exact Nat.mul_le_mul_right _ (by omega)
   have hyt : (ys.take (q * k)).length = q * k:=by rw [List.length_take,hyl]; omega
   have hst : Stills (ys.take (q * k)):=fun x hx => hs x (List.mem_of_mem_take hx)
   have hlen : (xs.take (a * k) ++ ys.take (q * k) ++ xs.drop (a * k + q * k)).length = n * k:=by
    rw [List.length_append,List.length_append,hyt,List.length_take,List.length_drop]; omega
   refine ⟨L.set d' (.arr s n k ((xs.take (a * k) ++ ys.take (q * k) ++ xs.drop (a * k + q * k)).map .v)::tl),?_,.inr (.inl ⟨hlen,d',hd',s,tl,rfl,by simp [hlt]⟩),by simp,fun j hj => ?_⟩
   ·unfold cpO
    rw [subV,hy.len,hy.cells]
    simp only [lenOf,Option.bind_some]
    rw [if_neg (by rw [hyl]; simp),if_neg (by simp [isSl]),if_neg (by rw [hq]; exact h0),if_pos (by simp [eszIs]),hq]
    simp only [cpO.ovO]
    rw [if_neg (by rw [hyt]; omega),layCs_still true (L::h) hst,Option.bind_some,nd_arr h3,Option.bind_some]
    simp only [List.length_map,hyt]
    rw [if_pos (by omega),setNd_arr h3,Option.map_some]
    simp [List.map_take,List.map_drop]
   ·rw [List.getElem?_set_ne (fun e => hj (by rw [← e]; exact hd'))]
  ·exact (noLit_no hD hd).elim
theorem SlF.int1 (k : IntKind) (n : Int) : SlF (dI k) [n] (.fz [.p (.int k n)] 1 1 true):=SlF.lit (cs:=[.p (.int k n)]) (RL.cons (show (dI k).R n [.p (.int k n)] from rfl) RL.nil) rfl rfl true
abbrev vOf {α : Type} {d : Dt α} {xs : List α} {v : V} (_ : SlF d xs v) : V:=v
section
variable {β α γ δ : Type} {Q : β→α→Prop} {x : Option β} {K : δ→Option α}
theorem Sim.ci {k : IntKind} {n : Int} {f : Int→Option δ} (s : Sim x ((f n).bind K) Q) : Sim x (((castI k (.p (.int k n))).bind f).bind K) Q:=Sim.op (castI_p _ _) s
theorem Sim.ab {b : Bool} {f : Bool→Option δ} (s : Sim x ((f b).bind K) Q) : Sim x (((asB (.p (.bool b))).bind f).bind K) Q:=Sim.op (asB_p _) s
theorem Sim.nc {l : Loc} {o : Nat} {f : V→Option δ} (s : Sim x ((f (.ref l o)).bind K) Q) : Sim x (((nilChk (.ref l o)).bind f).bind K) Q:=Sim.op (nilChk_ref _ _) s
theorem Sim.fa {l : Loc} {o k : Nat} {f : V→Option δ} (s : Sim x ((f (.ref l (o + k))).bind K) Q) : Sim x (((fA (.ref l o) k).bind f).bind K) Q:=Sim.op (fA_ref _ _ _) s
theorem Sim.or {v : γ} {g : γ→Option δ} (s : Sim x ((g v).bind K) Q) : Sim x (((some v).bind g).bind K) Q:=s
theorem Sim.cq {c : Bool} {a b : Option β} {A B : Option δ} (s : Sim a (A.bind K) Q) (t : Sim b (B.bind K) Q) : Sim (bif c then a else b) ((bif c then A else B).bind K) Q:=Sim.cd (fun _ => s) (fun _ => t)
end
theorem lz2 {α : Type} {x y a : α} {i : Int} (h : ix [x,y] i = some a) : (i = ((0 : Nat) : Int)∧a = x) ∨ (i = ((1 : Nat) : Int)∧a = y):=by
 obtain ⟨h0,hlt,rfl⟩:=ix_some h
 have : i.toNat = 0 ∨ i.toNat = 1:=by simp only [List.length_cons,List.length_nil] at hlt; omega
 rcases this with e | e
 ·left; simp only [e]; exact ⟨by omega,rfl⟩
 ·right; simp only [e]; exact ⟨by omega,rfl⟩
theorem lz_iS {vs : List V} {n m : Nat} {t : Bool} {i : Int} (hi : i = (m : Int)) (hm : m < n) : Go.Ev.iS 1 (.fz vs n 1 t) i = some (.fzp (vs.drop m)):=by
 subst hi
 simp [Go.Ev.iS,hm]
abbrev Nn (c : C) (k : Nat) : Prop:=∀ v,c = .v v→v = .p (.slice none 0 0) ∨ v = .fz [] 0 k true
end Go.Ev
namespace Go.Ev
set_option linter.unusedVariables false
structure TzTape where
 f_L : (List Int)
 f_At : Int
def TzTape.tp (x : TzTape) : ((List Int) × (Int × Unit)):=(x.f_L,(x.f_At,()))
def dTzTape : Dt TzTape:=(dP (dSl (dI .i64)) (dP (dI .i64) dU)).via TzTape.tp
theorem dTzTape.inv {x : TzTape} {vs : List V} (h : dTzTape.R x vs) : ∃ v0,vs = [v0,.p (.int .i64 x.f_At)]∧SlF (dI .i64) x.f_L v0:=by
 obtain ⟨u0,w0,e0,h0,u1,w1,e1,h1,hend⟩:=h
 obtain ⟨v0,rfl,s0⟩:=h0
 obtain rfl : u1 = [.p (.int .i64 x.f_At)]:=h1
 obtain rfl:=(show _ = [] from hend)
 subst e1
 subst e0
 exact ⟨v0,rfl,s0⟩
theorem dTzTape.mk {y_f_L : (List Int)} {y_f_At : Int} {v0 : V} (s0 : SlF (dI .i64) y_f_L v0) : dTzTape.R (⟨y_f_L,y_f_At⟩ : TzTape) [v0,.p (.int .i64 y_f_At)]:=⟨[v0],[.p (.int .i64 y_f_At)],rfl,⟨v0,rfl,s0⟩,⟨[.p (.int .i64 y_f_At)],[],rfl,rfl,rfl⟩⟩
structure TaiLayer where
 Rid : ByteArray
 Ssrc : Int
 Height : Int
def TaiLayer.tp (x : TaiLayer) : (ByteArray × (Int × (Int × Unit))):=(x.Rid,(x.Ssrc,(x.Height,())))
def dTaiLayer : Dt TaiLayer:=(dP dS (dP (dI .u32) (dP (dI .i64) dU))).via TaiLayer.tp
theorem dTaiLayer.inv {x : TaiLayer} {vs : List V} (h : dTaiLayer.R x vs) : vs = [.p (.string x.Rid),.p (.int .u32 x.Ssrc),.p (.int .i64 x.Height)]:=by
 obtain ⟨u0,w0,e0,h0,u1,w1,e1,h1,u2,w2,e2,h2,hend⟩:=h
 obtain rfl : u0 = [.p (.string x.Rid)]:=h0
 obtain rfl : u1 = [.p (.int .u32 x.Ssrc)]:=h1
 obtain rfl : u2 = [.p (.int .i64 x.Height)]:=h2
 obtain rfl:=(show _ = [] from hend)
 subst e2
 subst e1
 subst e0
 rfl
theorem dTaiLayer.mk {y_Rid : ByteArray} {y_Ssrc : Int} {y_Height : Int}  : dTaiLayer.R (⟨y_Rid,y_Ssrc,y_Height⟩ : TaiLayer) [.p (.string y_Rid),.p (.int .u32 y_Ssrc),.p (.int .i64 y_Height)]:=⟨[.p (.string y_Rid)],[.p (.int .u32 y_Ssrc),.p (.int .i64 y_Height)],rfl,rfl,⟨[.p (.int .u32 y_Ssrc)],[.p (.int .i64 y_Height)],rfl,rfl,⟨[.p (.int .i64 y_Height)],[],rfl,rfl,rfl⟩⟩⟩
structure TaiCtl where
 Kind : Int
 Cap : Int
 Layers : (List TaiLayer)
 Peer : Int
 Height : Int
 Class : Int
 Layer : Int
 Code : Int
def TaiCtl.tp (x : TaiCtl) : (Int × (Int × ((List TaiLayer) × (Int × (Int × (Int × (Int × (Int × Unit)))))))):=(x.Kind,(x.Cap,(x.Layers,(x.Peer,(x.Height,(x.Class,(x.Layer,(x.Code,()))))))))
def dTaiCtl : Dt TaiCtl:=(dP (dI .i64) (dP (dI .i64) (dP (dSl dTaiLayer) (dP (dI .i64) (dP (dI .i64) (dP (dI .i64) (dP (dI .i64) (dP (dI .i64) dU)))))))).via TaiCtl.tp
theorem dTaiCtl.inv {x : TaiCtl} {vs : List V} (h : dTaiCtl.R x vs) : ∃ v2,vs = [.p (.int .i64 x.Kind),.p (.int .i64 x.Cap),v2,.p (.int .i64 x.Peer),.p (.int .i64 x.Height),.p (.int .i64 x.Class),.p (.int .i64 x.Layer),.p (.int .i64 x.Code)]∧SlF dTaiLayer x.Layers v2:=by
 obtain ⟨u0,w0,e0,h0,u1,w1,e1,h1,u2,w2,e2,h2,u3,w3,e3,h3,u4,w4,e4,h4,u5,w5,e5,h5,u6,w6,e6,h6,u7,w7,e7,h7,hend⟩:=h
 obtain rfl : u0 = [.p (.int .i64 x.Kind)]:=h0
 obtain rfl : u1 = [.p (.int .i64 x.Cap)]:=h1
 obtain ⟨v2,rfl,s2⟩:=h2
 obtain rfl : u3 = [.p (.int .i64 x.Peer)]:=h3
 obtain rfl : u4 = [.p (.int .i64 x.Height)]:=h4
 obtain rfl : u5 = [.p (.int .i64 x.Class)]:=h5
 obtain rfl : u6 = [.p (.int .i64 x.Layer)]:=h6
 obtain rfl : u7 = [.p (.int .i64 x.Code)]:=h7
 obtain rfl:=(show _ = [] from hend)
 subst e7
 subst e6
 subst e5
 subst e4
 subst e3
 subst e2
 subst e1
 subst e0
 exact ⟨v2,rfl,s2⟩
theorem dTaiCtl.mk {y_Kind : Int} {y_Cap : Int} {y_Layers : (List TaiLayer)} {y_Peer : Int} {y_Height : Int} {y_Class : Int} {y_Layer : Int} {y_Code : Int} {v2 : V} (s2 : SlF dTaiLayer y_Layers v2) : dTaiCtl.R (⟨y_Kind,y_Cap,y_Layers,y_Peer,y_Height,y_Class,y_Layer,y_Code⟩ : TaiCtl) [.p (.int .i64 y_Kind),.p (.int .i64 y_Cap),v2,.p (.int .i64 y_Peer),.p (.int .i64 y_Height),.p (.int .i64 y_Class),.p (.int .i64 y_Layer),.p (.int .i64 y_Code)]:=⟨[.p (.int .i64 y_Kind)],[.p (.int .i64 y_Cap),v2,.p (.int .i64 y_Peer),.p (.int .i64 y_Height),.p (.int .i64 y_Class),.p (.int .i64 y_Layer),.p (.int .i64 y_Code)],rfl,rfl,⟨[.p (.int .i64 y_Cap)],[v2,.p (.int .i64 y_Peer),.p (.int .i64 y_Height),.p (.int .i64 y_Class),.p (.int .i64 y_Layer),.p (.int .i64 y_Code)],rfl,rfl,⟨[v2],[.p (.int .i64 y_Peer),.p (.int .i64 y_Height),.p (.int .i64 y_Class),.p (.int .i64 y_Layer),.p (.int .i64 y_Code)],rfl,⟨v2,rfl,s2⟩,⟨[.p (.int .i64 y_Peer)],[.p (.int .i64 y_Height),.p (.int .i64 y_Class),.p (.int .i64 y_Layer),.p (.int .i64 y_Code)],rfl,rfl,⟨[.p (.int .i64 y_Height)],[.p (.int .i64 y_Class),.p (.int .i64 y_Layer),.p (.int .i64 y_Code)],rfl,rfl,⟨[.p (.int .i64 y_Class)],[.p (.int .i64 y_Layer),.p (.int .i64 y_Code)],rfl,rfl,⟨[.p (.int .i64 y_Layer)],[.p (.int .i64 y_Code)],rfl,rfl,⟨[.p (.int .i64 y_Code)],[],rfl,rfl,rfl⟩⟩⟩⟩⟩⟩⟩⟩
structure T_struct_name_int_size_int_n_int64 where
 name : Int
 size : Int
 n : Int
def T_struct_name_int_size_int_n_int64.tp (x : T_struct_name_int_size_int_n_int64) : (Int × (Int × (Int × Unit))):=(x.name,(x.size,(x.n,())))
def dT_struct_name_int_size_int_n_int64 : Dt T_struct_name_int_size_int_n_int64:=(dP (dI .i64) (dP (dI .i64) (dP (dI .i64) dU))).via T_struct_name_int_size_int_n_int64.tp
theorem dT_struct_name_int_size_int_n_int64.inv {x : T_struct_name_int_size_int_n_int64} {vs : List V} (h : dT_struct_name_int_size_int_n_int64.R x vs) : vs = [.p (.int .i64 x.name),.p (.int .i64 x.size),.p (.int .i64 x.n)]:=by
 obtain ⟨u0,w0,e0,h0,u1,w1,e1,h1,u2,w2,e2,h2,hend⟩:=h
 obtain rfl : u0 = [.p (.int .i64 x.name)]:=h0
 obtain rfl : u1 = [.p (.int .i64 x.size)]:=h1
 obtain rfl : u2 = [.p (.int .i64 x.n)]:=h2
 obtain rfl:=(show _ = [] from hend)
 subst e2
 subst e1
 subst e0
 rfl
theorem dT_struct_name_int_size_int_n_int64.mk {y_name : Int} {y_size : Int} {y_n : Int}  : dT_struct_name_int_size_int_n_int64.R (⟨y_name,y_size,y_n⟩ : T_struct_name_int_size_int_n_int64) [.p (.int .i64 y_name),.p (.int .i64 y_size),.p (.int .i64 y_n)]:=⟨[.p (.int .i64 y_name)],[.p (.int .i64 y_size),.p (.int .i64 y_n)],rfl,rfl,⟨[.p (.int .i64 y_size)],[.p (.int .i64 y_n)],rfl,rfl,⟨[.p (.int .i64 y_n)],[],rfl,rfl,rfl⟩⟩⟩
end Go.Ev
namespace Go.Ev
open Go.RowKit (Below)
set_option linter.unusedVariables false

theorem SimN.below {ι : Inj} {B : Nat} {w w' : World} {ns : Nodes} (h : SimN ι B w.heap ns) (hb : Below w.heap.size w w') : SimN ι B w'.heap ns:=by
 refine ⟨h.nodup,fun s cs hm p hp => ?_,h.inj,fun b f hf => ?_,h.apart,h.nwb⟩
 ·obtain ⟨a1,c1,e1,a2,a3⟩:=h.lie s cs hm p hp
  exact ⟨a1,c1,e1,by rw [hb.block _ (Array.getElem?_eq_some_iff.1 a2).1]; exact a2,a3⟩
 ·obtain ⟨c,e,fr,k1,k2⟩:=h.frz b f hf
  exact ⟨c,e,fr,by rw [hb.block _ (Array.getElem?_eq_some_iff.1 k1).1]; exact k1,k2⟩
def plainX (t : FuncId→List V→Option Value) : CallF:=fun f _ args h => (t f args).map fun v => ([.v (.p v)],h)
theorem plainX_ok {G : Cfg} {t : FuncId→List V→Option Value}
  (ht : ∀ f args v, t f args = some v → ∃ us : List Value, args = us.map .p ∧ (∃ fn, G.P.funcs[f]? = some fn ∧ (fn.name == "runtime.NumGoroutine") = false ∧ fn.body.isNone = false) ∧
   ∀ w,Calls G.P f us.toArray w fun e w' => e = .returned v∧Below w.heap.size w w') (B : Nat) : CallOk G B (plainX t):=by
 intro f σ args h cs h' hev ι w us hS hargs hf hB
 simp only [plainX,Option.map_eq_some_iff,Prod.mk.injEq] at hev
 obtain ⟨v,hv,rfl,rfl⟩:=hev
 obtain ⟨us0,rfl,hfn,hc⟩:=ht f args v hv
 have e : us = us0.toArray:=by
  apply Array.ext'
  refine List.ext_getElem? fun i => ?_
  simp only
  by_cases hi : i < us0.length
  ·have h1 : (us0.map V.p)[i]? = some (.p us0[i]):=by simp [hi]
   obtain ⟨u,hu,r⟩:=hargs.get h1
   cases r
   rw [hu]; simp [hi]
  ·have:=hargs.length
   simp only [List.length_map] at this
   rw [List.getElem?_eq_none (by omega),List.getElem?_eq_none (by omega)]
 subst e
 refine ⟨hfn,(hc w).mono fun e w' he => ?_⟩
 obtain ⟨rfl,hb⟩:=he
 exact ⟨v,ι,rfl,hS.below hb,⟨fun h d => .p v⟩,.refl _,.refl _ _ _,hb.mono hB⟩

theorem Below.setIter {w : World} {k : Nat} {o : Obj} {B : Nat} (hk : B ≤ k) : Below B w { w with heap:=w.heap.setIfInBounds k o }:=by
 refine ⟨rfl,rfl,rfl,by simp,fun i hi => ?_⟩
 simp only
 rw [Array.getElem?_setIfInBounds_ne (by omega)]
def itAt (w : World) (k : Nat) (s : ByteArray) (pos : Nat) : World:={ w with heap:=w.heap.setIfInBounds k (.stringIter s pos) }
theorem itAt_heap {w : World} {k : Nat} {s : ByteArray} {pos p : Nat} (h : w.heap[k]? = some (.stringIter s p)) : (itAt w k s pos).heap[k]? = some (.stringIter s pos):=by
 have:=(Array.getElem?_eq_some_iff.1 h).1
 simp [itAt,this]
theorem run_next_at {P : Program} {w : World} {k : Nat} {s : ByteArray} {pos : Nat} (hk : w.heap[k]? = some (.stringIter s pos)) (ty : TypeId) (h : pos < s.size) :
  (Instr.next (.pointer (some ⟨k,0,none⟩)) true ty).run P w = .ok (.tuple #[.bool true,.int .i64 pos,.int .i32 (Utf8.decode s pos).1]) (itAt w k s (pos + (Utf8.decode s pos).2)):=by
 simp only [Instr.next,getObj,setObj,Sem.run_bind,Sem.run,hk,Result.andThen,h,if_true]
 simp [goInt,itAt]
theorem run_next_over {P : Program} {w : World} {k : Nat} {s : ByteArray} {pos : Nat} (hk : w.heap[k]? = some (.stringIter s pos)) (ty : TypeId) (h : ¬ pos < s.size) :
  (Instr.next (.pointer (some ⟨k,0,none⟩)) true ty).run P w = .ok (.tuple #[.bool false]) w:=by
 simp [Instr.next,getObj,Sem.run,hk,h]
theorem dec_pos (s : ByteArray) (pos : Nat) (h : pos < s.size) : 1 ≤ (Utf8.decode s pos).2:=by
 by_cases ha : (s[pos]'h).toNat < 128
 ·rw [decode_ascii s pos h ha]
  exact Nat.le_refl _
 ·exact (decode_high s pos h (by omega)).2
def runesF (s : ByteArray) : Nat→Nat→List Int
 | 0,_ => []
 | n + 1,pos => if pos < s.size then ((Utf8.decode s pos).1 : Int)::runesF s n (pos + (Utf8.decode s pos).2) else []
theorem runesF_stable (s : ByteArray) : ∀ (n m pos : Nat),s.size - pos ≤ n→s.size - pos ≤ m→runesF s n pos = runesF s m pos
 | 0,0,_,_,_ => rfl
 | 0,m + 1,pos,h,_ => by
  have : ¬ pos < s.size:=by omega
  simp [runesF,this]
 | n + 1,0,pos,_,h => by
  have : ¬ pos < s.size:=by omega
  simp [runesF,this]
 | n + 1,m + 1,pos,h1,h2 => by
  simp only [runesF]
  split
  ·rename_i hp
   have:=dec_pos s pos hp
   rw [runesF_stable s n m _ (by omega) (by omega)]
  ·rfl
def runes (s : ByteArray) (pos : Nat) : List Int:=runesF s s.size pos
theorem runes_cons {s : ByteArray} {pos : Nat} (h : pos < s.size) : runes s pos = ((Utf8.decode s pos).1 : Int)::runes s (pos + (Utf8.decode s pos).2):=by
 have hw:=dec_pos s pos h
 unfold runes
 rw [runesF_stable s s.size (s.size + 1) pos (by omega) (by omega)]
 simp [runesF,h]
theorem runes_end {s : ByteArray} {pos : Nat} (h : ¬ pos < s.size) : runes s pos = []:=by
 unfold runes
 cases hs : s.size with
 | zero => rfl
 | succ n => simp only [runesF]; rw [if_neg h]
end Go.Ev
namespace Go.RidX
open Go.Ev (runes runes_cons runes_end run_next_at run_next_over itAt itAt_heap dec_pos V)
open Go.Proofs Go.Proofs.Ytigkdihkmihmmaa
open Go.RowKit (Below wrap64 Hid)
set_option maxRecDepth 1000000
set_option maxHeartbeats 2000000
set_option linter.unusedSimpArgs false
set_option linter.unusedVariables false
def isRid (r : Int) : Bool:=(decide (r ≥ 97) && decide (r ≤ 122)) || (decide (r ≥ 65) && decide (r ≤ 90)) || (decide (r ≥ 48) && decide (r ≤ 57)) || (r == 45) || (r == 95)
theorem wrap_succ (n : Int) : wrap64 (wrap64 n + 1) = wrap64 (n + 1):=by
 simp only [wrap64]
 omega
def rightB (s : ByteArray) : Bool:=(runes s 0).all isRid && (decide (1 ≤ wrap64 (runes s 0).length) && decide (wrap64 (runes s 0).length ≤ 8))
def countN (s : ByteArray) : Int:=wrap64 (runes s 0).length
theorem rid_one (c : Int) (w : World) : Calls Try.prog 103 #[.int .i32 c] w fun e w' => e = .returned (.bool (isRid c))∧w' = w:=by
 go_enter Try.func103,Try.ntmps103
 go_wp2
 all_goals
  go_ret
  refine ⟨?_,rfl⟩
  simp only [Ending.returned.injEq,Value.bool.injEq,isRid]
  simp [*]
  try grind
theorem rid_Right (s : ByteArray) (w : World) : Calls Try.prog 64 #[.string s] w fun e w' => e = .returned (.bool (rightB s))∧Below w.heap.size w w':=by
 go_enter Try.func64,Try.ntmps64
 go_wp2
 go_loopw [3] (fun n wr => ∃ (pos : Nat) (pre : List Int) (c : Int),wr.heap[w.heap.size]? = some (.stringIter s pos)∧Below w.heap.size w wr∧n = .int .i64 c∧c = wrap64 (pre.length : Int)∧pre.all isRid = true∧runes s 0 = pre ++ runes s pos) (fun _ wr => s.size - wr.iterPos w.heap.size)
 case atStart => exact ⟨0,[],0,by simp [World.iter_heap],(Below.refl _ w).alloc (Nat.le_refl _) _,rfl,by simp [wrap64],rfl,rfl⟩
 case round =>
  obtain ⟨pos,pre,c,hk,hb,rfl,hc,hall,hrs⟩:=hrel
  by_cases hp : pos < s.size
  ·have hnx : ∀ ty,(Instr.next (.pointer (some ⟨w.heap.size,0,none⟩)) true ty).run Try.prog wr = _:=fun ty => run_next_at hk ty hp
   have hk1:=itAt_heap (pos:=pos + (Utf8.decode s pos).2) hk
   have hb1 : Below w.heap.size w (itAt wr w.heap.size s (pos + (Utf8.decode s pos).2)):=hb.trans (Go.Ev.Below.setIter (Nat.le_refl _))
   have hwd:=dec_pos s pos hp
   have hmu : wr.iterPos w.heap.size = pos:=by simp [World.iterPos,hk]
   have hmu2 : (itAt wr w.heap.size s (pos + (Utf8.decode s pos).2)).iterPos w.heap.size = pos + (Utf8.decode s pos).2:=by simp [World.iterPos,hk1]
   rw [runes_cons hp] at hrs
   have k1 : ∀ {b : Bool},isRid ↑(Utf8.decode s pos).fst = b→b = false→(runes s 0).all isRid = false:=fun e1 e2 => by
    rw [hrs,List.all_append,List.all_cons,e1,e2]
    simp
   have k2 : ∀ {b : Bool},isRid ↑(Utf8.decode s pos).fst = b→b = true→(pre ++ [((Utf8.decode s pos).1 : Int)]).all isRid = true:=fun e1 e2 => by
    rw [List.all_append,List.all_cons,e1,e2,hall]
    rfl
   have k3 : Hid (wrap64 (c + 1) = wrap64 ((pre ++ [((Utf8.decode s pos).1 : Int)]).length : Int)):=by
    unfold Hid
    rw [hc,wrap_succ,List.length_append]; rfl
   have k4 : Hid (runes s 0 = (pre ++ [((Utf8.decode s pos).1 : Int)]) ++ runes s (pos + (Utf8.decode s pos).2)):=by unfold Hid; rw [hrs]; simp
   clear hrs hall hc
   go_wp2_with (go_at_call 103; refine (rid_one _ _).mono ?_; rintro e W2 ⟨rfl,rfl⟩)
   ·rename_i hone
    have k5 : rightB s = false:=by unfold rightB; rw [k1 rfl (by simpa using hone)]; rfl
    clear hone k1 k2 k3 k4
    go_ret
    rw [k5]
    exact ⟨rfl,hb1⟩
   ·rename_i hone
    have k5:=k2 rfl (by simpa using hone)
    clear hone k1 k2
    go_roundw
    case rel => exact ⟨_,pre ++ [((Utf8.decode s pos).1 : Int)],_,hk1,hb1,rfl,k3.out,k5,k4.out⟩
    case measure =>
     rw [hmu,hmu2]
     omega
  ·have hnx : ∀ ty,(Instr.next (.pointer (some ⟨w.heap.size,0,none⟩)) true ty).run Try.prog wr = _:=fun ty => run_next_over hk ty hp
   rw [runes_end hp,List.append_nil] at hrs
   have k1 : ∀ {b : Bool},decide (c ≤ 8) = b→1 ≤ c→rightB s = b:=fun e1 e2 => by
    unfold rightB
    rw [hrs,hall,← hc,e1]; simp [e2]
   have k2 : c < 1→rightB s = false:=fun e2 => by
    unfold rightB
    rw [hrs,hall,← hc]; simp; omega
   clear hrs hall hc
   go_wp2
   ·rename_i h1
    have k5:=k1 rfl h1
    go_ret
    rw [k5]
    exact ⟨rfl,hb⟩
   ·rename_i h1
    have k5:=k2 (by omega)
    go_ret
    exact ⟨rfl,hb⟩
theorem ref_Count (s : ByteArray) (w : World) : Calls Try.prog 105 #[.string s] w fun e w' => e = .returned (.int .i64 (countN s))∧Below w.heap.size w w':=by
 go_enter Try.func105,Try.ntmps105
 go_wp2
 go_loopw [3] (fun n wr => ∃ (pos : Nat) (pre : List Int) (c : Int),wr.heap[w.heap.size]? = some (.stringIter s pos)∧Below w.heap.size w wr∧n = .int .i64 c∧c = wrap64 (pre.length : Int)∧runes s 0 = pre ++ runes s pos) (fun _ wr => s.size - wr.iterPos w.heap.size)
 case atStart => exact ⟨0,[],0,by simp [World.iter_heap],(Below.refl _ w).alloc (Nat.le_refl _) _,rfl,by simp [wrap64],rfl⟩
 case round =>
  obtain ⟨pos,pre,c,hk,hb,rfl,hc,hrs⟩:=hrel
  by_cases hp : pos < s.size
  ·have hnx : ∀ ty,(Instr.next (.pointer (some ⟨w.heap.size,0,none⟩)) true ty).run Try.prog wr = _:=fun ty => run_next_at hk ty hp
   have hk1:=itAt_heap (pos:=pos + (Utf8.decode s pos).2) hk
   have hb1 : Below w.heap.size w (itAt wr w.heap.size s (pos + (Utf8.decode s pos).2)):=hb.trans (Go.Ev.Below.setIter (Nat.le_refl _))
   have hwd:=dec_pos s pos hp
   have hmu : wr.iterPos w.heap.size = pos:=by simp [World.iterPos,hk]
   have hmu2 : (itAt wr w.heap.size s (pos + (Utf8.decode s pos).2)).iterPos w.heap.size = pos + (Utf8.decode s pos).2:=by simp [World.iterPos,hk1]
   rw [runes_cons hp] at hrs
   have k3 : Hid (wrap64 (c + 1) = wrap64 ((pre ++ [((Utf8.decode s pos).1 : Int)]).length : Int)):=by
    unfold Hid
    rw [hc,wrap_succ,List.length_append]; rfl
   have k4 : Hid (runes s 0 = (pre ++ [((Utf8.decode s pos).1 : Int)]) ++ runes s (pos + (Utf8.decode s pos).2)):=by unfold Hid; rw [hrs]; simp
   clear hrs hc
   go_wp2
   go_roundw
   case rel => exact ⟨_,pre ++ [((Utf8.decode s pos).1 : Int)],_,hk1,hb1,rfl,k3.out,k4.out⟩
   case measure =>
    rw [hmu,hmu2]
    omega
  ·have hnx : ∀ ty,(Instr.next (.pointer (some ⟨w.heap.size,0,none⟩)) true ty).run Try.prog wr = _:=fun ty => run_next_over hk ty hp
   rw [runes_end hp,List.append_nil] at hrs
   have k1 : Hid (countN s = c):=by unfold Hid countN; rw [hrs,hc]
   clear hrs hc
   go_wp2
   go_ret
   rw [k1.out]
   exact ⟨rfl,hb⟩
theorem ref_Count' (s : ByteArray) (w : World) {n : Int} (hn : countN s = n) : Calls Try.prog 105 #[.string s] w fun e w' => e = .returned (.int .i64 n)∧Below w.heap.size w w':=by
 subst hn; exact ref_Count s w
theorem ref_letter (c : Int) (w : World) : Calls Try.prog 104 #[.int .i32 c] w fun e w' => e = .returned (.bool (isRid c))∧w' = w:=by
 go_enter Try.func104,Try.ntmps104
 go_wp2
 all_goals
  go_ret
  refine ⟨?_,rfl⟩
  simp only [Ending.returned.injEq,Value.bool.injEq,isRid]
  simp [*]
  try grind
theorem ref_Rid (s : ByteArray) (w : World) : Calls Try.prog 65 #[.string s] w fun e w' => e = .returned (.bool (rightB s))∧Below w.heap.size w w':=by
 go_enter Try.func65,Try.ntmps65
 go_wp2
 go_loopw [] (fun  wr => ∃ (pos : Nat) (pre : List Int),wr.heap[w.heap.size]? = some (.stringIter s pos)∧Below w.heap.size w wr∧pre.all isRid = true∧runes s 0 = pre ++ runes s pos) (fun  wr => s.size - wr.iterPos w.heap.size)
 case atStart => exact ⟨0,[],by simp [World.iter_heap],(Below.refl _ w).alloc (Nat.le_refl _) _,rfl,rfl⟩
 case round =>
  obtain ⟨pos,pre,hk,hb,hall,hrs⟩:=hrel
  by_cases hp : pos < s.size
  ·have hnx : ∀ ty,(Instr.next (.pointer (some ⟨w.heap.size,0,none⟩)) true ty).run Try.prog wr = _:=fun ty => run_next_at hk ty hp
   have hk1:=itAt_heap (pos:=pos + (Utf8.decode s pos).2) hk
   have hb1 : Below w.heap.size w (itAt wr w.heap.size s (pos + (Utf8.decode s pos).2)):=hb.trans (Go.Ev.Below.setIter (Nat.le_refl _))
   have hwd:=dec_pos s pos hp
   have hmu : wr.iterPos w.heap.size = pos:=by simp [World.iterPos,hk]
   have hmu2 : (itAt wr w.heap.size s (pos + (Utf8.decode s pos).2)).iterPos w.heap.size = pos + (Utf8.decode s pos).2:=by simp [World.iterPos,hk1]
   rw [runes_cons hp] at hrs
   have k1 : ∀ {b : Bool},isRid ↑(Utf8.decode s pos).fst = b→b = false→(runes s 0).all isRid = false:=fun e1 e2 => by
    rw [hrs,List.all_append,List.all_cons,e1,e2]
    simp
   have k2 : ∀ {b : Bool},isRid ↑(Utf8.decode s pos).fst = b→b = true→(pre ++ [((Utf8.decode s pos).1 : Int)]).all isRid = true:=fun e1 e2 => by
    rw [List.all_append,List.all_cons,e1,e2,hall]
    rfl
   have k4 : Hid (runes s 0 = (pre ++ [((Utf8.decode s pos).1 : Int)]) ++ runes s (pos + (Utf8.decode s pos).2)):=by unfold Hid; rw [hrs]; simp
   clear hrs hall
   go_wp2_with (go_at_call 104; refine (ref_letter _ _).mono ?_; rintro e W2 ⟨rfl,rfl⟩)
   ·rename_i hone
    have k5 : rightB s = false:=by unfold rightB; rw [k1 rfl (by simpa using hone)]; rfl
    clear hone k1 k2 k4
    go_ret
    rw [k5]
    exact ⟨rfl,hb1⟩
   ·rename_i hone
    have k5:=k2 rfl (by simpa using hone)
    clear hone k1 k2
    go_roundw
    case rel => exact ⟨_,pre ++ [((Utf8.decode s pos).1 : Int)],hk1,hb1,k5,k4.out⟩
    case measure =>
     rw [hmu,hmu2]
     omega
  ·have hnx : ∀ ty,(Instr.next (.pointer (some ⟨w.heap.size,0,none⟩)) true ty).run Try.prog wr = _:=fun ty => run_next_over hk ty hp
   rw [runes_end hp,List.append_nil] at hrs
   obtain ⟨n,hn⟩ : ∃ n,countN s = n:=⟨_,rfl⟩
   have k1 : ∀ {b : Bool},decide (n ≤ 8) = b→1 ≤ n→rightB s = b:=fun e1 e2 => by
    unfold rightB
    rw [hrs,hall,← hrs,show wrap64 ((runes s 0).length : Int) = n from hn,e1]; simp [e2]
   have k2 : n < 1→rightB s = false:=fun e2 => by
    unfold rightB
    rw [hrs,hall,← hrs,show wrap64 ((runes s 0).length : Int) = n from hn]; simp; omega
   have hn' : Hid (countN s = n):=hn
   clear hrs hall hn
   go_wp2_with (go_at_call 105; refine (ref_Count' _ _ hn'.out).mono ?_; rintro e W2 ⟨rfl,hB⟩)
   ·rename_i hB0 h1
    have k5:=k1 rfl h1
    go_ret
    rw [k5]
    exact ⟨rfl,hb.trans ((hB0.mono hb.size).trans (hB.mono (Nat.le_trans hb.size hB0.size)))⟩
   ·rename_i h1
    have k5:=k2 (by omega)
    go_ret
    exact ⟨rfl,hb.trans (hB.mono hb.size)⟩
def lowR (r : Int) : Int:=if 65 ≤ r∧r ≤ 90 then r + 32 else r
def foldS (l : List Int) : ByteArray:=l.foldl (fun a r => a ++ Utf8.encode (lowR r)) ByteArray.empty
theorem foldS_snoc (l : List Int) (r : Int) : foldS (l ++ [r]) = foldS l ++ Utf8.encode (lowR r):=by simp [foldS]
theorem enc_le (r : Int) : (Utf8.encode r).size ≤ 4:=by
 simp only [Utf8.encode]
 generalize (if Utf8.valid r = true then r.toNat else Utf8.runeError) = c
 split
 ·simp [ByteArray.size]
 ·split
  ·simp [ByteArray.size]
  ·split <;> simp [ByteArray.size]
theorem dec_le4 (s : ByteArray) (pos : Nat) : (Utf8.decode s pos).2 ≤ 4:=by
 simp only [Utf8.decode]
 repeat' split
 all_goals simp
def foldB (s : ByteArray) : ByteArray:=foldS (runes s 0)
theorem ref_Fold (s : ByteArray) (hs : s.size < 2 ^ 40) (w : World) : Calls Try.prog 119 #[.string s] w fun e w' => e = .returned (.string (foldB s))∧Below w.heap.size w w':=by
 go_enter Try.func119,Try.ntmps119
 go_wp2
 go_loopw [3] (fun n wr => ∃ (pos : Nat) (pre : List Int) (c : ByteArray),wr.heap[w.heap.size]? = some (.stringIter s pos)∧Below w.heap.size w wr∧n = .string c∧c = foldS pre∧c.size ≤ 4 * pre.length∧pre.length ≤ pos∧pos ≤ s.size + 3∧runes s 0 = pre ++ runes s pos) (fun _ wr => s.size - wr.iterPos w.heap.size)
 case atStart => exact ⟨0,[],ByteArray.empty,by simp [World.iter_heap],(Below.refl _ w).alloc (Nat.le_refl _) _,rfl,rfl,by simp,by simp,by simp,rfl⟩
 case round =>
  obtain ⟨pos,pre,c,hk,hb,rfl,hc,hsz,hpl,hps,hrs⟩:=hrel
  by_cases hp : pos < s.size
  ·have hnx : ∀ ty,(Instr.next (.pointer (some ⟨w.heap.size,0,none⟩)) true ty).run Try.prog wr = _:=fun ty => run_next_at hk ty hp
   have hk1:=itAt_heap (pos:=pos + (Utf8.decode s pos).2) hk
   have hb1 : Below w.heap.size w (itAt wr w.heap.size s (pos + (Utf8.decode s pos).2)):=hb.trans (Go.Ev.Below.setIter (Nat.le_refl _))
   have hwd:=dec_pos s pos hp
   have hmu : wr.iterPos w.heap.size = pos:=by simp [World.iterPos,hk]
   have hmu2 : (itAt wr w.heap.size s (pos + (Utf8.decode s pos).2)).iterPos w.heap.size = pos + (Utf8.decode s pos).2:=by simp [World.iterPos,hk1]
   rw [runes_cons hp] at hrs
   have hw4:=dec_le4 s pos
   obtain ⟨r,hr⟩ : ∃ r : Int,r = ((Utf8.decode s pos).1 : Int):=⟨_,rfl⟩
   rw [← hr] at hnx hrs
   have k4 : Hid (runes s 0 = (pre ++ [r]) ++ runes s (pos + (Utf8.decode s pos).2)):=by unfold Hid; rw [hrs]; simp
   have k5 : ∀ {x : Int},9223372036854775807 < c.size + (Utf8.encode x).size→False:=fun {x} h => by
    have:=enc_le x; omega
   have k7 : ∀ {x : Int},x = lowR r→Hid (c ++ Utf8.encode x = foldS (pre ++ [r])∧(c ++ Utf8.encode x).size ≤ 4 * (pre ++ [r]).length):=fun {x} e => by
    have:=enc_le x
    refine ⟨by rw [foldS_snoc,← hc,e],?_⟩
    rw [ByteArray.size_append,List.length_append]
    simp only [List.length_cons,List.length_nil]
    omega
   have k8 : (pre ++ [r]).length ≤ pos + (Utf8.decode s pos).2:=by rw [List.length_append]; simp only [List.length_cons,List.length_nil]; omega
   have k9 : pos + (Utf8.decode s pos).2 ≤ s.size + 3:=by omega
   clear hrs hc hr
   go_wp2
   ·exact (k5 (by assumption)).elim
   ·have k6:=k7 (x:=r - 65 + 97) (by unfold lowR; rw [if_pos ⟨by assumption,by assumption⟩]; omega)
    go_roundw
    case rel => exact ⟨_,pre ++ [r],_,hk1,hb1,rfl,k6.out.1,k6.out.2,k8,k9,k4.out⟩
    case measure =>
     rw [hmu,hmu2]
     omega
   ·exact (k5 (by assumption)).elim
   ·rename_i h1 h2 _
    have k6:=k7 (x:=r) (by unfold lowR; rw [if_neg (by omega)])
    go_roundw
    case rel => exact ⟨_,pre ++ [r],_,hk1,hb1,rfl,k6.out.1,k6.out.2,k8,k9,k4.out⟩
    case measure =>
     rw [hmu,hmu2]
     omega
   ·exact (k5 (by assumption)).elim
   ·rename_i h1 _
    have k6:=k7 (x:=r) (by unfold lowR; rw [if_neg (by omega)])
    go_roundw
    case rel => exact ⟨_,pre ++ [r],_,hk1,hb1,rfl,k6.out.1,k6.out.2,k8,k9,k4.out⟩
    case measure =>
     rw [hmu,hmu2]
     omega
  ·have hnx : ∀ ty,(Instr.next (.pointer (some ⟨w.heap.size,0,none⟩)) true ty).run Try.prog wr = _:=fun ty => run_next_over hk ty hp
   rw [runes_end hp,List.append_nil] at hrs
   have k1 : Hid (foldB s = c):=by unfold Hid foldB; rw [hrs,hc]
   clear hrs hc
   go_wp2
   go_ret
   rw [k1.out]
   exact ⟨rfl,hb⟩
theorem app1 {P : Program} {ops : Array Oper} {rest : List Oper} {o : Oper} {a : Act} {Q : Exit→Act→World→Prop} {w1 : World} (hgd : o.guard = none) (s x : Operand) (t : TypeId)
  (ho : o.op = .call { callee:=.builtin .append,args:=#[s,x],argTypes:=#[t,t] }) (base : Nat) (e : TypeId) (i : TypeInfo) (ht : P.underlying t = some (.slice e)) (hi : P.info? e = some i) (hz : i.zero = some (.int .i32 0))
  (hsize : i.size = 1) (hby : i.bytes = 4) {v : Value} (n : Nat) (xs : List Value) (hs : a.eval s = v) (hown : w1.ownsRow base e 1 v n xs) {r : Int} {e' : TypeId}
  (hx : a.eval x = .slice (some ⟨w1.heap.size,0,none⟩) 1 1) (hn : n < 2 ^ 44) (hbase : base ≤ w1.heap.size)
  (h : ∀ v' w',w'.ownsRow base e 1 v' (n + 1) (xs ++ [.int .i32 r])→(w1.alloc (.cells #[.int .i32 r] e')).grownBy w' v.ownBlock→wpList P ops Q rest (a.put o.dst v') w') : wpList P ops Q (o::rest) a (w1.alloc (.cells #[.int .i32 r] e')):=by
 refine wpList_append_own _ hgd s x t ho base e i (.int .i32 0) 1 4 ht hi hz hsize hby rfl (by decide) v n xs hs (hown.alloc _) ⟨w1.heap.size,0,none⟩ 1 1 [.int .i32 r] hx rfl ?_ ?_ (by unfold maxLen; omega) (by omega) ?_ fun v' w' h1 h2 _ => h v' w' h1 h2
 ·intro j u hj; match j,hj with | 0,hj => simp at hj; subst hj; simp [Addr.add]
 ·intro u hu; simp at hu; subst hu; rfl
 ·exact Nat.le_trans hbase (by show _ ≤ (w1.heap.push _).size; rw [Array.size_push]; omega)
theorem ownsRow_it {w : World} {base e k : Nat} {v : Value} {n : Nat} {xs : List Value} {s : ByteArray} {pos : Nat} (h : w.ownsRow base e 1 v n xs) (hk : k < base) : (itAt w k s pos).ownsRow base e 1 v n xs:=by
 obtain ⟨h1,h2 | ⟨g,cap,cur,h2,h3,h4,h5⟩⟩:=h
 ·exact ⟨h1,.inl h2⟩
 ·refine ⟨h1,.inr ⟨g,cap,cur,h2,h3,?_,h5⟩⟩
  simp only [itAt]
  rw [Array.getElem?_setIfInBounds_ne (by omega)]; exact h4
theorem fold_conv {P : Program} {w : World} {base e src dst : Nat} {v : Value} {n : Nat} {ns : List Int} (h : w.ownsRow base e 1 v n (ns.map (Value.int .i32))) (hs : P.underlying src = some (.slice e)) (he : P.underlying e = some (.int .i32)) (hd : P.underlying dst = some .string) :
  (convert src dst v).run P w = .ok (.string (runesBytes ns)) w:=by
 have h0:=h
 obtain ⟨h1,⟨rfl,rfl⟩ | ⟨g,cap,cur,rfl,h3,h4,h5,h6,h7,h8⟩⟩:=h
 ·have : ns = []:=by simpa using h1
  subst this
  exact run_convert_runes_nil w src dst e 0 0 hs he hd
 ·have hl : n = ns.length:=by simpa using h1.symm
  subst hl
  have:=run_convert_runes (P:=P) w src dst e ⟨g,0,none⟩ ns.length cap ns (Nat.le_refl _) hs he hd (fun j hj => h0.cells (g:=g) rfl j _ (by simp [List.getD,List.getElem?_eq_getElem hj]))
  rw [List.take_of_length_le (Nat.le_refl _)] at this
  exact this
theorem foldS_bytes (l : List Int) : runesBytes (l.map lowR) = foldS l:=by
 unfold runesBytes foldS; rw [List.foldl_map]
theorem fold_step {w W1 w' : World} {s : ByteArray} {pos e : Nat} {v : Value} {n : Nat} {xs : List Value} {o : Obj} (hk1 : W1.heap[w.heap.size]? = some (.stringIter s pos)) (hb1 : Below w.heap.size w W1) (how1 : W1.ownsRow (w.heap.size + 1) e 1 v n xs)
  (hg : (W1.alloc o).grownBy w' v.ownBlock) : w'.heap[w.heap.size]? = some (.stringIter s pos)∧Below w.heap.size w w':=by
 have hlt:=(Array.getElem?_eq_some_iff.1 hk1).1
 have hsz : (W1.alloc o).heap.size = W1.heap.size + 1:=by show (W1.heap.push o).size = _; simp
 refine ⟨?_,(hb1.alloc hb1.size o).grown hg (by have:=hb1.size; omega) fun k hk => ?_⟩
 ·rw [hg.block _ (by omega) (fun e => by have:=(how1.lt _ e.symm).1; omega),Below.heap_alloc _ _ _ hlt]
  exact hk1
 ·have:=(how1.lt _ hk).1; omega
theorem map_snoc (pre : List Int) (r x : Int) (h : x = lowR r) : (pre.map lowR).map (Value.int .i32) ++ [Value.int .i32 x] = ((pre ++ [r]).map lowR).map (Value.int .i32):=by
 subst h; simp
theorem rid_Fold (s : ByteArray) (hs : s.size < 2 ^ 40) (w : World) : Calls Try.prog 109 #[.string s] w fun e w' => e = .returned (.string (foldB s))∧Below w.heap.size w w':=by
 obtain ⟨i0,hi,hz0,hz1,hz2⟩:=info_parts (show (Try.prog.info? 21).map (fun i => (i.zero,i.size,i.bytes)) = some (some (.int .i32 0),1,4) from by kernel_rfl)
 go_enter Try.func109,Try.ntmps109
 go_wp2
 go_loopw [3] (fun v wr => ∃ (pos : Nat) (pre : List Int),wr.heap[w.heap.size]? = some (.stringIter s pos)∧Below w.heap.size w wr∧wr.ownsRow (w.heap.size + 1) 21 1 v pre.length ((pre.map lowR).map (Value.int .i32))∧pre.length ≤ pos∧pos ≤ s.size + 3∧runes s 0 = pre ++ runes s pos) (fun _ wr => s.size - wr.iterPos w.heap.size)
 case atStart => exact ⟨0,[],by simp [World.iter_heap],(Below.refl _ w).alloc (Nat.le_refl _) _,World.ownsRow_nil ..,by simp,by simp,rfl⟩
 case round =>
  obtain ⟨pos,pre,hk,hb,how,hpl,hps,hrs⟩:=hrel
  by_cases hp : pos < s.size
  ·have hnx : ∀ ty,(Instr.next (.pointer (some ⟨w.heap.size,0,none⟩)) true ty).run Try.prog wr = _:=fun ty => run_next_at hk ty hp
   have hk1:=itAt_heap (pos:=pos + (Utf8.decode s pos).2) hk
   have hb1 : Below w.heap.size w (itAt wr w.heap.size s (pos + (Utf8.decode s pos).2)):=hb.trans (Go.Ev.Below.setIter (Nat.le_refl _))
   have how1:=ownsRow_it (s:=s) (pos:=pos + (Utf8.decode s pos).2) how (Nat.lt_succ_self _)
   have hwd:=dec_pos s pos hp
   have hmu : wr.iterPos w.heap.size = pos:=by simp [World.iterPos,hk]
   rw [runes_cons hp] at hrs
   have hw4:=dec_le4 s pos
   obtain ⟨r,hr⟩ : ∃ r : Int,r = ((Utf8.decode s pos).1 : Int):=⟨_,rfl⟩
   rw [← hr] at hnx hrs
   have k4 : Hid (runes s 0 = (pre ++ [r]) ++ runes s (pos + (Utf8.decode s pos).2)):=by unfold Hid; rw [hrs]; simp
   have k8 : (pre ++ [r]).length ≤ pos + (Utf8.decode s pos).2:=by rw [List.length_append]; simp only [List.length_cons,List.length_nil]; omega
   have k9 : pos + (Utf8.decode s pos).2 ≤ s.size + 3:=by omega
   have hn44 : pre.length < 2 ^ 44:=by omega
   have hW1 : w.heap.size + 1 ≤ (itAt wr w.heap.size s (pos + (Utf8.decode s pos).2)).heap.size:=(Array.getElem?_eq_some_iff.1 hk1).1
   clear hrs hr how hk hb
   generalize itAt wr w.heap.size s (pos + (Utf8.decode s pos).2) = W1 at hnx hk1 hb1 how1 hW1
   go_wp2_with (first | (at_builtin; refine app1 rfl (.tmp 19) (.tmp 21) 176 rfl (w.heap.size + 1) 21 i0 Try.underlying176 hi hz0 hz1 hz2 pre.length _ rfl how1 rfl hn44 hW1 ?_) | go_in)
   ·have e1 : r + 32 = lowR r:=by unfold lowR; rw [if_pos ⟨by assumption,by assumption⟩]
    intro v' w' hown hgrow
    obtain ⟨hk2,hb2⟩:=fold_step hk1 hb1 how1 hgrow
    have hmu3 : w'.iterPos w.heap.size = pos + (Utf8.decode s pos).2:=by simp [World.iterPos,hk2]
    have hown2 : w'.ownsRow (w.heap.size + 1) 21 1 v' (pre ++ [r]).length (((pre ++ [r]).map lowR).map (Value.int .i32)):=by
     rw [← map_snoc pre r _ e1,List.length_append]
     simpa using hown
    clear hown hgrow hk1 hb1 how1 e1
    go_wp2
    go_roundw
    case rel => exact ⟨_,pre ++ [r],hk2,hb2,hown2,k8,k9,k4.out⟩
    case measure =>
     rw [hmu,hmu3]
     omega
   ·rename_i h1 h2
    have e1 : r = lowR r:=by unfold lowR; rw [if_neg (by omega)]
    intro v' w' hown hgrow
    obtain ⟨hk2,hb2⟩:=fold_step hk1 hb1 how1 hgrow
    have hmu3 : w'.iterPos w.heap.size = pos + (Utf8.decode s pos).2:=by simp [World.iterPos,hk2]
    have hown2 : w'.ownsRow (w.heap.size + 1) 21 1 v' (pre ++ [r]).length (((pre ++ [r]).map lowR).map (Value.int .i32)):=by
     rw [← map_snoc pre r _ e1,List.length_append]
     simpa using hown
    clear hown hgrow hk1 hb1 how1 e1
    go_wp2
    go_roundw
    case rel => exact ⟨_,pre ++ [r],hk2,hb2,hown2,k8,k9,k4.out⟩
    case measure =>
     rw [hmu,hmu3]
     omega
   ·rename_i h1
    have e1 : r = lowR r:=by unfold lowR; rw [if_neg (by omega)]
    intro v' w' hown hgrow
    obtain ⟨hk2,hb2⟩:=fold_step hk1 hb1 how1 hgrow
    have hmu3 : w'.iterPos w.heap.size = pos + (Utf8.decode s pos).2:=by simp [World.iterPos,hk2]
    have hown2 : w'.ownsRow (w.heap.size + 1) 21 1 v' (pre ++ [r]).length (((pre ++ [r]).map lowR).map (Value.int .i32)):=by
     rw [← map_snoc pre r _ e1,List.length_append]
     simpa using hown
    clear hown hgrow hk1 hb1 how1 e1
    go_wp2
    go_roundw
    case rel => exact ⟨_,pre ++ [r],hk2,hb2,hown2,k8,k9,k4.out⟩
    case measure =>
     rw [hmu,hmu3]
     omega
  ·have hnx : ∀ ty,(Instr.next (.pointer (some ⟨w.heap.size,0,none⟩)) true ty).run Try.prog wr = _:=fun ty => run_next_over hk ty hp
   rw [runes_end hp,List.append_nil] at hrs
   have hcv:=fold_conv (P:=Try.prog) (src:=176) (dst:=9) how Try.underlying176 Try.underlying21 Try.underlying9
   rw [foldS_bytes,← hrs,show foldS (runes s 0) = foldB s from rfl] at hcv
   clear hrs how
   go_wp2
   go_ret
   exact ⟨rfl,hb⟩
end Go.RidX
namespace Go.Ev
open Go.Proofs
def ownT : TypeId→Bool:=fun t => [].contains t
def frzF : FuncId→Bool:=fun f => [18,22,23,25,53,55,59,90,91,15,37].contains f
def frzIn : FuncId→Bool:=fun f => [19,69,29,35].contains f
def frzMk : TypeId→Bool:=fun t => [].contains t
noncomputable def G : Cfg:=⟨Try.prog,ownT,frzF,frzIn,frzMk⟩
noncomputable def XT (f : FuncId) (args : List V) : Option Value :=
 if f = 64 then (match args with | [.p (.string s)] => some (.bool (RidX.rightB s)) | _ => none) else
 if f = 105 then (match args with | [.p (.string s)] => some (.int .i64 (RidX.countN s)) | _ => none) else
 if f = 65 then (match args with | [.p (.string s)] => some (.bool (RidX.rightB s)) | _ => none) else
 if f = 119 then (match args with | [.p (.string s)] => if s.size < 2 ^ 40 then some (.string (RidX.foldB s)) else none | _ => none) else
 if f = 109 then (match args with | [.p (.string s)] => if s.size < 2 ^ 40 then some (.string (RidX.foldB s)) else none | _ => none) else
 none
noncomputable def X0 : CallF:=plainX XT
theorem x_ok (B : Nat) : CallOk G B X0:=plainX_ok (fun f args v h => by
 unfold XT at h
 split at h
 ·rename_i hf; subst hf
  split at h
  ·rename_i s; cases h
   exact ⟨[.string s],rfl,⟨Try.f64,Try.func64,by kernel_rfl,by kernel_rfl⟩,fun w => RidX.rid_Right s w⟩
  ·cases h
 split at h
 ·rename_i hf; subst hf
  split at h
  ·rename_i s; cases h
   exact ⟨[.string s],rfl,⟨Try.f105,Try.func105,by kernel_rfl,by kernel_rfl⟩,fun w => RidX.ref_Count s w⟩
  ·cases h
 split at h
 ·rename_i hf; subst hf
  split at h
  ·rename_i s; cases h
   exact ⟨[.string s],rfl,⟨Try.f65,Try.func65,by kernel_rfl,by kernel_rfl⟩,fun w => RidX.ref_Rid s w⟩
  ·cases h
 split at h
 ·rename_i hf; subst hf
  split at h
  ·rename_i s; split at h
   ·rename_i hs; cases h
    exact ⟨[.string s],rfl,⟨Try.f119,Try.func119,by kernel_rfl,by kernel_rfl⟩,fun w => RidX.ref_Fold s hs w⟩
   ·cases h
  ·cases h
 split at h
 ·rename_i hf; subst hf
  split at h
  ·rename_i s; split at h
   ·rename_i hs; cases h
    exact ⟨[.string s],rfl,⟨Try.f109,Try.func109,by kernel_rfl,by kernel_rfl⟩,fun w => RidX.rid_Fold s hs w⟩
   ·cases h
  ·cases h
 cases h) B
theorem mixed : G.P.follows .mixedOrders = true:=by kernel_rfl
end Go.Ev
namespace Go.Ev
open Go.Proofs
set_option linter.unusedVariables false
set_option linter.unusedSimpArgs false
set_option maxRecDepth 100000
noncomputable section
abbrev KT1:=Exit→Env→H→Option (List C × H)
variable (rec : CallF) (loop : LoopV) (σ : Stamp)
theorem zb_Within_entry (x0 : Int) (x1 : Int) (x2 : Int) (h : H) : cvBody G rec loop 21 σ [(.p (.int .i64 x0)),(.p (.int .i64 x1)),(.p (.int .i64 x2))] h =
(bif decide (x0 ≥ x1) then (some (decide (x0 ≤ x2))) else (some false)).bind fun b1 =>
bif b1 then (
fin false σ (List.replicate 33 []::h) [(.p (.int .i64 x0))])
else (
(remI .i64 x0 (IntKind.wrap .i64 ((IntKind.wrap .i64 (x2 - x1)) + 1))).bind fun t2 =>
(castI .i64 t2).bind fun n3 =>
bif decide (n3 < 0) then (
fin false σ (List.replicate 33 []::h) [(.p (.int .i64 (IntKind.wrap .i64 (x1 + (IntKind.wrap .i64 ((IntKind.wrap .i64 ((IntKind.wrap .i64 (n3 + x2)) - x1)) + 1))))))])
else (
fin false σ (List.replicate 33 []::h) [(.p (.int .i64 (IntKind.wrap .i64 (x1 + n3))))])):=by kernel_rfl
end
end Go.Ev
namespace Go.Ev
open Go.Proofs
set_option linter.unusedVariables false
set_option linter.unusedSimpArgs false
set_option maxRecDepth 100000
section
variable {β α : Type} {Q : β→α→Prop} {K : Exit × Env × H→Option α}
def p_zb_Within (x0 : Int) (x1 : Int) (x2 : Int) : Option (Int) :=
(bif decide (x0 ≥ x1) then (some (decide (x0 ≤ x2))) else (some false)).bind fun b1 =>
bif b1 then (
some (x0))
else (
(remP x0 (IntKind.wrap .i64 ((IntKind.wrap .i64 (x2 - x1)) + 1))).bind fun n6 =>
bif decide (n6 < 0) then (
some ((IntKind.wrap .i64 (x1 + (IntKind.wrap .i64 ((IntKind.wrap .i64 ((IntKind.wrap .i64 (n6 + x2)) - x1)) + 1))))))
else (
some ((IntKind.wrap .i64 (x1 + n6)))))
theorem zb_Within_ok {h : H} {σ : Stamp} (x0 : Int) (x1 : Int) (x2 : Int) : Sim (p_zb_Within x0 x1 x2) (ev G X0 21 σ [(.p (.int .i64 x0)),(.p (.int .i64 x1)),(.p (.int .i64 x2))] h) (fun r s => s = ([.v (.p (.int .i64 r))],h)):=by
 refine .ev rfl (Sim.ext (zb_Within_entry _ _ _ _ _ _ _) ?_)
 rw [p_zb_Within]
 have S0 : Fm 33 h [] [] [] (List.replicate 33 []::h):=Fm.start0
 refine .ch (P:=fun r y => r = y) ?_ (fun b1 y2 h3 h4 => ?_)
 ·refine .cq ?_ ?_
  ·exact .ret rfl rfl
  ·exact .ret rfl rfl
 subst h4
 refine .cq ?_ ?_
 ·exact .fin (S0.finN (lC (sI _ _).lv lN)) rfl
 refine .bd fun n6 h7 => ?_
 refine .op (remP_ok h7) ?_
 refine .ci ?_
 refine .cq ?_ ?_
 ·exact .fin (S0.finN (lC (sI _ _).lv lN)) rfl
 exact .fin (S0.finN (lC (sI _ _).lv lN)) rfl
end
end Go.Ev
namespace Go.Ev
theorem bytesS_len (s : ByteArray) : (bytesS s).length = s.size:=by unfold bytesS; rw [List.length_map,Array.length_toList]; rfl
theorem within_lo {x hi : Int} (h0 : 0 ≤ hi) (h1 : hi < 2 ^ 40) : ∃ r,p_zb_Within x 0 hi = some r∧0 ≤ r∧r ≤ hi:=by
 unfold p_zb_Within
 by_cases h : 0 ≤ x∧x ≤ hi
 ·refine ⟨x,?_,h.1,h.2⟩
  have e1 : decide (x ≥ 0) = true:=by simpa using h.1
  have e2 : decide (x ≤ hi) = true:=by simpa using h.2
  simp only [e1,e2,cond_true,Option.bind_some]
 ·have e : ∀ (a : Bool) (b : Bool),(a && b) = false→((bif a then (some b) else (some false)) : Option Bool) = some false:=by
   intro a b; cases a <;> cases b <;> simp
  rw [e (decide (x ≥ 0)) (decide (x ≤ hi)) (by simp; omega),Option.bind_some,cond_false]
  have w1 : IntKind.wrap .i64 (IntKind.wrap .i64 (hi - 0) + 1) = hi + 1:=by
   rw [wrap_i64 (n:=hi - 0) (by omega) (by omega),wrap_i64 (by omega) (by omega)]; omega
  have hb : -(hi + 1) < x.tmod (hi + 1)∧x.tmod (hi + 1) < hi + 1:=by
   have h1:=Int.tmod_lt_of_pos x (show 0 < hi + 1 by omega)
   have h2:=Int.neg_tmod x (hi + 1)
   have h3:=Int.tmod_lt_of_pos (-x) (show 0 < hi + 1 by omega)
   omega
  rw [w1]
  unfold remP
  rw [if_neg (by omega),Option.bind_some]
  generalize x.tmod (hi + 1) = m at hb
  by_cases hm : m < 0
  ·have : decide (m < 0) = true:=by simpa using hm
   rw [this,cond_true]
   refine ⟨_,rfl,?_⟩
   rw [wrap_i64 (n:=m + hi) (by omega) (by omega),wrap_i64 (n:=m + hi - 0) (by omega) (by omega),wrap_i64 (n:=m + hi - 0 + 1) (by omega) (by omega),wrap_i64 (by omega) (by omega)]
   omega
  ·have : decide (m < 0) = false:=by simpa using hm
   rw [this,cond_false]
   refine ⟨_,rfl,?_⟩
   rw [wrap_i64 (by omega) (by omega)]
   omega
end Go.Ev
namespace Go.Ev
open Go.Proofs
set_option linter.unusedVariables false
set_option linter.unusedSimpArgs false
set_option maxRecDepth 100000
noncomputable section
abbrev KT2:=Exit→Env→H→Option (List C × H)
variable (rec : CallF) (loop : LoopV) (σ : Stamp)
theorem zk_Tape_Next_entry (x0 : V) (x1 : Int) (h : H) : cvBody G rec loop 51 σ [x0,(.p (.int .i64 x1))] h =
(nilChk x0).bind fun t1 =>
(fA t1 1).bind fun t2 =>
(ldO false 1 (List.replicate 40 []::h) t2).bind fun t3 =>
(castI .i64 t3).bind fun n4 =>
(nilChk x0).bind fun t5 =>
(fA t5 0).bind fun t6 =>
(ldO false 1 (List.replicate 40 []::h) t6).bind fun t7 =>
(lenO t7).bind fun t8 =>
(castI .i64 t8).bind fun n9 =>
(bif decide (n4 ≥ n9) then (some true) else (some (decide (x1 < 1)))).bind fun b10 =>
bif b10 then (
fin false σ (List.replicate 40 []::h) [(.p (.int .i64 0))])
else (
(nilChk x0).bind fun t11 =>
(fA t11 1).bind fun t12 =>
(ldO false 1 (List.replicate 40 []::h) t12).bind fun t13 =>
(castI .i64 t13).bind fun n14 =>
(nilChk x0).bind fun t15 =>
(fA t15 1).bind fun t16 =>
((stO true 1 (7::0::1::1::0::σ) (List.replicate 40 []::h) t16 (.p (.int .i64 (IntKind.wrap .i64 (n14 + 1))))).map fun h => (udf,h)).bind fun q17 =>
(nilChk x0).bind fun t18 =>
(fA t18 0).bind fun t19 =>
(ldO false 1 q17.2 t19).bind fun t20 =>
(nilChk x0).bind fun t21 =>
(fA t21 1).bind fun t22 =>
(ldO false 1 q17.2 t22).bind fun t23 =>
(castI .i64 t23).bind fun n24 =>
(iS 1 t20 (IntKind.wrap .i64 (n24 - 1))).bind fun t25 =>
(ldO false 1 q17.2 t25).bind fun t26 =>
(castI .i64 t26).bind fun n27 =>
(callO rec 21 (11::0::1::1::1::0::σ) [(.p (.int .i64 n27)),(.p (.int .i64 0)),(.p (.int .i64 1073741824))] q17.2 (some 37)).bind fun q28 =>
(castI .i64 q28.1).bind fun n29 =>
(remI .i64 n29 x1).bind fun t30 =>
(castI .i64 t30).bind fun n31 =>
fin false σ q28.2 [(.p (.int .i64 n31))]):=by kernel_rfl
end
end Go.Ev
namespace Go.Ev
open Go.Proofs
set_option linter.unusedVariables false
set_option linter.unusedSimpArgs false
set_option maxRecDepth 100000
section
variable {β α : Type} {Q : β→α→Prop} {K : Exit × Env × H→Option α}
def p_zk_Tape_Next (x0 : TzTape) (x1 : Int) : Option (Int × TzTape) :=
(bif decide (x0.f_At ≥ ((x0.f_L.length : Int))) then (some true) else (some (decide (x1 < 1)))).bind fun b1 =>
bif b1 then (
some (0,x0))
else (
(ix x0.f_L (IntKind.wrap .i64 ((IntKind.wrap .i64 (x0.f_At + 1)) - 1))).bind fun a9 =>
(p_zb_Within a9 0 1073741824).bind fun r12 =>
(remP r12 x1).bind fun n17 =>
some (n17,(⟨x0.f_L,(IntKind.wrap .i64 (x0.f_At + 1))⟩ : TzTape)))
theorem zk_Tape_Next_ok {h : H} {σ : Stamp} (x0 : TzTape) {u0_0 : V} (hu0_0 : SlF (dI .i64) x0.f_L u0_0) {l0 : Loc} {o0 : Nat} (ha0 : AtC h l0 o0 (List.map C.v [u0_0,(.p (.int .i64 x0.f_At))])) (x1 : Int) : Sim (p_zk_Tape_Next x0 x1) (ev G X0 51 σ [(.ref l0 o0),(.p (.int .i64 x1))] h) (fun r s => ∃ (vb0_0 : V),SlF (dI .i64) r.2.f_L vb0_0∧s = ([.v (.p (.int .i64 r.1))],pts h [⟨l0,o0,[.v vb0_0,.v (.p (.int .i64 r.2.f_At))]⟩])):=by
 refine .ev rfl (Sim.ext (zk_Tape_Next_entry _ _ _ _ _ _) ?_)
 rw [p_zk_Tape_Next]
 have S0 : Fm 40 h [⟨l0,o0,List.map C.v [u0_0,(.p (.int .i64 x0.f_At))]⟩] [] [] (List.replicate 40 []::h):=Fm.start1 ha0
 refine .nc ?_
 refine .fa ?_
 refine .op ((S0.atB (i:=0) rfl).ld (j:=1) rfl) ?_
 refine .ci ?_
 refine .nc ?_
 refine .fa ?_
 refine .op ((S0.atB (i:=0) rfl).ld (j:=0) rfl) ?_
 refine .op ((hu0_0.h (List.replicate 40 []::h)).len) ?_
 refine .ci ?_
 refine .ch (P:=fun r y => r = y) ?_ (fun b1 y2 h3 h4 => ?_)
 ·refine .cq ?_ ?_
  ·exact .ret rfl rfl
  ·exact .ret rfl rfl
 subst h4
 refine .cq ?_ ?_
 ·exact .fin (S0.finN (lC (sI _ _).lv lN)) ⟨u0_0,hu0_0,rfl⟩
 refine .nc ?_
 refine .fa ?_
 refine .op ((S0.atB (i:=0) rfl).ld (j:=1) rfl) ?_
 refine .ci ?_
 refine .nc ?_
 refine .fa ?_
 obtain ⟨H6,e7,S8⟩:=S0.stB (i:=0) (j:=1) (own:=true) (σ:=(7::0::1::1::0::σ)) (x:=(.p (.int .i64 (IntKind.wrap .i64 (x0.f_At + 1))))) rfl (sI _ _) rfl
 refine .op (sM e7) ?_
 refine .nc ?_
 refine .fa ?_
 refine .op ((S8.atB (i:=0) rfl).ld (j:=0) rfl) ?_
 refine .nc ?_
 refine .fa ?_
 refine .op ((S8.atB (i:=0) rfl).ld (j:=1) rfl) ?_
 refine .ci ?_
 refine .bd fun a9 h10 => ?_
 refine .op ((hu0_0.h H6).iS h10 rfl) ?_
 obtain ⟨_,rfl,hE11⟩:=(hu0_0.h H6).el h10 rfl
 refine .op (hE11.ld (j:=0) rfl) ?_
 refine .ci ?_
 refine .call (zb_Within_ok a9 0 1073741824) fun r12 cs13 H14 h15 q16 => ?_
 cases q16
 refine .ci ?_
 refine .bd fun n17 h18 => ?_
 refine .op (remP_ok h18) ?_
 refine .ci ?_
 exact .fin (S8.finN (lC (sI _ _).lv lN)) ⟨u0_0,hu0_0,rfl⟩
end
end Go.Ev
namespace Go.Ev
def isB (xs : List Int) : Prop:=∀ x ∈ xs,0 ≤ x∧x < 256
def TP (t : TzTape) : Prop:=0 ≤ t.f_At∧t.f_At ≤ t.f_L.length∧t.f_L.length < 2 ^ 50
theorem next_tape {t : TzTape} (h : TP t) {n : Int} (h1 : 1 ≤ n) : ∃ r t',p_zk_Tape_Next t n = some (r,t')∧(0 ≤ r∧r < n)∧TP t':=by
 obtain ⟨a1,a2,a3⟩:=h
 unfold p_zk_Tape_Next
 have e2 : decide (n < 1) = false:=by simp; omega
 by_cases hc : t.f_At ≥ t.f_L.length
 ·have e1 : decide (t.f_At ≥ (t.f_L.length : Int)) = true:=by simpa using hc
  simp only [e1,cond_true,Option.bind_some]
  exact ⟨0,t,rfl,⟨by omega,by omega⟩,a1,a2,a3⟩
 ·have e1 : decide (t.f_At ≥ (t.f_L.length : Int)) = false:=by simpa using hc
  obtain ⟨i,hi⟩ : ∃ i : Nat,t.f_At = i:=⟨t.f_At.toNat,by omega⟩
  have hlt : i < t.f_L.length:=by omega
  have w1 : IntKind.wrap .i64 (t.f_At + 1) = t.f_At + 1:=wrap_i64 (by omega) (by omega)
  have w2 : IntKind.wrap .i64 (t.f_At + 1 - 1) = (i : Int):=by rw [wrap_i64 (by omega) (by omega)]; omega
  have hx : ix t.f_L (i : Int) = some t.f_L[i]:=ix_at (by simp [hlt])
  obtain ⟨r,hr,r0,r1⟩:=within_lo (x:=t.f_L[i]) (hi:=1073741824) (by omega) (by omega)
  simp only [e1,e2,cond_false,Option.bind_some,w1,w2,hx,hr]
  unfold remP
  rw [if_neg (by omega),Option.bind_some]
  refine ⟨_,_,rfl,⟨Int.tmod_nonneg _ r0,Int.tmod_lt_of_pos _ (by omega)⟩,?_⟩
  unfold TP
  simp only
  omega
theorem tape_eta (t : TzTape) : (⟨t.f_L,t.f_At⟩ : TzTape) = t:=rfl
end Go.Ev
namespace Go.Ev
open Go.Proofs
set_option linter.unusedVariables false
set_option linter.unusedSimpArgs false
set_option maxRecDepth 100000
noncomputable section
abbrev KT3:=Exit→Env→H→Option (List C × H)
variable (rec : CallF) (loop : LoopV) (σ : Stamp)
def ctl_Layers_c0 : Code:=(codeAt (bodyOf Try.f34) [1,1,0,1,0,0])
def ctl_Layers_l0 : Lv:=⟨0,4,[(0,0)]⟩
def ctl_Layers_k0 : KT3:=(kBlock 0 (kSeq G rec loop (codeAt (bodyOf Try.f34) [1,1,1]) ⟨4,4,[]⟩ (1::1::0::σ) (finC G false Try.f34 (1::σ))))
theorem ctl_Layers_entry (x0 : V) (h : H) : cvBody G rec loop 34 σ [x0] h =
(lenO x0).bind fun t1 =>
(castI .i64 t1).bind fun n2 =>
(bif decide (n2 < 1) then (some true) else ((lenO x0).bind fun t3 =>
(castI .i64 t3).bind fun n4 =>
some (decide (n4 > 3)))).bind fun b5 =>
bif b5 then (
fin false σ (List.replicate 55 []::h) [(.p (.int .i64 26))])
else (
(lenO x0).bind fun t6 =>
(castI .i64 t6).bind fun n7 =>
(loop ctl_Layers_c0 ctl_Layers_l0 (1::0::1::1::0::σ) (envL [(0,x0),(13,x0),(14,(.p (.int .i64 n7))),(15,(.p (.int .i64 0)))]) (List.replicate 55 []::h)).bind fun r8 => ctl_Layers_k0 rec loop σ r8.1 r8.2.1 r8.2.2):=by kernel_rfl
theorem ctl_Layers_r0 (x0 : V) (x13 : V) (x14 : Int) (x15 : Int) (h : H) : cvRound G rec loop ctl_Layers_c0 ctl_Layers_l0 σ (envL [(0,x0),(13,x13),(14,(.p (.int .i64 x14))),(15,(.p (.int .i64 x15)))]) h =
bif decide (x15 < x14) then (
(iS 3 x13 x15).bind fun t9 =>
(ldO true 3 h t9).bind fun t10 =>
(some (alO [.p (.string (⟨#[]⟩ : ByteArray)),.p (.int .u32 0),.p (.int .i64 0)] (3::0::0::1::1::0::σ) 4 h)).bind fun q11 =>
((stO false 3 (5::0::0::1::1::0::σ) q11.2 q11.1 t10).map fun h => (udf,h)).bind fun q12 =>
(fA q11.1 0).bind fun t13 =>
(ldO false 1 q12.2 t13).bind fun t14 =>
(castS t14).bind fun s15 =>
(callO rec 64 (2::0::0::1::0::1::1::0::σ) [(.p (.string s15))] q12.2 (some 22)).bind fun q16 =>
(asB q16.1).bind fun b17 =>
(bif !b17 then (some true) else ((fA q11.1 2).bind fun t18 =>
(ldO false 1 q16.2 t18).bind fun t19 =>
(castI .i64 t19).bind fun n20 =>
some (decide (n20 < 1)))).bind fun b21 =>
(bif b21 then (some true) else ((fA q11.1 2).bind fun t22 =>
(ldO false 1 q16.2 t22).bind fun t23 =>
(castI .i64 t23).bind fun n24 =>
some (decide (n24 > 8192)))).bind fun b25 =>
(bif b25 then (some true) else ((bif decide (x15 > 0) then ((fA q11.1 2).bind fun t26 =>
(ldO false 1 q16.2 t26).bind fun t27 =>
(castI .i64 t27).bind fun n28 =>
(iS 3 x0 (IntKind.wrap .i64 (x15 - 1))).bind fun t29 =>
(fA t29 2).bind fun t30 =>
(ldO false 1 q16.2 t30).bind fun t31 =>
(castI .i64 t31).bind fun n32 =>
some (decide (n28 ≤ n32))) else (some false)).bind fun b33 =>
some b33)).bind fun b34 =>
bif b34 then (
some (.ret,(envL [(2,(.p (.int .i64 26)))]),q16.2))
else (
(slS 3 x0 none (some x15) none).bind fun t35 =>
(callO rec 74 (4::0::1::1::0::1::1::0::σ) [t35,(.clo 75 [q11.1])] q16.2 (some 53)).bind fun q36 =>
(asB q36.1).bind fun b37 =>
bif b37 then (
some (.ret,(envL [(2,(.p (.int .i64 26)))]),q36.2))
else (
loop ctl_Layers_c0 ctl_Layers_l0 (1::σ) (envL [(0,x0),(13,x13),(14,(.p (.int .i64 x14))),(15,(.p (.int .i64 (IntKind.wrap .i64 (x15 + 1)))))]) q36.2)))
else (
some ((.exit 0),(envL []),h)):=by kernel_rfl
theorem ctl_Layers_a0_0  (h : H) : ctl_Layers_k0 rec loop σ (.exit 0) (envL []) h =
fin false σ h [(.p (.int .i64 0))]:=by kernel_rfl
theorem ctl_Layers_a0_ret (x2 : Int) (h : H) : ctl_Layers_k0 rec loop σ .ret (envL [(2,(.p (.int .i64 x2)))]) h =
fin false σ h [(.p (.int .i64 x2))]:=by kernel_rfl
end
end Go.Ev
namespace Go.Ev
open Go.Proofs
set_option linter.unusedVariables false
set_option linter.unusedSimpArgs false
set_option maxRecDepth 100000
section
variable {β α : Type} {Q : β→α→Prop} {K : Exit × Env × H→Option α}
def p_rid_Right (x0 : ByteArray) : Option Bool:=some (RidX.rightB x0)
theorem rid_Right_ok {h : H} {σ : Stamp} (x0 : ByteArray) : Sim (p_rid_Right x0) (ev G X0 64 σ [(.p (.string x0))] h) (fun r s => s = ([.v (.p (.bool r))],h)):=Sim.told (ev_ext rfl)
end
end Go.Ev
namespace Go.Ev
open Go.Proofs
set_option linter.unusedVariables false
set_option linter.unusedSimpArgs false
set_option maxRecDepth 100000
noncomputable section
abbrev KT4:=Exit→Env→H→Option (List C × H)
variable (rec : CallF) (loop : LoopV) (σ : Stamp)
theorem slices_ContainsFunc_Lapi_Layer_api_Layer_entry (x0 : V) (x1 : V) (h : H) : cvBody G rec loop 74 σ [x0,x1] h =
(callO rec 108 (2::0::1::0::σ) [x0,x1] (List.replicate 9 []::h) (some 7)).bind fun q1 =>
(castI .i64 q1.1).bind fun n2 =>
fin false σ q1.2 [(.p (.bool (decide (n2 ≥ 0))))]:=by kernel_rfl
def slices_IndexFunc_Lapi_Layer_api_Layer_c0 : Code:=(codeAt (bodyOf Try.f108) [1,0,1,0,0])
def slices_IndexFunc_Lapi_Layer_api_Layer_l0 : Lv:=⟨0,16,[(0,0)]⟩
def slices_IndexFunc_Lapi_Layer_api_Layer_k0 : KT4:=(kBlock 0 (kSeq G rec loop (codeAt (bodyOf Try.f108) [1,1]) ⟨16,16,[]⟩ (1::0::σ) (finC G false Try.f108 (1::σ))))
theorem slices_IndexFunc_Lapi_Layer_api_Layer_entry (x0 : V) (x1 : V) (h : H) : cvBody G rec loop 108 σ [x0,x1] h =
(lenO x0).bind fun t1 =>
(castI .i64 t1).bind fun n2 =>
(loop slices_IndexFunc_Lapi_Layer_api_Layer_c0 slices_IndexFunc_Lapi_Layer_api_Layer_l0 (1::0::1::0::σ) (envL [(0,x0),(1,x1),(7,(.p (.int .i64 n2))),(8,(.p (.int .i64 0)))]) (List.replicate 19 []::h)).bind fun r3 => slices_IndexFunc_Lapi_Layer_api_Layer_k0 rec loop σ r3.1 r3.2.1 r3.2.2:=by kernel_rfl
theorem slices_IndexFunc_Lapi_Layer_api_Layer_r0 (x0 : V) (x1 : V) (x7 : Int) (x8 : Int) (h : H) : cvRound G rec loop slices_IndexFunc_Lapi_Layer_api_Layer_c0 slices_IndexFunc_Lapi_Layer_api_Layer_l0 σ (envL [(0,x0),(1,x1),(7,(.p (.int .i64 x7))),(8,(.p (.int .i64 x8)))]) h =
bif decide (x8 < x7) then (
(iS 3 x0 x8).bind fun t4 =>
(ldO true 3 h t4).bind fun t5 =>
(cloO rec x1 (5::0::1::0::1::1::0::σ) [t5] h (some 16)).bind fun q6 =>
(asB q6.1).bind fun b7 =>
bif b7 then (
some (.ret,(envL [(4,(.p (.int .i64 x8)))]),q6.2))
else (
loop slices_IndexFunc_Lapi_Layer_api_Layer_c0 slices_IndexFunc_Lapi_Layer_api_Layer_l0 (1::σ) (envL [(0,x0),(1,x1),(7,(.p (.int .i64 x7))),(8,(.p (.int .i64 (IntKind.wrap .i64 (x8 + 1)))))]) q6.2))
else (
some ((.exit 0),(envL []),h)):=by kernel_rfl
theorem slices_IndexFunc_Lapi_Layer_api_Layer_a0_0  (h : H) : slices_IndexFunc_Lapi_Layer_api_Layer_k0 rec loop σ (.exit 0) (envL []) h =
fin false σ h [(.p (.int .i64 (-1)))]:=by kernel_rfl
theorem slices_IndexFunc_Lapi_Layer_api_Layer_a0_ret (x4 : Int) (h : H) : slices_IndexFunc_Lapi_Layer_api_Layer_k0 rec loop σ .ret (envL [(4,(.p (.int .i64 x4)))]) h =
fin false σ h [(.p (.int .i64 x4))]:=by kernel_rfl
theorem ctl_Layers_1_entry (x0 : V) (x1 : V) (h : H) : cvBody G rec loop 75 σ [x0,x1] h =
(boxO false (0::0::0::σ) 2 (List.replicate 16 []::h) x0).bind fun q1 =>
(fA q1.1 1).bind fun t2 =>
(ldO false 1 q1.2 t2).bind fun t3 =>
(castI .u32 t3).bind fun n4 =>
(fA x1 1).bind fun t5 =>
(ldO false 1 q1.2 t5).bind fun t6 =>
(castI .u32 t6).bind fun n7 =>
(bif n4 == n7 then (some ((.p (.bool true)),q1.2)) else ((fA q1.1 0).bind fun t8 =>
(ldO false 1 q1.2 t8).bind fun t9 =>
(castS t9).bind fun s10 =>
(fA x1 0).bind fun t11 =>
(ldO false 1 q1.2 t11).bind fun t12 =>
(castS t12).bind fun s13 =>
(callO rec 76 (10::0::1::0::σ) [(.p (.string s10)),(.p (.string s13))] q1.2 (some 14)).bind fun q14 =>
(asB q14.1).bind fun b15 =>
some ((.p (.bool b15)),q14.2))).bind fun q16 =>
(asB q16.1).bind fun b17 =>
fin false σ q16.2 [(.p (.bool b17))]:=by kernel_rfl
theorem rid_Same_entry (x0 : ByteArray) (x1 : ByteArray) (h : H) : cvBody G rec loop 76 σ [(.p (.string x0)),(.p (.string x1))] h =
(callO rec 109 (1::0::1::0::σ) [(.p (.string x0))] (List.replicate 10 []::h) (some 6)).bind fun q1 =>
(castS q1.1).bind fun s2 =>
(callO rec 109 (3::0::1::0::σ) [(.p (.string x1))] q1.2 (some 8)).bind fun q3 =>
(castS q3.1).bind fun s4 =>
fin false σ q3.2 [(.p (.bool (s2.toList == s4.toList)))]:=by kernel_rfl
end
end Go.Ev
namespace Go.Ev
open Go.Proofs
set_option linter.unusedVariables false
set_option linter.unusedSimpArgs false
set_option maxRecDepth 100000
section
variable {β α : Type} {Q : β→α→Prop} {K : Exit × Env × H→Option α}
def p_rid_Fold (x0 : ByteArray) : Option ByteArray:=if x0.size < 2 ^ 40 then some (RidX.foldB x0) else none
theorem rid_Fold_ok {h : H} {σ : Stamp} (x0 : ByteArray) : Sim (p_rid_Fold x0) (ev G X0 109 σ [(.p (.string x0))] h) (fun r s => s = ([.v (.p (.string r))],h)):=by
 unfold p_rid_Fold
 split
 ·rename_i hs
  exact .told (s:=([.v (.p (.string (RidX.foldB x0)))],h)) (ev_ext (by simp only [X0,plainX,XT]; simp [hs])) rfl
 ·exact .no
def p_rid_Same (x0 : ByteArray) (x1 : ByteArray) : Option (Bool) :=
(p_rid_Fold x0).bind fun r1 =>
(p_rid_Fold x1).bind fun r6 =>
some ((r1.toList == r6.toList))
theorem rid_Same_ok {h : H} {σ : Stamp} (x0 : ByteArray) (x1 : ByteArray) : Sim (p_rid_Same x0 x1) (ev G X0 76 σ [(.p (.string x0)),(.p (.string x1))] h) (fun r s => s = ([.v (.p (.bool r))],h)):=by
 refine .ev rfl (Sim.ext (rid_Same_entry _ _ _ _ _ _) ?_)
 rw [p_rid_Same]
 have S0 : Fm 10 h [] [] [] (List.replicate 10 []::h):=Fm.start0
 refine .call (rid_Fold_ok x0) fun r1 cs2 H3 h4 q5 => ?_
 cases q5
 refine .op (castS_p _) ?_
 refine .call (rid_Fold_ok x1) fun r6 cs7 H8 h9 q10 => ?_
 cases q10
 refine .op (castS_p _) ?_
 exact .fin (S0.finN (lC (sB _).lv lN)) rfl
def p_ctl_Layers_1 (x0 : TaiLayer) (x1 : TaiLayer) : Option (Bool) :=
(bif x0.Ssrc == x1.Ssrc then (some true) else ((p_rid_Same x0.Rid x1.Rid).bind fun r5 =>
some r5)).bind fun b10 =>
some (b10)
theorem ctl_Layers_1_ok {h : H} {σ : Stamp} (x0 : TaiLayer) {u0 : List V} (hu0 : dTaiLayer.R x0 u0) (x1 : TaiLayer)  {l1 : Loc} {o1 : Nat} (ha1 : AtC h l1 o1 (List.map C.v [(.p (.string x1.Rid)),(.p (.int .u32 x1.Ssrc)),(.p (.int .i64 x1.Height))])) : Sim (p_ctl_Layers_1 x0 x1) (ev G X0 75 σ [(.agg u0),(.ref l1 o1)] h) (fun r s => s = ([.v (.p (.bool r))],h)):=by
 refine .ev rfl (Sim.ext (ctl_Layers_1_entry _ _ _ _ _ _) ?_)
 rw [p_ctl_Layers_1]
 obtain rfl:=dTaiLayer.inv hu0
 have S0 : Fm 16 h [] [] [] (List.replicate 16 []::h):=Fm.start0
 obtain ⟨H1,e2,S3⟩:=S0.box (own:=false) (d:=2) (s:=(0::0::0::σ)) (xs:=[(.p (.string x0.Rid)),(.p (.int .u32 x0.Ssrc)),(.p (.int .i64 x0.Height))]) (sC (still_str _) (sC (sI _ _) (sC (sI _ _) sN))) (by decide) rfl
 refine .op (e2) ?_
 refine .fa ?_
 refine .op ((S3.atG (i:=0) rfl).ld (j:=1) rfl) ?_
 refine .ci ?_
 refine .fa ?_
 refine .op ((S3.lowA ha1).ld (j:=1) rfl) ?_
 refine .ci ?_
 refine .ch (P:=fun r y => (.p (.bool r),H1) = y) ?_ (fun b10 y11 h12 h13 => ?_)
 ·refine .cq ?_ ?_
  ·exact .ret rfl rfl
  ·refine .fa ?_
   refine .op ((S3.atG (i:=0) rfl).ld (j:=0) rfl) ?_
   refine .op (castS_p _) ?_
   refine .fa ?_
   refine .op ((S3.lowA ha1).ld (j:=0) rfl) ?_
   refine .op (castS_p _) ?_
   refine .call (rid_Same_ok x0.Rid x1.Rid) fun r5 cs6 H7 h8 q9 => ?_
   cases q9
   refine .ab ?_
   exact .ret rfl rfl
 subst h13
 refine .ab ?_
 exact .fin (S3.finN (lC (sB _).lv lN)) rfl
def p_slices_IndexFunc_Lapi_Layer_api_Layer_ctl_Layers_1_l0 {β : Type} (k : Nat) (kE0 : Unit→Option β) (kE1 : Int→Option β) (x0 : (List TaiLayer)) (x1c0 : TaiLayer) (x7 : Int) (x8 : Int) : Option β:=match k with
| 0 => none
| k + 1 =>
bif decide (x8 < x7) then (
(ix x0 x8).bind fun a10 =>
(p_ctl_Layers_1 a10 x1c0).bind fun r15 =>
bif r15 then (
kE1 x8)
else (
p_slices_IndexFunc_Lapi_Layer_api_Layer_ctl_Layers_1_l0 k kE0 kE1 x0 x1c0 x7 (IntKind.wrap .i64 (x8 + 1))))
else (
kE0 ())
def p_slices_IndexFunc_Lapi_Layer_api_Layer_ctl_Layers_1 (k : Nat) (x0 : (List TaiLayer)) (x1c0 : TaiLayer) : Option (Int) :=
p_slices_IndexFunc_Lapi_Layer_api_Layer_ctl_Layers_1_l0 k (fun (_ : Unit) =>
some ((-1))) (fun r28_4 =>
some (r28_4)) x0 x1c0 ((x0.length : Int)) 0
theorem slices_IndexFunc_Lapi_Layer_api_Layer_ctl_Layers_1_l0_ok {h : H}  {kE0 : Unit→Option β} {kE1 : Int→Option β} (hE0 : ∀ (_u : Unit) (H21 : Go.Ev.H) (_ : Fm 19 h [] [] [] H21),Sim (kE0 ()) (K ((.exit 0),(envL []),H21)) Q) (hE1 : ∀ (q4 : Int) (H23 : Go.Ev.H) (_ : Fm 19 h [] [] [] H23),Sim (kE1 q4) (K (.ret,(envL [(4,(.p (.int .i64 q4)))]),H23)) Q) (k : Nat) : ∀ (x0 : (List TaiLayer)) (x1c0 : TaiLayer) (x7 : Int) (x8 : Int) (v3 : V) (h4 : SlH h dTaiLayer x0 v3) (lr5 : Loc) (or6 : Nat) (har7 : AtC h lr5 or6 (List.map C.v [(.p (.string x1c0.Rid)),(.p (.int .u32 x1c0.Ssrc)),(.p (.int .i64 x1c0.Height))])) (H1 : Go.Ev.H) (_ : Fm 19 h [] [] [] H1) {σ : Stamp},Sim (p_slices_IndexFunc_Lapi_Layer_api_Layer_ctl_Layers_1_l0 k kE0 kE1 x0 x1c0 x7 x8) ((cvL G X0 slices_IndexFunc_Lapi_Layer_api_Layer_c0 slices_IndexFunc_Lapi_Layer_api_Layer_l0 σ (envL [(0,v3),(1,(.clo 75 [(.ref lr5 or6)])),(7,(.p (.int .i64 x7))),(8,(.p (.int .i64 x8)))]) H1).bind K) Q:=by
 induction k with
 | zero => intros; exact .no
 | succ k ih =>
  intro x0 x1c0 x7 x8 v3 h4 lr5 or6 har7 H1 S2 σ
  rw [p_slices_IndexFunc_Lapi_Layer_api_Layer_ctl_Layers_1_l0]
  refine .round (Sim.ext (slices_IndexFunc_Lapi_Layer_api_Layer_r0 _ _ _ _ _ _ _ _) ?_)
  refine .cq ?_ ?_
  ·refine .bd fun a10 h11 => ?_
   refine .op ((S2.low h4).iS h11 rfl) ?_
   obtain ⟨w13,h14,hE12⟩:=(S2.low h4).el h11 rfl
   obtain rfl:=dTaiLayer.inv h14
   refine .op (hE12.all (by simp)) ?_
   refine .clo ?_
   refine .call (ctl_Layers_1_ok a10 (show dTaiLayer.R a10 [.p (.string a10.Rid),.p (.int .u32 a10.Ssrc),.p (.int .i64 a10.Height)] from (dTaiLayer.mk)) x1c0 (S2.lowA har7)) fun r15 cs16 H17 h18 q19 => ?_
   cases q19
   refine .ab ?_
   refine .cq ?_ ?_
   ·exact hE1 x8 H1 (S2.wk2 aN aN)
   exact ih x0 x1c0 x7 (IntKind.wrap .i64 (x8 + 1)) v3 h4 lr5 or6 har7 H1 (S2.wk2 aN aN)
  exact hE0 () H1 (S2.wk2 aN aN)
theorem slices_IndexFunc_Lapi_Layer_api_Layer_ctl_Layers_1_ok (k : Nat) {h : H} {σ : Stamp} (x0 : List TaiLayer) {u0 : V} (hu0 : SlH h dTaiLayer x0 u0) (x1c0 : TaiLayer)  {l1c0 : Loc} {o1c0 : Nat} (ha1c0 : AtC h l1c0 o1c0 (List.map C.v [(.p (.string x1c0.Rid)),(.p (.int .u32 x1c0.Ssrc)),(.p (.int .i64 x1c0.Height))])) : Sim (p_slices_IndexFunc_Lapi_Layer_api_Layer_ctl_Layers_1 k x0 x1c0) (ev G X0 108 σ [u0,(.clo 75 [(.ref l1c0 o1c0)])] h) (fun r s => s = ([.v (.p (.int .i64 r))],h)):=by
 refine .ev rfl (Sim.ext (slices_IndexFunc_Lapi_Layer_api_Layer_entry _ _ _ _ _ _) ?_)
 rw [p_slices_IndexFunc_Lapi_Layer_api_Layer_ctl_Layers_1]
 have S0 : Fm 19 h [] [] [] (List.replicate 19 []::h):=Fm.start0
 refine .op ((S0.low hu0).len) ?_
 refine .ci ?_
 refine .as (slices_IndexFunc_Lapi_Layer_api_Layer_ctl_Layers_1_l0_ok ?_ ?_ k x0 x1c0 ((x0.length : Int)) 0 u0 hu0 l1c0 o1c0 ha1c0 (List.replicate 19 []::h) (S0.wk2 aN aN))
 ·intro _u H26 S27
  refine .ext (slices_IndexFunc_Lapi_Layer_api_Layer_a0_0 _ _ _ _) ?_
  exact .fin (S27.finN (lC (sI _ _).lv lN)) rfl
 ·intro r28_4 H29 S30
  refine .ext (slices_IndexFunc_Lapi_Layer_api_Layer_a0_ret _ _ _ _ _) ?_
  exact .fin (S30.finN (lC (sI _ _).lv lN)) rfl
def p_slices_ContainsFunc_Lapi_Layer_api_Layer_ctl_Layers_1 (k : Nat) (x0 : (List TaiLayer)) (x1c0 : TaiLayer) : Option (Bool) :=
(p_slices_IndexFunc_Lapi_Layer_api_Layer_ctl_Layers_1 k x0 x1c0).bind fun r1 =>
some ((decide (r1 ≥ 0)))
theorem slices_ContainsFunc_Lapi_Layer_api_Layer_ctl_Layers_1_ok (k : Nat) {h : H} {σ : Stamp} (x0 : List TaiLayer) {u0 : V} (hu0 : SlH h dTaiLayer x0 u0) (x1c0 : TaiLayer)  {l1c0 : Loc} {o1c0 : Nat} (ha1c0 : AtC h l1c0 o1c0 (List.map C.v [(.p (.string x1c0.Rid)),(.p (.int .u32 x1c0.Ssrc)),(.p (.int .i64 x1c0.Height))])) : Sim (p_slices_ContainsFunc_Lapi_Layer_api_Layer_ctl_Layers_1 k x0 x1c0) (ev G X0 74 σ [u0,(.clo 75 [(.ref l1c0 o1c0)])] h) (fun r s => s = ([.v (.p (.bool r))],h)):=by
 refine .ev rfl (Sim.ext (slices_ContainsFunc_Lapi_Layer_api_Layer_entry _ _ _ _ _ _) ?_)
 rw [p_slices_ContainsFunc_Lapi_Layer_api_Layer_ctl_Layers_1]
 have S0 : Fm 9 h [] [] [] (List.replicate 9 []::h):=Fm.start0
 refine .call (slices_IndexFunc_Lapi_Layer_api_Layer_ctl_Layers_1_ok k x0 (S0.low hu0) x1c0 (S0.lowA ha1c0)) fun r1 cs2 H3 h4 q5 => ?_
 cases q5
 refine .ci ?_
 exact .fin (S0.finN (lC (sB _).lv lN)) rfl
def p_ctl_Layers_l0 {β : Type} (k : Nat) (kE0 : Unit→Option β) (kE1 : Int→Option β) (x0 : (List TaiLayer)) (x13 : (List TaiLayer)) (x14 : Int) (x15 : Int) : Option β:=match k with
| 0 => none
| k + 1 =>
bif decide (x15 < x14) then (
(ix x13 x15).bind fun a13 =>
(p_rid_Right a13.Rid).bind fun r25 =>
(bif !r25 then (some true) else (some (decide (a13.Height < 1)))).bind fun b30 =>
(bif b30 then (some true) else (some (decide (a13.Height > 8192)))).bind fun b34 =>
(bif b34 then (some true) else ((bif decide (x15 > 0) then ((ix x0 (IntKind.wrap .i64 (x15 - 1))).bind fun a38 =>
some (decide (a13.Height ≤ a38.Height))) else (some false)).bind fun b46 =>
some b46)).bind fun b50 =>
bif b50 then (
kE1 26)
else (
(sub x0 0 x15).bind fun a55 =>
(p_slices_ContainsFunc_Lapi_Layer_api_Layer_ctl_Layers_1 k a55 a13).bind fun r57 =>
bif r57 then (
kE1 26)
else (
p_ctl_Layers_l0 k kE0 kE1 x0 x13 x14 (IntKind.wrap .i64 (x15 + 1)))))
else (
kE0 ())
def p_ctl_Layers (k : Nat) (x0 : (List TaiLayer)) : Option (Int) :=
(bif decide (((x0.length : Int)) < 1) then (some true) else (some (decide (((x0.length : Int)) > 3)))).bind fun b1 =>
bif b1 then (
some (26))
else (
p_ctl_Layers_l0 k (fun (_ : Unit) =>
some (0)) (fun r70_2 =>
some (r70_2)) x0 x0 ((x0.length : Int)) 0)
theorem ctl_Layers_l0_ok {h : H}  {kE0 : Unit→Option β} {kE1 : Int→Option β} (hE0 : ∀ (_u : Unit) (H63 : Go.Ev.H) (_ : Fm 55 h [] [] [] H63),Sim (kE0 ()) (K ((.exit 0),(envL []),H63)) Q) (hE1 : ∀ (q2 : Int) (H65 : Go.Ev.H) (_ : Fm 55 h [] [] [] H65),Sim (kE1 q2) (K (.ret,(envL [(2,(.p (.int .i64 q2)))]),H65)) Q) (k : Nat) : ∀ (x0 : (List TaiLayer)) (x13 : (List TaiLayer)) (x14 : Int) (x15 : Int) (v8 : V) (h9 : SlH h dTaiLayer x0 v8) (v10 : V) (h11 : SlH h dTaiLayer x13 v10) (H6 : Go.Ev.H) (_ : Fm 55 h [] [] [] H6) {σ : Stamp},Sim (p_ctl_Layers_l0 k kE0 kE1 x0 x13 x14 x15) ((cvL G X0 ctl_Layers_c0 ctl_Layers_l0 σ (envL [(0,v8),(13,v10),(14,(.p (.int .i64 x14))),(15,(.p (.int .i64 x15)))]) H6).bind K) Q:=by
 induction k with
 | zero => intros; exact .no
 | succ k ih =>
  intro x0 x13 x14 x15 v8 h9 v10 h11 H6 S7 σ
  rw [p_ctl_Layers_l0]
  refine .round (Sim.ext (ctl_Layers_r0 _ _ _ _ _ _ _ _) ?_)
  refine .cq ?_ ?_
  ·refine .bd fun a13 h14 => ?_
   refine .op ((S7.low h11).iS h14 rfl) ?_
   obtain ⟨w16,h17,hE15⟩:=(S7.low h11).el h14 rfl
   obtain rfl:=dTaiLayer.inv h17
   refine .op (hE15.all (by simp)) ?_
   obtain ⟨H18,e19,S20⟩:=S7.al (d:=4) (s:=(3::0::0::1::1::0::σ)) (z:=[(.p (.string ((⟨#[]⟩ : ByteArray)))),(.p (.int .u32 0)),(.p (.int .i64 0))]) (by decide) rfl
   refine .op (congrArg some e19) ?_
   obtain ⟨H22,e23,S24⟩:=S20.stGv (i:=0) (j:=0) (own:=false) (σ:=(5::0::0::1::1::0::σ)) (xs:=[.p (.string a13.Rid),.p (.int .u32 a13.Ssrc),.p (.int .i64 a13.Height)]) rfl rfl (sC (still_str _) (sC (sI _ _) (sC (sI _ _) sN))) rfl rfl
   refine .op (sM e23) ?_
   refine .fa ?_
   refine .op ((S24.atG (i:=0) rfl).ld (j:=0) rfl) ?_
   refine .op (castS_p _) ?_
   refine .call (rid_Right_ok a13.Rid) fun r25 cs26 H27 h28 q29 => ?_
   cases q29
   refine .ab ?_
   refine .ch (P:=fun r y => r = y) ?_ (fun b30 y31 h32 h33 => ?_)
   ·refine .cq ?_ ?_
    ·exact .ret rfl rfl
    ·refine .fa ?_
     refine .op ((S24.atG (i:=0) rfl).ld (j:=2) rfl) ?_
     refine .ci ?_
     exact .ret rfl rfl
   subst h33
   refine .ch (P:=fun r y => r = y) ?_ (fun b34 y35 h36 h37 => ?_)
   ·refine .cq ?_ ?_
    ·exact .ret rfl rfl
    ·refine .fa ?_
     refine .op ((S24.atG (i:=0) rfl).ld (j:=2) rfl) ?_
     refine .ci ?_
     exact .ret rfl rfl
   subst h37
   refine .ch (P:=fun r y => r = y) ?_ (fun b50 y51 h52 h53 => ?_)
   ·refine .cq ?_ ?_
    ·exact .ret rfl rfl
    ·refine .ch (P:=fun r y => r = y) ?_ (fun b46 y47 h48 h49 => ?_)
     ·refine .cq ?_ ?_
      ·refine .fa ?_
       refine .op ((S24.atG (i:=0) rfl).ld (j:=2) rfl) ?_
       refine .ci ?_
       refine .bd fun a38 h39 => ?_
       refine .op ((S24.low h9).iS h39 rfl) ?_
       obtain ⟨w41,h42,hE40⟩:=(S24.low h9).el h39 rfl
       obtain rfl:=dTaiLayer.inv h42
       refine .op (hE40.fa (j:=2) (by simp)) ?_
       obtain ⟨w44,h45,hE43⟩:=(S24.low h9).el h39 rfl
       obtain rfl:=dTaiLayer.inv h45
       refine .op (hE43.ld (j:=2) rfl) ?_
       refine .ci ?_
       exact .ret rfl rfl
      ·exact .ret rfl rfl
     subst h49
     exact .ret rfl rfl
   subst h53
   refine .cq ?_ ?_
   ·exact hE1 26 H22 (S24.wk2 aN aN)
   refine .bd fun a55 h56 => ?_
   refine .op ((S24.low h9).slS h56 rfl rfl rfl) ?_
   refine .call (slices_ContainsFunc_Lapi_Layer_api_Layer_ctl_Layers_1_ok k a55 ((S24.low h9).sub h56 (e:=3) rfl) a13 (S24.atG (i:=0) rfl)) fun r57 cs58 H59 h60 q61 => ?_
   cases q61
   refine .ab ?_
   refine .cq ?_ ?_
   ·exact hE1 26 H22 (S24.wk2 aN aN)
   exact ih x0 x13 x14 (IntKind.wrap .i64 (x15 + 1)) v8 h9 v10 h11 H22 (S24.wk2 aN aN)
  exact hE0 () H6 (S7.wk2 aN aN)
theorem ctl_Layers_ok (k : Nat) {h : H} {σ : Stamp} (x0 : List TaiLayer) {u0 : V} (hu0 : SlH h dTaiLayer x0 u0) : Sim (p_ctl_Layers k x0) (ev G X0 34 σ [u0] h) (fun r s => s = ([.v (.p (.int .i64 r))],h)):=by
 refine .ev rfl (Sim.ext (ctl_Layers_entry _ _ _ _ _) ?_)
 rw [p_ctl_Layers]
 have S0 : Fm 55 h [] [] [] (List.replicate 55 []::h):=Fm.start0
 refine .op ((S0.low hu0).len) ?_
 refine .ci ?_
 refine .ch (P:=fun r y => r = y) ?_ (fun b1 y2 h3 h4 => ?_)
 ·refine .cq ?_ ?_
  ·exact .ret rfl rfl
  ·refine .op ((S0.low hu0).len) ?_
   refine .ci ?_
   exact .ret rfl rfl
 subst h4
 refine .cq ?_ ?_
 ·exact .fin (S0.finN (lC (sI _ _).lv lN)) rfl
 refine .op ((S0.low hu0).len) ?_
 refine .ci ?_
 refine .as (ctl_Layers_l0_ok ?_ ?_ k x0 x0 ((x0.length : Int)) 0 u0 hu0 u0 hu0 (List.replicate 55 []::h) (S0.wk2 aN aN))
 ·intro _u H68 S69
  refine .ext (ctl_Layers_a0_0 _ _ _ _) ?_
  exact .fin (S69.finN (lC (sI _ _).lv lN)) rfl
 ·intro r70_2 H71 S72
  refine .ext (ctl_Layers_a0_ret _ _ _ _ _) ?_
  exact .fin (S72.finN (lC (sI _ _).lv lN)) rfl
end
end Go.Ev
namespace Go.Ev
open Go.Proofs
set_option linter.unusedVariables false
set_option linter.unusedSimpArgs false
set_option maxRecDepth 100000
noncomputable section
abbrev KT5:=Exit→Env→H→Option (List C × H)
variable (rec : CallF) (loop : LoopV) (σ : Stamp)
def zk_Tape_Layers_c0 : Code:=(codeAt (bodyOf Try.f33) [1,1,0,1,0,0])
def zk_Tape_Layers_l0 : Lv:=⟨32,16,[(0,32)]⟩
def zk_Tape_Layers_k0 : KT5:=(kBlock 0 (kSeq G rec loop (codeAt (bodyOf Try.f33) [1,1,1]) ⟨16,16,[]⟩ (1::1::0::σ) (finC G false Try.f33 (1::σ))))
theorem zk_Tape_Layers_entry (x0 : V) (x1 : Int) (h : H) : cvBody G rec loop 33 σ [x0,(.p (.int .i64 x1))] h =
(loop zk_Tape_Layers_c0 zk_Tape_Layers_l0 (1::0::1::1::0::σ) (envL [(0,x0),(1,(.p (.int .i64 x1))),(5,(.p (.slice .none 0 0))),(6,(.p (.int .i64 0)))]) (List.replicate 34 []::h)).bind fun r1 => zk_Tape_Layers_k0 rec loop σ r1.1 r1.2.1 r1.2.2:=by kernel_rfl
theorem zk_Tape_Layers_r0 (x0 : V) (x1 : Int) (x5 : V) (x6 : Int) (h : H) : cvRound G rec loop zk_Tape_Layers_c0 zk_Tape_Layers_l0 σ (envL [(0,x0),(1,(.p (.int .i64 x1))),(5,x5),(6,(.p (.int .i64 x6)))]) h =
(callO rec 51 (2::0::0::0::σ) [x0,(.p (.int .i64 3))] h (some 9)).bind fun q2 =>
(castI .i64 q2.1).bind fun n3 =>
bif decide (x6 ≤ n3) then (
(bSV Try.prog 81 3 [(0,(.p (.string ((⟨#[108,111]⟩ : ByteArray))))),(1,(.p (.string ((⟨#[109,105,100]⟩ : ByteArray))))),(2,(.p (.string ((⟨#[72,73]⟩ : ByteArray)))))]).bind fun t4 =>
(iS 1 t4 x6).bind fun t5 =>
(ldO false 1 q2.2 t5).bind fun t6 =>
(castS t6).bind fun s7 =>
(callO rec 51 (15::0::1::0::σ) [x0,(.p (.int .i64 90))] q2.2 (some 28)).bind fun q8 =>
(castI .i64 q8.1).bind fun n9 =>
need ((some (.p (.int .u32 (IntKind.wrap .u32 (IntKind.wrap .i64 ((IntKind.wrap .i64 ((IntKind.wrap .i64 (100 * x1)) + x6)) + 7))))) : Option V) = some (.p (.int .u32 (IntKind.wrap .u32 (IntKind.wrap .i64 ((IntKind.wrap .i64 ((IntKind.wrap .i64 (100 * x1)) + x6)) + 7)))))) (
need (ldO false 1 q8.2 t5 = some (.p (.string s7))) (
(buildV Try.prog 70 [(0,(.p (.string s7))),(1,(.p (.int .u32 (IntKind.wrap .u32 (IntKind.wrap .i64 ((IntKind.wrap .i64 ((IntKind.wrap .i64 (100 * x1)) + x6)) + 7)))))),(2,(.p (.int .i64 (IntKind.wrap .i64 ((IntKind.wrap .i64 (180 * (IntKind.wrap .i64 (x6 + 1)))) + n9)))))]).bind fun t10 =>
(bSV Try.prog 56 1 [(0,t10)]).bind fun t11 =>
(apO false 3 32 (19::0::1::0::σ) 32 q8.2 x5 t11).bind fun q12 =>
loop zk_Tape_Layers_c0 zk_Tape_Layers_l0 (1::σ) (envL [(0,x0),(1,(.p (.int .i64 x1))),(5,q12.1),(6,(.p (.int .i64 (IntKind.wrap .i64 (x6 + 1)))))]) q12.2)))
else (
some ((.exit 0),(envL [(5,x5)]),q2.2)):=by kernel_rfl
theorem zk_Tape_Layers_a0_0 (x5 : V) (h : H) : zk_Tape_Layers_k0 rec loop σ (.exit 0) (envL [(5,x5)]) h =
fin false σ h [x5]:=by kernel_rfl
end
end Go.Ev
namespace Go.Ev
open Go.Proofs
set_option linter.unusedVariables false
set_option linter.unusedSimpArgs false
set_option maxRecDepth 100000
section
variable {β α : Type} {Q : β→α→Prop} {K : Exit × Env × H→Option α}
def p_zk_Tape_Layers_l0 {β : Type} (k : Nat) (kE0 : (List TaiLayer)→TzTape→Option β) (x1 : Int) (x5 : (List TaiLayer)) (x6 : Int) (zp0 : TzTape) : Option β:=match k with
| 0 => none
| k + 1 =>
(p_zk_Tape_Next zp0 3).bind fun r11 =>
bif decide (x6 ≤ r11.1) then (
(ix ([((⟨#[108,111]⟩ : ByteArray)),((⟨#[109,105,100]⟩ : ByteArray)),((⟨#[72,73]⟩ : ByteArray))]) x6).bind fun a21 =>
(p_zk_Tape_Next r11.2 90).bind fun r24 =>
(ap 32 x5 ([((⟨a21,(IntKind.wrap .u32 (IntKind.wrap .i64 ((IntKind.wrap .i64 ((IntKind.wrap .i64 (100 * x1)) + x6)) + 7))),(IntKind.wrap .i64 ((IntKind.wrap .i64 (180 * (IntKind.wrap .i64 (x6 + 1)))) + r24.1))⟩ : TaiLayer))])).bind fun a34 =>
p_zk_Tape_Layers_l0 k kE0 x1 a34 (IntKind.wrap .i64 (x6 + 1)) r24.2)
else (
kE0 x5 r11.2)
def p_zk_Tape_Layers (k : Nat) (x0 : TzTape) (x1 : Int) : Option ((List TaiLayer) × TzTape) :=
p_zk_Tape_Layers_l0 k (fun r50_5 zp0 =>
some (r50_5,zp0)) x1 (([] : List TaiLayer)) 0 x0
theorem zk_Tape_Layers_l0_ok {h : H} {l0 : Loc} {o0 : Nat} {kE0 : (List TaiLayer)→TzTape→Option β} (hE0 : ∀ (q5 : (List TaiLayer)) (zp0 : TzTape) (v42 : V) (w44 : List V) (h45 : dTzTape.R zp0 w44) (H40 : Go.Ev.H) (_ : Fm 34 h [⟨l0,o0,List.map C.v w44⟩] [] [⟨[32],v42,dTaiLayer,q5⟩] H40),Sim (kE0 q5 zp0) (K ((.exit 0),(envL [(5,v42)]),H40)) Q) (k : Nat) : ∀ (x1 : Int) (x5 : (List TaiLayer)) (x6 : Int) (zp0 : TzTape) (v5 : V) (w7 : List V) (h8 : dTzTape.R zp0 w7) (H3 : Go.Ev.H) (_ : Fm 34 h [⟨l0,o0,List.map C.v w7⟩] [] [⟨[32],v5,dTaiLayer,x5⟩] H3) {σ : Stamp},Sim (p_zk_Tape_Layers_l0 k kE0 x1 x5 x6 zp0) ((cvL G X0 zk_Tape_Layers_c0 zk_Tape_Layers_l0 σ (envL [(0,(.ref l0 o0)),(1,(.p (.int .i64 x1))),(5,v5),(6,(.p (.int .i64 x6)))]) H3).bind K) Q:=by
 induction k with
 | zero => intros; exact .no
 | succ k ih =>
  intro x1 x5 x6 zp0 v5 w7 h8 H3 S4 σ
  rw [p_zk_Tape_Layers_l0]
  refine .round (Sim.ext (zk_Tape_Layers_r0 _ _ _ _ _ _ _ _) ?_)
  obtain ⟨v9,rfl,h10⟩:=dTzTape.inv h8
  refine .call (zk_Tape_Next_ok zp0 h10 (S4.atB (i:=0) rfl) 3) fun r11 cs12 H13 h14 q15 => ?_
  obtain ⟨v16,h17,q15⟩:=q15
  cases q15
  have S18:=S4.setB (i:=0) (cs:=List.map C.v [v16,(.p (.int .i64 r11.2.f_At))]) rfl rfl
  refine .ci ?_
  refine .cq ?_ ?_
  ·have h20 : SlF dS [((⟨#[108,111]⟩ : ByteArray)),((⟨#[109,105,100]⟩ : ByteArray)),((⟨#[72,73]⟩ : ByteArray))] (.fz [(.p (.string ((⟨#[108,111]⟩ : ByteArray)))),(.p (.string ((⟨#[109,105,100]⟩ : ByteArray)))),(.p (.string ((⟨#[72,73]⟩ : ByteArray))))] 3 1 true):=SlF.lit (cs:=[(.p (.string ((⟨#[108,111]⟩ : ByteArray)))),(.p (.string ((⟨#[109,105,100]⟩ : ByteArray)))),(.p (.string ((⟨#[72,73]⟩ : ByteArray))))]) (RL.cons (show dS.R ((⟨#[108,111]⟩ : ByteArray)) [(.p (.string ((⟨#[108,111]⟩ : ByteArray))))] from rfl) (RL.cons (show dS.R ((⟨#[109,105,100]⟩ : ByteArray)) [(.p (.string ((⟨#[109,105,100]⟩ : ByteArray))))] from rfl) (RL.cons (show dS.R ((⟨#[72,73]⟩ : ByteArray)) [(.p (.string ((⟨#[72,73]⟩ : ByteArray))))] from rfl) RL.nil))) rfl rfl true
   refine .op (bldS (pC rfl (pC rfl (pC rfl pN))) (by kernel_rfl : _ = some (vOf h20))) ?_
   refine .bd fun a21 h22 => ?_
   refine .op ((h20.h (ptC H3 l0 o0 (List.map C.v [v16,(.p (.int .i64 r11.2.f_At))]))).iS h22 rfl) ?_
   obtain ⟨_,rfl,hE23⟩:=(h20.h (ptC H3 l0 o0 (List.map C.v [v16,(.p (.int .i64 r11.2.f_At))]))).el h22 rfl
   refine .op (hE23.ld (j:=0) rfl) ?_
   refine .op (castS_p _) ?_
   refine .call (zk_Tape_Next_ok r11.2 h17 (S18.atB (i:=0) rfl) 90) fun r24 cs25 H26 h27 q28 => ?_
   obtain ⟨v29,h30,q28⟩:=q28
   cases q28
   have S31:=S18.setB (i:=0) (cs:=List.map C.v [v29,(.p (.int .i64 r24.2.f_At))]) rfl rfl
   refine .ci ?_
   refine .nd (rfl) ?_
   obtain ⟨_,rfl,hE32⟩:=(h20.h (ptC (ptC H3 l0 o0 (List.map C.v [v16,(.p (.int .i64 r11.2.f_At))])) l0 o0 (List.map C.v [v29,(.p (.int .i64 r24.2.f_At))]))).el h22 rfl
   refine .nd (hE32.ld (j:=0) rfl) ?_
   refine .op (bldV (pC rfl (pC rfl (pC rfl pN))) (by kernel_rfl : _ = some (.agg [.p (.string a21),.p (.int .u32 (IntKind.wrap .u32 (IntKind.wrap .i64 ((IntKind.wrap .i64 ((IntKind.wrap .i64 (100 * x1)) + x6)) + 7)))),.p (.int .i64 (IntKind.wrap .i64 ((IntKind.wrap .i64 (180 * (IntKind.wrap .i64 (x6 + 1)))) + r24.1)))]))) ?_
   have h33 : SlF dTaiLayer [((⟨a21,(IntKind.wrap .u32 (IntKind.wrap .i64 ((IntKind.wrap .i64 ((IntKind.wrap .i64 (100 * x1)) + x6)) + 7))),(IntKind.wrap .i64 ((IntKind.wrap .i64 (180 * (IntKind.wrap .i64 (x6 + 1)))) + r24.1))⟩ : TaiLayer))] (.fz [(.p (.string a21)),(.p (.int .u32 (IntKind.wrap .u32 (IntKind.wrap .i64 ((IntKind.wrap .i64 ((IntKind.wrap .i64 (100 * x1)) + x6)) + 7))))),(.p (.int .i64 (IntKind.wrap .i64 ((IntKind.wrap .i64 (180 * (IntKind.wrap .i64 (x6 + 1)))) + r24.1))))] 1 3 true):=SlF.lit (cs:=[(.p (.string a21)),(.p (.int .u32 (IntKind.wrap .u32 (IntKind.wrap .i64 ((IntKind.wrap .i64 ((IntKind.wrap .i64 (100 * x1)) + x6)) + 7))))),(.p (.int .i64 (IntKind.wrap .i64 ((IntKind.wrap .i64 (180 * (IntKind.wrap .i64 (x6 + 1)))) + r24.1))))]) (RL.cons (show dTaiLayer.R ((⟨a21,(IntKind.wrap .u32 (IntKind.wrap .i64 ((IntKind.wrap .i64 ((IntKind.wrap .i64 (100 * x1)) + x6)) + 7))),(IntKind.wrap .i64 ((IntKind.wrap .i64 (180 * (IntKind.wrap .i64 (x6 + 1)))) + r24.1))⟩ : TaiLayer)) [.p (.string a21),.p (.int .u32 (IntKind.wrap .u32 (IntKind.wrap .i64 ((IntKind.wrap .i64 ((IntKind.wrap .i64 (100 * x1)) + x6)) + 7)))),.p (.int .i64 (IntKind.wrap .i64 ((IntKind.wrap .i64 (180 * (IntKind.wrap .i64 (x6 + 1)))) + r24.1)))] from (dTaiLayer.mk)) RL.nil) rfl rfl true
   refine .op (bldS (pC (c:=[.p (.string a21),.p (.int .u32 (IntKind.wrap .u32 (IntKind.wrap .i64 ((IntKind.wrap .i64 ((IntKind.wrap .i64 (100 * x1)) + x6)) + 7)))),.p (.int .i64 (IntKind.wrap .i64 ((IntKind.wrap .i64 (180 * (IntKind.wrap .i64 (x6 + 1)))) + r24.1)))]) rfl pN) (by kernel_rfl : _ = some (vOf h33))) ?_
   refine .bd fun a34 h35 => ?_
   obtain ⟨v36,H37,e38,S39⟩:=S31.app (i:=0) (d:=32) (e:=3) (own:=false) (σ:=(19::0::1::0::σ)) rfl (h33.h (ptC (ptC H3 l0 o0 (List.map C.v [v16,(.p (.int .i64 r11.2.f_At))])) l0 o0 (List.map C.v [v29,(.p (.int .i64 r24.2.f_At))]))).y h35 rfl (by decide) (by decide) rfl
   refine .op (e38) ?_
   exact ih x1 a34 (IntKind.wrap .i64 (x6 + 1)) r24.2 v36 _ (dTzTape.mk h30) H37 (S39.wk2 aN (aC ⟨[32,32],by simp,aM 0 rfl⟩ aN))
  exact hE0 x5 r11.2 v5 _ (dTzTape.mk h17) (ptC H3 l0 o0 (List.map C.v [v16,(.p (.int .i64 r11.2.f_At))])) (S18.wk2 aN (aC ⟨[32],by simp,aM 0 rfl⟩ aN))
theorem zk_Tape_Layers_ok (k : Nat) {h : H} {σ : Stamp} (x0 : TzTape) {u0_0 : V} (hu0_0 : SlF (dI .i64) x0.f_L u0_0) {l0 : Loc} {o0 : Nat} (ha0 : AtC h l0 o0 (List.map C.v [u0_0,(.p (.int .i64 x0.f_At))])) (x1 : Int) : Sim (p_zk_Tape_Layers k x0 x1) (ev G X0 33 σ [(.ref l0 o0),(.p (.int .i64 x1))] h) (fun r s => ∃ (c0 : C),∃ (a0 : List V),∃ (vb0_0 : V),OwnS c0 dTaiLayer.sz r.1.length a0∧dTaiLayer.L r.1 a0∧SlF (dI .i64) r.2.f_L vb0_0∧s = ([c0],pts h [⟨l0,o0,[.v vb0_0,.v (.p (.int .i64 r.2.f_At))]⟩])):=by
 refine .ev rfl (Sim.ext (zk_Tape_Layers_entry _ _ _ _ _ _) ?_)
 rw [p_zk_Tape_Layers]
 have S0 : Fm 34 h [⟨l0,o0,List.map C.v [u0_0,(.p (.int .i64 x0.f_At))]⟩] [] [] (List.replicate 34 []::h):=Fm.start1 ha0
 have S49:=S0.nil dTaiLayer []
 refine .as (zk_Tape_Layers_l0_ok ?_ k x1 (([] : List TaiLayer)) 0 x0 (.p (.slice none 0 0)) _ (dTzTape.mk hu0_0) (List.replicate 34 []::h) (S49.wk2 aN (aC ⟨[],by simp,aM 0 rfl⟩ aN)))
 ·intro r50_5 zp0 v53 w55 h56 H51 S52
  refine .ext (zk_Tape_Layers_a0_0 _ _ _ _ _) ?_
  obtain ⟨v57,rfl,h58⟩:=dTzTape.inv h56
  obtain ⟨c64,cs65,H59,e60,h62,h63,S61⟩:=S52.expOwn (i:=0) (τ:=0::1::σ) rfl rfl rfl
  exact .fin (S61.finE (Ex.st e60 Ex.nil)) ⟨c64,cs65,v57,h62,h63,h58,rfl⟩
end
end Go.Ev
namespace Go.Ev
set_option maxRecDepth 100000
def sameL (b a : TaiLayer) : Bool:=b.Ssrc == a.Ssrc || (RidX.foldB b.Rid).toList == (RidX.foldB a.Rid).toList
def okL (a : TaiLayer) (prev : Option TaiLayer) : Bool :=
 RidX.rightB a.Rid && (decide (1 ≤ a.Height) && (decide (a.Height ≤ 8192) && (match prev with | none => true | some b => decide (b.Height < a.Height))))
def chkL : List TaiLayer→List TaiLayer→Bool
 | _,[] => true
 | pre,a::rest => okL a pre.getLast? && (!(pre.any fun b => sameL b a) && chkL (pre ++ [a]) rest)
theorem same_ok {a b : TaiLayer} (ha : a.Rid.size < 2 ^ 40) (hb : b.Rid.size < 2 ^ 40) : p_ctl_Layers_1 b a = some (sameL b a):=by
 unfold p_ctl_Layers_1 p_rid_Same sameL p_rid_Fold
 rw [if_pos ha,if_pos hb]
 cases (b.Ssrc == a.Ssrc) <;> rfl
theorem idx_l0 {β : Type} (kE0 : Unit→Option β) (kE1 : Int→Option β) (a : TaiLayer) (ha : a.Rid.size < 2 ^ 40) (l : List TaiLayer) (hl : l.length < 2 ^ 30) (hs : ∀ b ∈ l,b.Rid.size < 2 ^ 40) : ∀ (rest pre : List TaiLayer) (j : Nat),l = pre ++ rest →
  ∃ i : Nat,p_slices_IndexFunc_Lapi_Layer_api_Layer_ctl_Layers_1_l0 (j + rest.length + 1) kE0 kE1 l a (l.length : Int) (pre.length : Int) = bif rest.any (fun b => sameL b a) then kE1 (i : Int) else kE0 ()
 | [],pre,j,h => by
  rw [p_slices_IndexFunc_Lapi_Layer_api_Layer_ctl_Layers_1_l0]
  have h1 : decide ((pre.length : Int) < (l.length : Int)) = false:=by subst h; simp
  rw [h1,cond_false]
  exact ⟨0,rfl⟩
 | b::rest,pre,j,h => by
  rw [List.length_cons,show j + (rest.length + 1) + 1 = (j + rest.length + 1) + 1 from rfl,p_slices_IndexFunc_Lapi_Layer_api_Layer_ctl_Layers_1_l0]
  have h1 : decide ((pre.length : Int) < (l.length : Int)) = true:=by subst h; simp; omega
  have h2 : ix l (pre.length : Int) = some b:=ix_mid' h rfl
  have h4 : IntKind.wrap .i64 ((pre.length : Int) + 1) = (((pre ++ [b]).length : Nat) : Int):=by
   have : pre.length ≤ l.length:=by subst h; simp
   rw [wrap_i64 (by omega) (by omega)]
   simp
  have h3 : p_ctl_Layers_1 b a = some (sameL b a):=same_ok ha (hs b (by rw [h]; simp))
  rw [h1,cond_true,h2,Option.bind_some,h3,Option.bind_some,List.any_cons]
  cases sameL b a with
  | true => exact ⟨pre.length,by simp⟩
  | false =>
   rw [cond_false,Bool.false_or,h4]
   exact idx_l0 kE0 kE1 a ha l hl hs rest (pre ++ [b]) j (by rw [h]; simp)
theorem contains_ok {a : TaiLayer} (ha : a.Rid.size < 2 ^ 40) {l : List TaiLayer} (hl : l.length < 2 ^ 30) (hs : ∀ b ∈ l,b.Rid.size < 2 ^ 40) {k : Nat} (hk : l.length < k) : p_slices_ContainsFunc_Lapi_Layer_api_Layer_ctl_Layers_1 k l a = some (l.any fun b => sameL b a):=by
 unfold p_slices_ContainsFunc_Lapi_Layer_api_Layer_ctl_Layers_1 p_slices_IndexFunc_Lapi_Layer_api_Layer_ctl_Layers_1
 obtain ⟨i,hi⟩:=idx_l0 (fun (_ : Unit) => (some (-1) : Option Int)) (fun r => some r) a ha l hl hs l [] (k - l.length - 1) rfl
 simp only [show k - l.length - 1 + l.length + 1 = k by omega,List.length_nil] at hi
 rw [show ((0 : Nat) : Int) = 0 from rfl] at hi
 refine (congrArg (fun x => Option.bind x _) hi).trans ?_
 cases l.any (fun b => sameL b a) with
 | true => simp
 | false => simp
theorem layers_l0 {β : Type} (kE0 : Unit→Option β) (kE1 : Int→Option β) (l : List TaiLayer) (hl : l.length ≤ 3) (hs : ∀ b ∈ l,b.Rid.size < 2 ^ 40) : ∀ (rest pre : List TaiLayer) (j : Nat),l = pre ++ rest→6 ≤ j →
  p_ctl_Layers_l0 (j + rest.length + 1) kE0 kE1 l l (l.length : Int) (pre.length : Int) = bif chkL pre rest then kE0 () else kE1 26
 | [],pre,j,h,_ => by
  rw [p_ctl_Layers_l0]
  have h1 : decide ((pre.length : Int) < (l.length : Int)) = false:=by subst h; simp
  rw [h1,cond_false,chkL,cond_true]
 | a::rest,pre,j,h,hj => by
  have hplen : pre.length + 1 ≤ l.length:=by rw [h,List.length_append,List.length_cons]; omega
  rw [List.length_cons,show j + (rest.length + 1) + 1 = (j + rest.length + 1) + 1 from rfl,p_ctl_Layers_l0]
  have h1 : decide ((pre.length : Int) < (l.length : Int)) = true:=decide_eq_true (by omega)
  have h2 : ix l (pre.length : Int) = some a:=ix_mid' h rfl
  have h4 : IntKind.wrap .i64 ((pre.length : Int) + 1) = (((pre ++ [a]).length : Nat) : Int):=by
   rw [wrap_i64 (by omega) (by omega)]
   simp
  have hsub : sub l 0 (pre.length : Int) = some pre:=by
   have:=sub_eq (xs:=l) (a:=0) (n:=pre.length) (by omega)
   rw [Nat.zero_add,List.drop_zero] at this
   rw [show ((0 : Nat) : Int) = 0 from rfl] at this
   rw [this,h,List.take_left]
  have hcon:=contains_ok (a:=a) (hs a (by rw [h]; simp)) (l:=pre) (by omega) (fun b hb => hs b (by rw [h]; simp [hb])) (k:=j + rest.length + 1) (by omega)
  have hprev : (bif decide ((pre.length : Int) > 0) then ((ix l (IntKind.wrap .i64 ((pre.length : Int) - 1))).bind fun a36 => some (decide (a.Height ≤ a36.Height))) else (some false)) = some (match pre.getLast? with | none => false | some b => decide (a.Height ≤ b.Height)):=by
   rcases List.eq_nil_or_concat pre with rfl | ⟨q,b,rfl⟩
   ·rfl
   ·rw [List.concat_eq_append] at h hplen ⊢
    have g1 : decide ((((q ++ [b]).length : Nat) : Int) > 0) = true:=decide_eq_true (by rw [List.length_append,List.length_cons]; omega)
    have g2 : IntKind.wrap .i64 ((((q ++ [b]).length : Nat) : Int) - 1) = (q.length : Int):=by
     rw [List.length_append,List.length_cons,List.length_nil] at hplen ⊢
     rw [wrap_i64 (by omega) (by omega)]; omega
    have g3 : ix l (q.length : Int) = some b:=ix_mid' (ys:=a::rest) (by rw [h]; simp) rfl
    rw [g1,cond_true,g2,g3,Option.bind_some,List.getLast?_concat]
  rw [h1,cond_true,h2,Option.bind_some]
  simp only [p_rid_Right,Option.bind_some]
  rw [chkL]
  unfold okL
  have ih:=layers_l0 kE0 kE1 l hl hs rest (pre ++ [a]) j (by rw [h]; simp) hj
  cases hr : RidX.rightB a.Rid with
  | false => simp
  | true =>
   simp only [Bool.not_true,cond_false,Option.bind_some,Bool.true_and]
   by_cases c1 : a.Height < 1
   ·have d1 : decide (a.Height < 1) = true:=decide_eq_true c1
    have d2 : decide (1 ≤ a.Height) = false:=decide_eq_false (by omega)
    simp only [d1,d2,cond_true,Option.bind_some,Bool.false_and,cond_false]
   ·have d1 : decide (a.Height < 1) = false:=decide_eq_false c1
    have d2 : decide (1 ≤ a.Height) = true:=decide_eq_true (by omega)
    by_cases c2 : a.Height > 8192
    ·have e1 : decide (a.Height > 8192) = true:=decide_eq_true c2
     have e2 : decide (a.Height ≤ 8192) = false:=decide_eq_false (by omega)
     simp only [d1,d2,e1,e2,cond_true,cond_false,Option.bind_some,Bool.false_and,Bool.true_and]
    ·have e1 : decide (a.Height > 8192) = false:=decide_eq_false c2
     have e2 : decide (a.Height ≤ 8192) = true:=decide_eq_true (by omega)
     simp only [d1,d2,e1,e2,cond_false,Option.bind_some,Bool.true_and,hprev]
     have key : ∀ (p q : Bool),p = !q→(bif p then kE1 26 else (sub l 0 (pre.length : Int)).bind fun a52 => (p_slices_ContainsFunc_Lapi_Layer_api_Layer_ctl_Layers_1 (j + rest.length + 1) a52 a).bind fun r54 => bif r54 then kE1 26 else p_ctl_Layers_l0 (j + rest.length + 1) kE0 kE1 l l (l.length : Int) (IntKind.wrap .i64 ((pre.length : Int) + 1))) = bif q && (!(pre.any fun b => sameL b a) && chkL (pre ++ [a]) rest) then kE0 () else kE1 26:=by
      intro p q hpq
      subst hpq
      cases q with
      | false => rfl
      | true =>
       rw [Bool.not_true,cond_false,hsub,Option.bind_some,hcon,Option.bind_some,h4,ih]
       cases (pre.any fun b => sameL b a) <;> simp
     refine key _ _ ?_
     cases pre.getLast? with
     | none => rfl
     | some b => by_cases hh : a.Height ≤ b.Height <;> simp [hh] <;> omega
theorem layers_eqK {k : Nat} (hk : 10 ≤ k) {l : List TaiLayer} (h1 : 1 ≤ l.length) (h3 : l.length ≤ 3) (hs : ∀ b ∈ l,b.Rid.size < 2 ^ 40) : p_ctl_Layers k l = some (bif chkL [] l then 0 else 26):=by
 unfold p_ctl_Layers
 have d1 : decide ((l.length : Int) < 1) = false:=decide_eq_false (by omega)
 have d2 : decide ((l.length : Int) > 3) = false:=decide_eq_false (by omega)
 simp only [d1,d2,cond_false,Option.bind_some]
 have:=layers_l0 (fun (_ : Unit) => (some 0 : Option Int)) (fun r => some r) l h3 hs l [] (k - l.length - 1) rfl (by omega)
 simp only [show k - l.length - 1 + l.length + 1 = k by omega,List.length_nil] at this
 rw [show ((0 : Nat) : Int) = 0 from rfl] at this
 refine this.trans ?_
 cases chkL [] l <;> rfl
theorem layers_eq {l : List TaiLayer} (h1 : 1 ≤ l.length) (h3 : l.length ≤ 3) (hs : ∀ b ∈ l,b.Rid.size < 2 ^ 40) : p_ctl_Layers 40 l = some (bif chkL [] l then 0 else 26):=layers_eqK (by omega) h1 h3 hs
theorem layers_many {l : List TaiLayer} (h3 : 3 < l.length) (k : Nat) : p_ctl_Layers k l = some 26:=by
 unfold p_ctl_Layers
 have d1 : decide ((l.length : Int) < 1) = false:=decide_eq_false (by omega)
 have d2 : decide ((l.length : Int) > 3) = true:=decide_eq_true (by omega)
 simp only [d1,d2,cond_false,cond_true,Option.bind_some]
def nmL : Nat→ByteArray | 0 => ⟨#[108,111]⟩ | 1 => ⟨#[109,105,100]⟩ | _ => ⟨#[72,73]⟩
def tpL (p : Int) (i : Nat) (r : Int) : TaiLayer:=⟨nmL i,100 * p + i + 7,180 * ((i : Int) + 1) + r⟩
theorem nmL_right : ∀ i : Nat,RidX.rightB (nmL i) = true
 | 0 => by kernel_rfl
 | 1 => by kernel_rfl
 | _ + 2 => by show RidX.rightB ⟨#[72,73]⟩ = true; kernel_rfl
theorem nmL_size : ∀ i : Nat,(nmL i).size < 2 ^ 40
 | 0 => by decide
 | 1 => by decide
 | _ + 2 => by show (⟨#[72,73]⟩ : ByteArray).size < 2 ^ 40; decide
theorem nm01 : ((RidX.foldB (nmL 0)).toList == (RidX.foldB (nmL 1)).toList) = false:=by kernel_rfl
theorem nm02 : ((RidX.foldB (nmL 0)).toList == (RidX.foldB (nmL 2)).toList) = false:=by kernel_rfl
theorem nm12 : ((RidX.foldB (nmL 1)).toList == (RidX.foldB (nmL 2)).toList) = false:=by kernel_rfl
theorem wrap_u32 {n : Int} (h1 : 0 ≤ n) (h2 : n < 4294967296) : IntKind.wrap .u32 n = n:=by
 simp only [IntKind.wrap,IntKind.signed,IntKind.bits]
 simp
 omega
theorem tlayers_step {β : Type} (kE0 : List TaiLayer→TzTape→Option β) {p : Int} (hp : 0 ≤ p∧p ≤ 5) {i : Nat} (hi : i ≤ 2) {out : List TaiLayer} (ho : out.length ≤ 3) {t : TzTape} (h : TP t) (k : Nat) :
  (∃ t',p_zk_Tape_Layers_l0 (k + 1) kE0 p out (i : Int) t = kE0 out t'∧1 ≤ i) ∨
  (∃ r t',p_zk_Tape_Layers_l0 (k + 1) kE0 p out (i : Int) t = p_zk_Tape_Layers_l0 k kE0 p (out ++ [tpL p i r]) ((i + 1 : Nat) : Int) t'∧(0 ≤ r∧r < 90)∧TP t'):=by
 obtain ⟨m,t1,e1,r1,h1⟩:=next_tape h (n:=3) (by omega)
 rw [p_zk_Tape_Layers_l0,e1,Option.bind_some]
 by_cases hm : (i : Int) ≤ m
 ·have d : decide ((i : Int) ≤ m) = true:=decide_eq_true hm
  obtain ⟨r,t2,e2,r2,h2⟩:=next_tape h1 (n:=90) (by omega)
  refine .inr ⟨r,t2,?_,r2,h2⟩
  have hx : ix ([((⟨#[108,111]⟩ : ByteArray)),((⟨#[109,105,100]⟩ : ByteArray)),((⟨#[72,73]⟩ : ByteArray))]) (i : Int) = some (nmL i):=by
   rcases i with _ | _ | _ | i
   ·rfl
   ·rfl
   ·rfl
   ·omega
  simp only [d,cond_true,hx,Option.bind_some,e2]
  have w1 : IntKind.wrap .i64 (100 * p) = 100 * p:=wrap_i64 (by omega) (by omega)
  have w2 : IntKind.wrap .i64 (100 * p + (i : Int)) = 100 * p + i:=wrap_i64 (by omega) (by omega)
  have w3 : IntKind.wrap .i64 (100 * p + (i : Int) + 7) = 100 * p + i + 7:=wrap_i64 (by omega) (by omega)
  have w4 : IntKind.wrap .u32 (100 * p + (i : Int) + 7) = 100 * p + i + 7:=wrap_u32 (by omega) (by omega)
  have w5 : IntKind.wrap .i64 ((i : Int) + 1) = (i : Int) + 1:=wrap_i64 (by omega) (by omega)
  have w6 : IntKind.wrap .i64 (180 * ((i : Int) + 1)) = 180 * ((i : Int) + 1):=wrap_i64 (by omega) (by omega)
  have w7 : IntKind.wrap .i64 (180 * ((i : Int) + 1) + r) = 180 * ((i : Int) + 1) + r:=wrap_i64 (by omega) (by omega)
  simp only [w1,w2,w3,w4,w5,w6,w7]
  rw [ap_eq (by decide) (by simp only [List.length_cons,List.length_nil]; omega),Option.bind_some]
  rfl
 ·have d : decide ((i : Int) ≤ m) = false:=decide_eq_false hm
  rw [d,cond_false]
  exact .inl ⟨t1,rfl,by omega⟩
theorem tlayers_end {β : Type} (kE0 : List TaiLayer→TzTape→Option β) {p : Int} {out : List TaiLayer} {t : TzTape} (h : TP t) (k : Nat) :
  ∃ t',p_zk_Tape_Layers_l0 (k + 1) kE0 p out ((3 : Nat) : Int) t = kE0 out t':=by
 obtain ⟨m,t1,e1,r1,h1⟩:=next_tape h (n:=3) (by omega)
 rw [p_zk_Tape_Layers_l0,e1,Option.bind_some]
 have d : decide (((3 : Nat) : Int) ≤ m) = false:=decide_eq_false (by omega)
 rw [d,cond_false]
 exact ⟨t1,rfl⟩
def Ly (p : Int) (l : List TaiLayer) : Prop:=(∃ r,(0 ≤ r∧r < 90)∧l = [tpL p 0 r]) ∨ (∃ r s,(0 ≤ r∧r < 90)∧(0 ≤ s∧s < 90)∧l = [tpL p 0 r,tpL p 1 s]) ∨ ∃ r s u,(0 ≤ r∧r < 90)∧(0 ≤ s∧s < 90)∧(0 ≤ u∧u < 90)∧l = [tpL p 0 r,tpL p 1 s,tpL p 2 u]
theorem tape_layers {t : TzTape} (h : TP t) {p : Int} (hp : 0 ≤ p∧p ≤ 5) (k : Nat) : ∃ l t',p_zk_Tape_Layers (k + 4) t p = some (l,t')∧Ly p l:=by
 unfold p_zk_Tape_Layers
 rw [show (0 : Int) = ((0 : Nat) : Int) from rfl]
 rcases tlayers_step (fun a b => some (a,b)) hp (i:=0) (by omega) (out:=[]) (by simp) h (k + 3) with ⟨t1,_,h1⟩ | ⟨r,t1,e1,r1,h1⟩
 ·omega
 rcases tlayers_step (fun a b => some (a,b)) hp (i:=1) (by omega) (out:=[tpL p 0 r]) (by simp) h1 (k + 2) with ⟨t2,e2,_⟩ | ⟨s,t2,e2,r2,h2⟩
 ·exact ⟨_,_,e1.trans e2,.inl ⟨r,r1,rfl⟩⟩
 rcases tlayers_step (fun a b => some (a,b)) hp (i:=2) (by omega) (out:=[tpL p 0 r,tpL p 1 s]) (by simp) h2 (k + 1) with ⟨t3,e3,_⟩ | ⟨u,t3,e3,r3,h3⟩
 ·exact ⟨_,_,(e1.trans e2).trans e3,.inr (.inl ⟨r,s,r1,r2,rfl⟩)⟩
 obtain ⟨t4,e4⟩:=tlayers_end (fun a b => some (a,b)) (p:=p) (out:=[tpL p 0 r,tpL p 1 s,tpL p 2 u]) h3 k
 exact ⟨_,_,((e1.trans e2).trans e3).trans e4,.inr (.inr ⟨r,s,u,r1,r2,r3,rfl⟩)⟩
theorem okL_ok {a : TaiLayer} (h1 : RidX.rightB a.Rid = true) (h2 : 1 ≤ a.Height∧a.Height ≤ 8192) : okL a none = true∧∀ b : TaiLayer,okL a (some b) = decide (b.Height < a.Height):=by
 have d1 : decide (1 ≤ a.Height) = true:=decide_eq_true h2.1
 have d2 : decide (a.Height ≤ 8192) = true:=decide_eq_true h2.2
 refine ⟨?_,fun b => ?_⟩ <;> simp [okL,h1,d1,d2]
end Go.Ev
namespace Go.Ev
open Go.Proofs
set_option linter.unusedVariables false
set_option linter.unusedSimpArgs false
set_option maxRecDepth 100000
noncomputable section
abbrev KT6:=Exit→Env→H→Option (List C × H)
variable (rec : CallF) (loop : LoopV) (σ : Stamp)
def ctl_Bytes_c0 : Code:=(codeAt (bodyOf Try.f29) [1,1,1,0,1,0,0])
def ctl_Bytes_l0 : Lv:=⟨34,12,[(0,34)]⟩
def ctl_Bytes_k0 : KT6:=(kBlock 0 (kSeq G rec loop (codeAt (bodyOf Try.f29) [1,1,1,1]) ⟨12,12,[]⟩ (1::1::1::0::σ) (finC G false Try.f29 (1::σ))))
def ctl_Bytes_c1 : Code:=(codeAt (bodyOf Try.f29) [1,1,1,1,0,1,0,0])
def ctl_Bytes_l1 : Lv:=⟨34,12,[(2,34)]⟩
def ctl_Bytes_k1 : KT6:=(kBlock 2 (kSeq G rec loop (codeAt (bodyOf Try.f29) [1,1,1,1,1]) ⟨12,12,[]⟩ (1::1::1::1::0::σ) (finC G false Try.f29 (1::σ))))
theorem ctl_Bytes_entry (x0 : V) (h : H) : cvBody G rec loop 29 σ [x0] h =
(boxO false (0::0::0::σ) 1 (List.replicate 87 []::h) x0).bind fun q1 =>
(ldO true 8 q1.2 q1.1).bind fun t2 =>
(callO rec 36 (1::0::0::1::0::σ) [t2] q1.2 (some 11)).bind fun q3 =>
(castI .i64 q3.1).bind fun n4 =>
bif n4 != 0 then (
fin false σ q3.2 [(.p (.slice .none 0 0)),(.p (.int .i64 n4))])
else (
(fA q1.1 2).bind fun t5 =>
(ldO false 1 q3.2 t5).bind fun t6 =>
(lenO t6).bind fun t7 =>
(castI .i64 t7).bind fun n8 =>
(loop ctl_Bytes_c0 ctl_Bytes_l0 (1::0::1::1::1::0::σ) (envL [(1,q1.1),(5,(.p (.slice .none 0 0))),(16,t6),(17,(.p (.int .i64 n8))),(18,(.p (.int .i64 0)))]) q3.2).bind fun r9 => ctl_Bytes_k0 rec loop σ r9.1 r9.2.1 r9.2.2):=by kernel_rfl
theorem ctl_Bytes_r0 (x1 : V) (x5 : V) (x16 : V) (x17 : Int) (x18 : Int) (h : H) : cvRound G rec loop ctl_Bytes_c0 ctl_Bytes_l0 σ (envL [(1,x1),(5,x5),(16,x16),(17,(.p (.int .i64 x17))),(18,(.p (.int .i64 x18)))]) h =
bif decide (x18 < x17) then (
(iS 3 x16 x18).bind fun t10 =>
(ldO true 3 h t10).bind fun t11 =>
(some (alO [.p (.string (⟨#[]⟩ : ByteArray)),.p (.int .u32 0),.p (.int .i64 0)] (2::0::0::1::1::0::σ) 7 h)).bind fun q12 =>
((stO false 3 (3::0::0::1::1::0::σ) q12.2 q12.1 t11).map fun h => (udf,h)).bind fun q13 =>
(fA q12.1 1).bind fun t14 =>
(ldO false 1 q13.2 t14).bind fun t15 =>
(castI .u32 t15).bind fun n16 =>
(fA q12.1 2).bind fun t17 =>
(ldO false 1 q13.2 t17).bind fun t18 =>
(castI .i64 t18).bind fun n19 =>
(fA q12.1 0).bind fun t20 =>
(ldO false 1 q13.2 t20).bind fun t21 =>
(castS t21).bind fun s22 =>
(callO rec 67 (4::1::0::1::1::0::σ) [(.p (.slice .none 0 0)),(.p (.int .u64 (IntKind.wrap .u64 n16))),(.p (.int .i64 4))] q13.2 (some 26)).bind fun q23 =>
need (ldO false 1 q23.2 t20 = some (.p (.string s22))) (
need ((some (.p (.int .u64 (IntKind.wrap .u64 n19))) : Option V) = some (.p (.int .u64 (IntKind.wrap .u64 n19)))) (
need (ldO false 1 q23.2 t17 = some (.p (.int .i64 n19))) (
(callO rec 67 (8::1::0::1::1::0::σ) [q23.1,(.p (.int .u64 (IntKind.wrap .u64 n19))),(.p (.int .i64 2))] q23.2 (some 30)).bind fun q24 =>
need (ldO false 1 q24.2 t20 = some (.p (.string s22))) (
(apO true 1 1 (11::1::0::1::1::0::σ) 33 q24.2 q24.1 (.p (.string s22))).bind fun q25 =>
(callO rec 66 (12::1::0::1::1::0::σ) [x5,(.p (.int .i64 2)),q25.1] q25.2 (some 34)).bind fun q26 =>
loop ctl_Bytes_c0 ctl_Bytes_l0 (1::σ) (envL [(1,x1),(5,q26.1),(16,x16),(17,(.p (.int .i64 x17))),(18,(.p (.int .i64 (IntKind.wrap .i64 (x18 + 1)))))]) q26.2)))))
else (
some ((.exit 0),(envL [(1,x1),(5,x5)]),h)):=by kernel_rfl
theorem ctl_Bytes_a0_0 (x1 : V) (x5 : V) (h : H) : ctl_Bytes_k0 rec loop σ (.exit 0) (envL [(1,x1),(5,x5)]) h =
(fA x1 1).bind fun t27 =>
(ldO false 1 h t27).bind fun t28 =>
(castI .i64 t28).bind fun n29 =>
(buildV Try.prog 110 [(0,(.p (.int .i64 1))),(1,(.p (.int .i64 8))),(2,(.p (.int .i64 n29)))]).bind fun t30 =>
(fA x1 3).bind fun t31 =>
(ldO false 1 h t31).bind fun t32 =>
(castI .i64 t32).bind fun n33 =>
(buildV Try.prog 110 [(0,(.p (.int .i64 3))),(1,(.p (.int .i64 1))),(2,(.p (.int .i64 n33)))]).bind fun t34 =>
(fA x1 4).bind fun t35 =>
(ldO false 1 h t35).bind fun t36 =>
(castI .i64 t36).bind fun n37 =>
(buildV Try.prog 110 [(0,(.p (.int .i64 4))),(1,(.p (.int .i64 2))),(2,(.p (.int .i64 n37)))]).bind fun t38 =>
(fA x1 5).bind fun t39 =>
(ldO false 1 h t39).bind fun t40 =>
(castI .i64 t40).bind fun n41 =>
(buildV Try.prog 110 [(0,(.p (.int .i64 5))),(1,(.p (.int .i64 1))),(2,(.p (.int .i64 n41)))]).bind fun t42 =>
(fA x1 6).bind fun t43 =>
(ldO false 1 h t43).bind fun t44 =>
(castI .i64 t44).bind fun n45 =>
(buildV Try.prog 110 [(0,(.p (.int .i64 6))),(1,(.p (.int .i64 1))),(2,(.p (.int .i64 n45)))]).bind fun t46 =>
(fA x1 7).bind fun t47 =>
(ldO false 1 h t47).bind fun t48 =>
(castI .i64 t48).bind fun n49 =>
(buildV Try.prog 110 [(0,(.p (.int .i64 7))),(1,(.p (.int .i64 1))),(2,(.p (.int .i64 n49)))]).bind fun t50 =>
(bSV Try.prog 111 6 [(0,t30),(1,t34),(2,t38),(3,t42),(4,t46),(5,t50)]).bind fun t51 =>
(lenO t51).bind fun t52 =>
(castI .i64 t52).bind fun n53 =>
(loop ctl_Bytes_c1 ctl_Bytes_l1 (1::0::1::1::1::1::0::σ) (envL [(1,x1),(5,x5),(54,t51),(55,(.p (.int .i64 n53))),(56,(.p (.int .i64 0)))]) h).bind fun r54 => ctl_Bytes_k1 rec loop σ r54.1 r54.2.1 r54.2.2:=by kernel_rfl
theorem ctl_Bytes_r1 (x1 : V) (x5 : V) (x54 : V) (x55 : Int) (x56 : Int) (h : H) : cvRound G rec loop ctl_Bytes_c1 ctl_Bytes_l1 σ (envL [(1,x1),(5,x5),(54,x54),(55,(.p (.int .i64 x55))),(56,(.p (.int .i64 x56)))]) h =
bif decide (x56 < x55) then (
(iS 3 x54 x56).bind fun t55 =>
(ldO true 3 h t55).bind fun t56 =>
(some (alO [.p (.int .i64 0),.p (.int .i64 0),.p (.int .i64 0)] (2::0::0::1::1::0::σ) 9 h)).bind fun q57 =>
((stO false 3 (3::0::0::1::1::0::σ) q57.2 q57.1 t56).map fun h => (udf,h)).bind fun q58 =>
(fA x1 0).bind fun t59 =>
(ldO false 1 q58.2 t59).bind fun t60 =>
(castI .i64 t60).bind fun n61 =>
(fA q57.1 0).bind fun t62 =>
(ldO false 1 q58.2 t62).bind fun t63 =>
(castI .i64 t63).bind fun n64 =>
(callO rec 68 (4::0::1::0::1::1::0::σ) [(.p (.int .i64 n61)),(.p (.int .i64 n64))] q58.2 (some 64)).bind fun q65 =>
(asB q65.1).bind fun b66 =>
bif b66 then (
(fA q57.1 0).bind fun t67 =>
(ldO false 1 q65.2 t67).bind fun t68 =>
(castI .i64 t68).bind fun n69 =>
(fA q57.1 2).bind fun t70 =>
(ldO false 1 q65.2 t70).bind fun t71 =>
(castI .i64 t71).bind fun n72 =>
(fA q57.1 1).bind fun t73 =>
(ldO false 1 q65.2 t73).bind fun t74 =>
(castI .i64 t74).bind fun n75 =>
(callO rec 67 (8::1::1::0::1::1::0::σ) [(.p (.slice .none 0 0)),(.p (.int .u64 (IntKind.wrap .u64 n72))),(.p (.int .i64 n75))] q65.2 (some 73)).bind fun q76 =>
need (ldO false 1 q76.2 t67 = some (.p (.int .i64 n69))) (
(callO rec 66 (9::1::1::0::1::1::0::σ) [x5,(.p (.int .i64 n69)),q76.1] q76.2 (some 74)).bind fun q77 =>
loop ctl_Bytes_c1 ctl_Bytes_l1 (1::σ) (envL [(1,x1),(5,q77.1),(54,x54),(55,(.p (.int .i64 x55))),(56,(.p (.int .i64 (IntKind.wrap .i64 (x56 + 1)))))]) q77.2))
else (
loop ctl_Bytes_c1 ctl_Bytes_l1 (1::σ) (envL [(1,x1),(5,x5),(54,x54),(55,(.p (.int .i64 x55))),(56,(.p (.int .i64 (IntKind.wrap .i64 (x56 + 1)))))]) q65.2))
else (
some ((.exit 2),(envL [(1,x1),(5,x5)]),h)):=by kernel_rfl
theorem ctl_Bytes_a1_2 (x1 : V) (x5 : V) (h : H) : ctl_Bytes_k1 rec loop σ (.exit 2) (envL [(1,x1),(5,x5)]) h =
(fA x1 0).bind fun t78 =>
(ldO false 1 h t78).bind fun t79 =>
(castI .i64 t79).bind fun n80 =>
(bSV Try.prog 32 1 [(0,(.p (.int .u8 (IntKind.wrap .u8 n80))))]).bind fun t81 =>
(lenO x5).bind fun t82 =>
(castI .i64 t82).bind fun n83 =>
(callO rec 67 (7::0::1::1::1::1::1::0::σ) [t81,(.p (.int .u64 (IntKind.wrap .u64 n83))),(.p (.int .i64 2))] h (some 83)).bind fun q84 =>
(bSV Try.prog 72 2 [(0,q84.1),(1,x5)]).bind fun t85 =>
(callFO rec 69 (10::0::1::1::1::1::1::0::σ) [t85] q84.2 (some 86)).bind fun q86 =>
fin false σ q86.2 [q86.1,(.p (.int .i64 0))]:=by kernel_rfl
theorem ctl_Right_entry (x0 : V) (h : H) : cvBody G rec loop 36 σ [x0] h =
(boxO false (0::0::0::σ) 1 (List.replicate 28 []::h) x0).bind fun q1 =>
(fA q1.1 0).bind fun t2 =>
(ldO false 1 q1.2 t2).bind fun t3 =>
(castI .i64 t3).bind fun n4 =>
(bif decide (n4 < 1) then (some true) else ((fA q1.1 0).bind fun t5 =>
(ldO false 1 q1.2 t5).bind fun t6 =>
(castI .i64 t6).bind fun n7 =>
some (decide (n7 > 10)))).bind fun b8 =>
(bif b8 then (some ((.p (.bool true)),q1.2)) else ((ldO true 8 q1.2 q1.1).bind fun t9 =>
(callO rec 79 (10::0::0::1::0::σ) [t9] q1.2 (some 14)).bind fun q10 =>
(asB q10.1).bind fun b11 =>
some ((.p (.bool (!b11))),q10.2))).bind fun q12 =>
(asB q12.1).bind fun b13 =>
bif b13 then (
fin false σ q12.2 [(.p (.int .i64 12))])
else (
(ldO true 8 q12.2 q1.1).bind fun t14 =>
(callO rec 80 (1::0::1::0::1::0::σ) [t14] q12.2 (some 19)).bind fun q15 =>
(asB q15.1).bind fun b16 =>
bif !b16 then (
fin false σ q15.2 [(.p (.int .i64 1))])
else (
(fA q1.1 0).bind fun t17 =>
(ldO false 1 q15.2 t17).bind fun t18 =>
(castI .i64 t18).bind fun n19 =>
bif n19 == 3 then (
(fA q1.1 2).bind fun t20 =>
(ldO false 1 q15.2 t20).bind fun t21 =>
(callO rec 34 (2::0::1::1::1::0::1::0::σ) [t21] q15.2 (some 27)).bind fun q22 =>
(castI .i64 q22.1).bind fun n23 =>
fin false σ q22.2 [(.p (.int .i64 n23))])
else (
fin false σ q15.2 [(.p (.int .i64 0))]))):=by kernel_rfl
def ctl_fields_c0 : Code:=(codeAt (bodyOf Try.f79) [1,1,0,1,0,0])
def ctl_fields_l0 : Lv:=⟨0,4,[(0,0)]⟩
def ctl_fields_k0 : KT6:=(kBlock 0 (kSeq G rec loop (codeAt (bodyOf Try.f79) [1,1,1]) ⟨4,4,[]⟩ (1::1::0::σ) (finC G false Try.f79 (1::σ))))
theorem ctl_fields_entry (x0 : V) (h : H) : cvBody G rec loop 79 σ [x0] h =
(boxO false (0::0::0::σ) 1 (List.replicate 47 []::h) x0).bind fun q1 =>
(fA q1.1 1).bind fun t2 =>
(ldO false 1 q1.2 t2).bind fun t3 =>
(castI .i64 t3).bind fun n4 =>
(fA q1.1 2).bind fun t5 =>
(ldO false 1 q1.2 t5).bind fun t6 =>
(lenO t6).bind fun t7 =>
(castI .i64 t7).bind fun n8 =>
(fA q1.1 3).bind fun t9 =>
(ldO false 1 q1.2 t9).bind fun t10 =>
(castI .i64 t10).bind fun n11 =>
(fA q1.1 4).bind fun t12 =>
(ldO false 1 q1.2 t12).bind fun t13 =>
(castI .i64 t13).bind fun n14 =>
(fA q1.1 5).bind fun t15 =>
(ldO false 1 q1.2 t15).bind fun t16 =>
(castI .i64 t16).bind fun n17 =>
(fA q1.1 6).bind fun t18 =>
(ldO false 1 q1.2 t18).bind fun t19 =>
(castI .i64 t19).bind fun n20 =>
(fA q1.1 7).bind fun t21 =>
(ldO false 1 q1.2 t21).bind fun t22 =>
(castI .i64 t22).bind fun n23 =>
(bSV Try.prog 155 7 [(0,(.p (.bool (n4 == 0)))),(1,(.p (.bool (n8 == 0)))),(2,(.p (.bool (n11 == 0)))),(3,(.p (.bool (n14 == 0)))),(4,(.p (.bool (n17 == 0)))),(5,(.p (.bool (n20 == 0)))),(6,(.p (.bool (n23 == 0))))]).bind fun t24 =>
(lenO t24).bind fun t25 =>
(castI .i64 t25).bind fun n26 =>
(loop ctl_fields_c0 ctl_fields_l0 (1::0::1::1::0::σ) (envL [(1,q1.1),(29,t24),(30,(.p (.int .i64 n26))),(31,(.p (.int .i64 0)))]) q1.2).bind fun r27 => ctl_fields_k0 rec loop σ r27.1 r27.2.1 r27.2.2:=by kernel_rfl
theorem ctl_fields_r0 (x1 : V) (x29 : V) (x30 : Int) (x31 : Int) (h : H) : cvRound G rec loop ctl_fields_c0 ctl_fields_l0 σ (envL [(1,x1),(29,x29),(30,(.p (.int .i64 x30))),(31,(.p (.int .i64 x31)))]) h =
bif decide (x31 < x30) then (
(iS 1 x29 x31).bind fun t28 =>
(ldO false 1 h t28).bind fun t29 =>
(asB t29).bind fun b30 =>
(bif !b30 then ((fA x1 0).bind fun t31 =>
(ldO false 1 h t31).bind fun t32 =>
(castI .i64 t32).bind fun n33 =>
(callO rec 68 (7::0::1::0::1::1::0::σ) [(.p (.int .i64 n33)),(.p (.int .i64 (IntKind.wrap .i64 (x31 + 1))))] h (some 43)).bind fun q34 =>
(asB q34.1).bind fun b35 =>
some ((.p (.bool (!b35))),q34.2)) else (some ((.p (.bool false)),h))).bind fun q36 =>
(asB q36.1).bind fun b37 =>
bif b37 then (
some (.ret,(envL [(2,(.p (.bool false)))]),q36.2))
else (
loop ctl_fields_c0 ctl_fields_l0 (1::σ) (envL [(1,x1),(29,x29),(30,(.p (.int .i64 x30))),(31,(.p (.int .i64 (IntKind.wrap .i64 (x31 + 1)))))]) q36.2))
else (
some ((.exit 0),(envL []),h)):=by kernel_rfl
theorem ctl_fields_a0_0  (h : H) : ctl_fields_k0 rec loop σ (.exit 0) (envL []) h =
fin false σ h [(.p (.bool true))]:=by kernel_rfl
theorem ctl_fields_a0_ret (x2 : Bool) (h : H) : ctl_fields_k0 rec loop σ .ret (envL [(2,(.p (.bool x2)))]) h =
fin false σ h [(.p (.bool x2))]:=by kernel_rfl
theorem ctl_has_entry (x0 : Int) (x1 : Int) (h : H) : cvBody G rec loop 68 σ [(.p (.int .i64 x0)),(.p (.int .i64 x1))] h =
bif x1 == 1 then (
fin false σ (List.replicate 56 []::h) [(.p (.bool (x0 == 1)))])
else (
bif x1 == 2 then (
fin false σ (List.replicate 56 []::h) [(.p (.bool (x0 == 3)))])
else (
bif x1 == 3 then (
(bif x0 == 4 then (some true) else (some (x0 == 5))).bind fun b1 =>
(bif b1 then (some true) else (some (x0 == 6))).bind fun b2 =>
(bif b2 then (some true) else (some (x0 == 7))).bind fun b3 =>
fin false σ (List.replicate 56 []::h) [(.p (.bool b3))])
else (
bif x1 == 4 then (
(bif x0 == 4 then (some true) else (some (x0 == 6))).bind fun b4 =>
fin false σ (List.replicate 56 []::h) [(.p (.bool b4))])
else (
bif x1 == 5 then (
(bif x0 == 4 then (some true) else (some (x0 == 7))).bind fun b5 =>
fin false σ (List.replicate 56 []::h) [(.p (.bool b5))])
else (
bif x1 == 6 then (
(bif x0 == 8 then (some true) else (some (x0 == 9))).bind fun b6 =>
fin false σ (List.replicate 56 []::h) [(.p (.bool b6))])
else (
fin false σ (List.replicate 56 []::h) [(.p (.bool (x0 == 10)))])))))):=by kernel_rfl
end
end Go.Ev
namespace Go.Ev
open Go.Proofs
set_option linter.unusedVariables false
set_option linter.unusedSimpArgs false
set_option maxRecDepth 100000
section
variable {β α : Type} {Q : β→α→Prop} {K : Exit × Env × H→Option α}
def p_ctl_has (x0 : Int) (x1 : Int) : Option (Bool) :=
bif x1 == 1 then (
some ((x0 == 1)))
else (
bif x1 == 2 then (
some ((x0 == 3)))
else (
bif x1 == 3 then (
(bif x0 == 4 then (some true) else (some (x0 == 5))).bind fun b4 =>
(bif b4 then (some true) else (some (x0 == 6))).bind fun b8 =>
(bif b8 then (some true) else (some (x0 == 7))).bind fun b12 =>
some (b12))
else (
bif x1 == 4 then (
(bif x0 == 4 then (some true) else (some (x0 == 6))).bind fun b17 =>
some (b17))
else (
bif x1 == 5 then (
(bif x0 == 4 then (some true) else (some (x0 == 7))).bind fun b22 =>
some (b22))
else (
bif x1 == 6 then (
(bif x0 == 8 then (some true) else (some (x0 == 9))).bind fun b27 =>
some (b27))
else (
some ((x0 == 10))))))))
theorem ctl_has_ok {h : H} {σ : Stamp} (x0 : Int) (x1 : Int) : Sim (p_ctl_has x0 x1) (ev G X0 68 σ [(.p (.int .i64 x0)),(.p (.int .i64 x1))] h) (fun r s => s = ([.v (.p (.bool r))],h)):=by
 refine .ev rfl (Sim.ext (ctl_has_entry _ _ _ _ _ _) ?_)
 rw [p_ctl_has]
 have S0 : Fm 56 h [] [] [] (List.replicate 56 []::h):=Fm.start0
 refine .cq ?_ ?_
 ·exact .fin (S0.finN (lC (sB _).lv lN)) rfl
 refine .cq ?_ ?_
 ·exact .fin (S0.finN (lC (sB _).lv lN)) rfl
 refine .cq ?_ ?_
 ·refine .ch (P:=fun r y => r = y) ?_ (fun b4 y5 h6 h7 => ?_)
  ·refine .cq ?_ ?_
   ·exact .ret rfl rfl
   ·exact .ret rfl rfl
  subst h7
  refine .ch (P:=fun r y => r = y) ?_ (fun b8 y9 h10 h11 => ?_)
  ·refine .cq ?_ ?_
   ·exact .ret rfl rfl
   ·exact .ret rfl rfl
  subst h11
  refine .ch (P:=fun r y => r = y) ?_ (fun b12 y13 h14 h15 => ?_)
  ·refine .cq ?_ ?_
   ·exact .ret rfl rfl
   ·exact .ret rfl rfl
  subst h15
  exact .fin (S0.finN (lC (sB _).lv lN)) rfl
 refine .cq ?_ ?_
 ·refine .ch (P:=fun r y => r = y) ?_ (fun b17 y18 h19 h20 => ?_)
  ·refine .cq ?_ ?_
   ·exact .ret rfl rfl
   ·exact .ret rfl rfl
  subst h20
  exact .fin (S0.finN (lC (sB _).lv lN)) rfl
 refine .cq ?_ ?_
 ·refine .ch (P:=fun r y => r = y) ?_ (fun b22 y23 h24 h25 => ?_)
  ·refine .cq ?_ ?_
   ·exact .ret rfl rfl
   ·exact .ret rfl rfl
  subst h25
  exact .fin (S0.finN (lC (sB _).lv lN)) rfl
 refine .cq ?_ ?_
 ·refine .ch (P:=fun r y => r = y) ?_ (fun b27 y28 h29 h30 => ?_)
  ·refine .cq ?_ ?_
   ·exact .ret rfl rfl
   ·exact .ret rfl rfl
  subst h30
  exact .fin (S0.finN (lC (sB _).lv lN)) rfl
 exact .fin (S0.finN (lC (sB _).lv lN)) rfl
def p_ctl_fields_l0 {β : Type} (k : Nat) (kE0 : Unit→Option β) (kE1 : Bool→Option β) (x29 : (List Bool)) (x30 : Int) (x31 : Int) (yg6 : TaiCtl) : Option β:=match k with
| 0 => none
| k + 1 =>
bif decide (x31 < x30) then (
(ix x29 x31).bind fun a19 =>
(bif !a19 then ((p_ctl_has yg6.Kind (IntKind.wrap .i64 (x31 + 1))).bind fun r22 =>
some (!r22)) else (some false)).bind fun b27 =>
bif b27 then (
kE1 false)
else (
p_ctl_fields_l0 k kE0 kE1 x29 x30 (IntKind.wrap .i64 (x31 + 1)) yg6))
else (
kE0 ())
def p_ctl_fields (k : Nat) (x0 : TaiCtl) : Option (Bool) :=
p_ctl_fields_l0 k (fun (_ : Unit) =>
some (true)) (fun r39_2 =>
some (r39_2)) ([(x0.Cap == 0),(((x0.Layers.length : Int)) == 0),(x0.Peer == 0),(x0.Height == 0),(x0.Class == 0),(x0.Layer == 0),(x0.Code == 0)]) ((([(x0.Cap == 0),(((x0.Layers.length : Int)) == 0),(x0.Peer == 0),(x0.Height == 0),(x0.Class == 0),(x0.Layer == 0),(x0.Code == 0)]).length : Int)) 0 x0
theorem ctl_fields_l0_ok {h : H}  {kE0 : Unit→Option β} {kE1 : Bool→Option β} (hE0 : ∀ (_u : Unit) (H32 : Go.Ev.H) (_ : Fm 47 h [] [] [] H32),Sim (kE0 ()) (K ((.exit 0),(envL []),H32)) Q) (hE1 : ∀ (q2 : Bool) (H34 : Go.Ev.H) (_ : Fm 47 h [] [] [] H34),Sim (kE1 q2) (K (.ret,(envL [(2,(.p (.bool q2)))]),H34)) Q) (k : Nat) : ∀ (x29 : (List Bool)) (x30 : Int) (x31 : Int) (yg6 : TaiCtl) (v10 : V) (h11 : SlF dB x29 v10) (w12 : List V) (h13 : dTaiCtl.R yg6 w12) (s14 : Stamp) (H8 : Go.Ev.H) (_ : Fm 47 h [] [(1,s14,List.map C.v w12)] [] H8) {σ : Stamp},Sim (p_ctl_fields_l0 k kE0 kE1 x29 x30 x31 yg6) ((cvL G X0 ctl_fields_c0 ctl_fields_l0 σ (envL [(1,(.ref ⟨h.length,1,0,s14,[]⟩ 0)),(29,v10),(30,(.p (.int .i64 x30))),(31,(.p (.int .i64 x31)))]) H8).bind K) Q:=by
 induction k with
 | zero => intros; exact .no
 | succ k ih =>
  intro x29 x30 x31 yg6 v10 h11 w12 h13 s14 H8 S9 σ
  rw [p_ctl_fields_l0]
  refine .round (Sim.ext (ctl_fields_r0 _ _ _ _ _ _ _ _) ?_)
  obtain ⟨v16,rfl,h17⟩:=dTaiCtl.inv h13
  refine .cq ?_ ?_
  ·refine .bd fun a19 h20 => ?_
   refine .op ((h11.h H8).iS h20 rfl) ?_
   obtain ⟨_,rfl,hE21⟩:=(h11.h H8).el h20 rfl
   refine .op (hE21.ld (j:=0) rfl) ?_
   refine .ab ?_
   refine .ch (P:=fun r y => (.p (.bool r),H8) = y) ?_ (fun b27 y28 h29 h30 => ?_)
   ·refine .cq ?_ ?_
    ·refine .fa ?_
     refine .op ((S9.atG (i:=0) rfl).ld (j:=0) rfl) ?_
     refine .ci ?_
     refine .call (ctl_has_ok yg6.Kind (IntKind.wrap .i64 (x31 + 1))) fun r22 cs23 H24 h25 q26 => ?_
     cases q26
     refine .ab ?_
     exact .ret rfl rfl
    ·exact .ret rfl rfl
   subst h30
   refine .ab ?_
   refine .cq ?_ ?_
   ·exact hE1 false H8 (S9.wk2 aN aN)
   exact ih x29 x30 (IntKind.wrap .i64 (x31 + 1)) yg6 v10 h11 _ h13 s14 H8 (S9.wk2 (aC (aM 0 rfl) aN) aN)
  exact hE0 () H8 (S9.wk2 aN aN)
theorem ctl_fields_ok (k : Nat) {h : H} {σ : Stamp} (x0 : TaiCtl) {u0 : List V} (hu0 : dTaiCtl.R x0 u0) : Sim (p_ctl_fields k x0) (ev G X0 79 σ [(.agg u0)] h) (fun r s => s = ([.v (.p (.bool r))],h)):=by
 refine .ev rfl (Sim.ext (ctl_fields_entry _ _ _ _ _) ?_)
 rw [p_ctl_fields]
 obtain ⟨v1,rfl,h2⟩:=dTaiCtl.inv hu0
 have S0 : Fm 47 h [] [] [] (List.replicate 47 []::h):=Fm.start0
 obtain ⟨H3,e4,S5⟩:=S0.box (own:=false) (d:=1) (s:=(0::0::0::σ)) (xs:=[(.p (.int .i64 x0.Kind)),(.p (.int .i64 x0.Cap)),v1,(.p (.int .i64 x0.Peer)),(.p (.int .i64 x0.Height)),(.p (.int .i64 x0.Class)),(.p (.int .i64 x0.Layer)),(.p (.int .i64 x0.Code))]) (sC (sI _ _) (sC (sI _ _) (sC h2.still (sC (sI _ _) (sC (sI _ _) (sC (sI _ _) (sC (sI _ _) (sC (sI _ _) sN)))))))) (by decide) rfl
 refine .op (e4) ?_
 refine .fa ?_
 refine .op ((S5.atG (i:=0) rfl).ld (j:=1) rfl) ?_
 refine .ci ?_
 refine .fa ?_
 refine .op ((S5.atG (i:=0) rfl).ld (j:=2) rfl) ?_
 refine .op ((h2.h H3).len) ?_
 refine .ci ?_
 refine .fa ?_
 refine .op ((S5.atG (i:=0) rfl).ld (j:=3) rfl) ?_
 refine .ci ?_
 refine .fa ?_
 refine .op ((S5.atG (i:=0) rfl).ld (j:=4) rfl) ?_
 refine .ci ?_
 refine .fa ?_
 refine .op ((S5.atG (i:=0) rfl).ld (j:=5) rfl) ?_
 refine .ci ?_
 refine .fa ?_
 refine .op ((S5.atG (i:=0) rfl).ld (j:=6) rfl) ?_
 refine .ci ?_
 refine .fa ?_
 refine .op ((S5.atG (i:=0) rfl).ld (j:=7) rfl) ?_
 refine .ci ?_
 have h7 : SlF dB [(x0.Cap == 0),(((x0.Layers.length : Int)) == 0),(x0.Peer == 0),(x0.Height == 0),(x0.Class == 0),(x0.Layer == 0),(x0.Code == 0)] (.fz [(.p (.bool (x0.Cap == 0))),(.p (.bool (((x0.Layers.length : Int)) == 0))),(.p (.bool (x0.Peer == 0))),(.p (.bool (x0.Height == 0))),(.p (.bool (x0.Class == 0))),(.p (.bool (x0.Layer == 0))),(.p (.bool (x0.Code == 0)))] 7 1 true):=SlF.lit (cs:=[(.p (.bool (x0.Cap == 0))),(.p (.bool (((x0.Layers.length : Int)) == 0))),(.p (.bool (x0.Peer == 0))),(.p (.bool (x0.Height == 0))),(.p (.bool (x0.Class == 0))),(.p (.bool (x0.Layer == 0))),(.p (.bool (x0.Code == 0)))]) (RL.cons (show dB.R (x0.Cap == 0) [(.p (.bool (x0.Cap == 0)))] from rfl) (RL.cons (show dB.R (((x0.Layers.length : Int)) == 0) [(.p (.bool (((x0.Layers.length : Int)) == 0)))] from rfl) (RL.cons (show dB.R (x0.Peer == 0) [(.p (.bool (x0.Peer == 0)))] from rfl) (RL.cons (show dB.R (x0.Height == 0) [(.p (.bool (x0.Height == 0)))] from rfl) (RL.cons (show dB.R (x0.Class == 0) [(.p (.bool (x0.Class == 0)))] from rfl) (RL.cons (show dB.R (x0.Layer == 0) [(.p (.bool (x0.Layer == 0)))] from rfl) (RL.cons (show dB.R (x0.Code == 0) [(.p (.bool (x0.Code == 0)))] from rfl) RL.nil))))))) rfl rfl true
 refine .op (bldS (pC rfl (pC rfl (pC rfl (pC rfl (pC rfl (pC rfl (pC rfl pN))))))) (by kernel_rfl : _ = some (vOf h7))) ?_
 refine .op ((h7.h H3).len) ?_
 refine .ci ?_
 refine .as (ctl_fields_l0_ok ?_ ?_ k ([(x0.Cap == 0),(((x0.Layers.length : Int)) == 0),(x0.Peer == 0),(x0.Height == 0),(x0.Class == 0),(x0.Layer == 0),(x0.Code == 0)]) ((([(x0.Cap == 0),(((x0.Layers.length : Int)) == 0),(x0.Peer == 0),(x0.Height == 0),(x0.Class == 0),(x0.Layer == 0),(x0.Code == 0)]).length : Int)) 0 x0 (.fz [(.p (.bool (x0.Cap == 0))),(.p (.bool (((x0.Layers.length : Int)) == 0))),(.p (.bool (x0.Peer == 0))),(.p (.bool (x0.Height == 0))),(.p (.bool (x0.Class == 0))),(.p (.bool (x0.Layer == 0))),(.p (.bool (x0.Code == 0)))] 7 1 true) h7 _ hu0 (0::0::0::σ) H3 (S5.wk2 (aC (aM 0 rfl) aN) aN))
 ·intro _u H37 S38
  refine .ext (ctl_fields_a0_0 _ _ _ _) ?_
  exact .fin (S38.finN (lC (sB _).lv lN)) rfl
 ·intro r39_2 H40 S41
  refine .ext (ctl_fields_a0_ret _ _ _ _ _) ?_
  exact .fin (S41.finN (lC (sB _).lv lN)) rfl
end
end Go.Ev
namespace Go.Ev
open Go.Proofs
set_option linter.unusedVariables false
set_option linter.unusedSimpArgs false
set_option maxRecDepth 100000
noncomputable section
abbrev KT7:=Exit→Env→H→Option (List C × H)
variable (rec : CallF) (loop : LoopV) (σ : Stamp)
theorem ctl_values_entry (x0 : V) (h : H) : cvBody G rec loop 80 σ [x0] h =
(boxO false (0::0::0::σ) 1 (List.replicate 67 []::h) x0).bind fun q1 =>
(fA q1.1 0).bind fun t2 =>
(ldO false 1 q1.2 t2).bind fun t3 =>
(castI .i64 t3).bind fun n4 =>
(callO rec 68 (2::0::1::0::σ) [(.p (.int .i64 n4)),(.p (.int .i64 1))] q1.2 (some 5)).bind fun q5 =>
(asB q5.1).bind fun b6 =>
(bif !b6 then (some ((.p (.bool true)),q5.2)) else ((fA q1.1 1).bind fun t7 =>
(ldO false 1 q5.2 t7).bind fun t8 =>
(castI .i64 t8).bind fun n9 =>
(callO rec 115 (7::0::1::0::σ) [(.p (.int .i64 n9)),(.p (.int .i64 1)),(.p (.int .i64 1099511627776))] q5.2 (some 10)).bind fun q10 =>
(asB q10.1).bind fun b11 =>
some ((.p (.bool b11)),q10.2))).bind fun q12 =>
(asB q12.1).bind fun b13 =>
(bif b13 then ((fA q1.1 0).bind fun t14 =>
(ldO false 1 q12.2 t14).bind fun t15 =>
(castI .i64 t15).bind fun n16 =>
(callO rec 68 (12::0::1::0::σ) [(.p (.int .i64 n16)),(.p (.int .i64 3))] q12.2 (some 15)).bind fun q17 =>
(asB q17.1).bind fun b18 =>
(bif !b18 then (some ((.p (.bool true)),q17.2)) else ((fA q1.1 3).bind fun t19 =>
(ldO false 1 q17.2 t19).bind fun t20 =>
(castI .i64 t20).bind fun n21 =>
(callO rec 115 (17::0::1::0::σ) [(.p (.int .i64 n21)),(.p (.int .i64 0)),(.p (.int .i64 5))] q17.2 (some 20)).bind fun q22 =>
(asB q22.1).bind fun b23 =>
some ((.p (.bool b23)),q22.2))).bind fun q24 =>
(asB q24.1).bind fun b25 =>
some ((.p (.bool b25)),q24.2)) else (some ((.p (.bool false)),q12.2))).bind fun q26 =>
(asB q26.1).bind fun b27 =>
(bif b27 then ((fA q1.1 0).bind fun t28 =>
(ldO false 1 q26.2 t28).bind fun t29 =>
(castI .i64 t29).bind fun n30 =>
(callO rec 68 (23::0::1::0::σ) [(.p (.int .i64 n30)),(.p (.int .i64 4))] q26.2 (some 26)).bind fun q31 =>
(asB q31.1).bind fun b32 =>
(bif !b32 then (some ((.p (.bool true)),q31.2)) else ((fA q1.1 4).bind fun t33 =>
(ldO false 1 q31.2 t33).bind fun t34 =>
(castI .i64 t34).bind fun n35 =>
(callO rec 115 (28::0::1::0::σ) [(.p (.int .i64 n35)),(.p (.int .i64 1)),(.p (.int .i64 8192))] q31.2 (some 31)).bind fun q36 =>
(asB q36.1).bind fun b37 =>
some ((.p (.bool b37)),q36.2))).bind fun q38 =>
(asB q38.1).bind fun b39 =>
some ((.p (.bool b39)),q38.2)) else (some ((.p (.bool false)),q26.2))).bind fun q40 =>
(asB q40.1).bind fun b41 =>
(bif b41 then ((fA q1.1 0).bind fun t42 =>
(ldO false 1 q40.2 t42).bind fun t43 =>
(castI .i64 t43).bind fun n44 =>
(callO rec 68 (34::0::1::0::σ) [(.p (.int .i64 n44)),(.p (.int .i64 5))] q40.2 (some 37)).bind fun q45 =>
(asB q45.1).bind fun b46 =>
(bif !b46 then (some ((.p (.bool true)),q45.2)) else ((fA q1.1 5).bind fun t47 =>
(ldO false 1 q45.2 t47).bind fun t48 =>
(castI .i64 t48).bind fun n49 =>
(callO rec 115 (39::0::1::0::σ) [(.p (.int .i64 n49)),(.p (.int .i64 0)),(.p (.int .i64 3))] q45.2 (some 42)).bind fun q50 =>
(asB q50.1).bind fun b51 =>
some ((.p (.bool b51)),q50.2))).bind fun q52 =>
(asB q52.1).bind fun b53 =>
some ((.p (.bool b53)),q52.2)) else (some ((.p (.bool false)),q40.2))).bind fun q54 =>
(asB q54.1).bind fun b55 =>
(bif b55 then ((fA q1.1 0).bind fun t56 =>
(ldO false 1 q54.2 t56).bind fun t57 =>
(castI .i64 t57).bind fun n58 =>
(callO rec 68 (45::0::1::0::σ) [(.p (.int .i64 n58)),(.p (.int .i64 6))] q54.2 (some 48)).bind fun q59 =>
(asB q59.1).bind fun b60 =>
(bif !b60 then (some ((.p (.bool true)),q59.2)) else ((fA q1.1 6).bind fun t61 =>
(ldO false 1 q59.2 t61).bind fun t62 =>
(castI .i64 t62).bind fun n63 =>
(callO rec 115 (50::0::1::0::σ) [(.p (.int .i64 n63)),(.p (.int .i64 0)),(.p (.int .i64 2))] q59.2 (some 53)).bind fun q64 =>
(asB q64.1).bind fun b65 =>
some ((.p (.bool b65)),q64.2))).bind fun q66 =>
(asB q66.1).bind fun b67 =>
some ((.p (.bool b67)),q66.2)) else (some ((.p (.bool false)),q54.2))).bind fun q68 =>
(asB q68.1).bind fun b69 =>
(bif b69 then ((fA q1.1 0).bind fun t70 =>
(ldO false 1 q68.2 t70).bind fun t71 =>
(castI .i64 t71).bind fun n72 =>
(callO rec 68 (56::0::1::0::σ) [(.p (.int .i64 n72)),(.p (.int .i64 7))] q68.2 (some 59)).bind fun q73 =>
(asB q73.1).bind fun b74 =>
(bif !b74 then (some ((.p (.bool true)),q73.2)) else ((fA q1.1 7).bind fun t75 =>
(ldO false 1 q73.2 t75).bind fun t76 =>
(castI .i64 t76).bind fun n77 =>
(callO rec 115 (61::0::1::0::σ) [(.p (.int .i64 n77)),(.p (.int .i64 0)),(.p (.int .i64 255))] q73.2 (some 64)).bind fun q78 =>
(asB q78.1).bind fun b79 =>
some ((.p (.bool b79)),q78.2))).bind fun q80 =>
(asB q80.1).bind fun b81 =>
some ((.p (.bool b81)),q80.2)) else (some ((.p (.bool false)),q68.2))).bind fun q82 =>
(asB q82.1).bind fun b83 =>
fin false σ q82.2 [(.p (.bool b83))]:=by kernel_rfl
theorem ctl_within_entry (x0 : Int) (x1 : Int) (x2 : Int) (h : H) : cvBody G rec loop 115 σ [(.p (.int .i64 x0)),(.p (.int .i64 x1)),(.p (.int .i64 x2))] h =
(bif decide (x0 ≥ x1) then (some (decide (x0 ≤ x2))) else (some false)).bind fun b1 =>
fin false σ (List.replicate 15 []::h) [(.p (.bool b1))]:=by kernel_rfl
end
end Go.Ev
namespace Go.Ev
open Go.Proofs
set_option linter.unusedVariables false
set_option linter.unusedSimpArgs false
set_option maxRecDepth 100000
section
variable {β α : Type} {Q : β→α→Prop} {K : Exit × Env × H→Option α}
def p_ctl_within (x0 : Int) (x1 : Int) (x2 : Int) : Option (Bool) :=
(bif decide (x0 ≥ x1) then (some (decide (x0 ≤ x2))) else (some false)).bind fun b1 =>
some (b1)
theorem ctl_within_ok {h : H} {σ : Stamp} (x0 : Int) (x1 : Int) (x2 : Int) : Sim (p_ctl_within x0 x1 x2) (ev G X0 115 σ [(.p (.int .i64 x0)),(.p (.int .i64 x1)),(.p (.int .i64 x2))] h) (fun r s => s = ([.v (.p (.bool r))],h)):=by
 refine .ev rfl (Sim.ext (ctl_within_entry _ _ _ _ _ _ _) ?_)
 rw [p_ctl_within]
 have S0 : Fm 15 h [] [] [] (List.replicate 15 []::h):=Fm.start0
 refine .ch (P:=fun r y => r = y) ?_ (fun b1 y2 h3 h4 => ?_)
 ·refine .cq ?_ ?_
  ·exact .ret rfl rfl
  ·exact .ret rfl rfl
 subst h4
 exact .fin (S0.finN (lC (sB _).lv lN)) rfl
def p_ctl_values (x0 : TaiCtl) : Option (Bool) :=
(p_ctl_has x0.Kind 1).bind fun r7 =>
(bif !r7 then (some true) else ((p_ctl_within x0.Cap 1 1099511627776).bind fun r12 =>
some r12)).bind fun b17 =>
(bif b17 then ((p_ctl_has x0.Kind 3).bind fun r21 =>
(bif !r21 then (some true) else ((p_ctl_within x0.Peer 0 5).bind fun r26 =>
some r26)).bind fun b31 =>
some b31) else (some false)).bind fun b35 =>
(bif b35 then ((p_ctl_has x0.Kind 4).bind fun r39 =>
(bif !r39 then (some true) else ((p_ctl_within x0.Height 1 8192).bind fun r44 =>
some r44)).bind fun b49 =>
some b49) else (some false)).bind fun b53 =>
(bif b53 then ((p_ctl_has x0.Kind 5).bind fun r57 =>
(bif !r57 then (some true) else ((p_ctl_within x0.Class 0 3).bind fun r62 =>
some r62)).bind fun b67 =>
some b67) else (some false)).bind fun b71 =>
(bif b71 then ((p_ctl_has x0.Kind 6).bind fun r75 =>
(bif !r75 then (some true) else ((p_ctl_within x0.Layer 0 2).bind fun r80 =>
some r80)).bind fun b85 =>
some b85) else (some false)).bind fun b89 =>
(bif b89 then ((p_ctl_has x0.Kind 7).bind fun r93 =>
(bif !r93 then (some true) else ((p_ctl_within x0.Code 0 255).bind fun r98 =>
some r98)).bind fun b103 =>
some b103) else (some false)).bind fun b107 =>
some (b107)
theorem ctl_values_ok {h : H} {σ : Stamp} (x0 : TaiCtl) {u0 : List V} (hu0 : dTaiCtl.R x0 u0) : Sim (p_ctl_values x0) (ev G X0 80 σ [(.agg u0)] h) (fun r s => s = ([.v (.p (.bool r))],h)):=by
 refine .ev rfl (Sim.ext (ctl_values_entry _ _ _ _ _) ?_)
 rw [p_ctl_values]
 obtain ⟨v1,rfl,h2⟩:=dTaiCtl.inv hu0
 have S0 : Fm 67 h [] [] [] (List.replicate 67 []::h):=Fm.start0
 obtain ⟨H3,e4,S5⟩:=S0.box (own:=false) (d:=1) (s:=(0::0::0::σ)) (xs:=[(.p (.int .i64 x0.Kind)),(.p (.int .i64 x0.Cap)),v1,(.p (.int .i64 x0.Peer)),(.p (.int .i64 x0.Height)),(.p (.int .i64 x0.Class)),(.p (.int .i64 x0.Layer)),(.p (.int .i64 x0.Code))]) (sC (sI _ _) (sC (sI _ _) (sC h2.still (sC (sI _ _) (sC (sI _ _) (sC (sI _ _) (sC (sI _ _) (sC (sI _ _) sN)))))))) (by decide) rfl
 refine .op (e4) ?_
 refine .fa ?_
 refine .op ((S5.atG (i:=0) rfl).ld (j:=0) rfl) ?_
 refine .ci ?_
 refine .call (ctl_has_ok x0.Kind 1) fun r7 cs8 H9 h10 q11 => ?_
 cases q11
 refine .ab ?_
 refine .ch (P:=fun r y => (.p (.bool r),H3) = y) ?_ (fun b17 y18 h19 h20 => ?_)
 ·refine .cq ?_ ?_
  ·exact .ret rfl rfl
  ·refine .fa ?_
   refine .op ((S5.atG (i:=0) rfl).ld (j:=1) rfl) ?_
   refine .ci ?_
   refine .call (ctl_within_ok x0.Cap 1 1099511627776) fun r12 cs13 H14 h15 q16 => ?_
   cases q16
   refine .ab ?_
   exact .ret rfl rfl
 subst h20
 refine .ab ?_
 refine .ch (P:=fun r y => (.p (.bool r),H3) = y) ?_ (fun b35 y36 h37 h38 => ?_)
 ·refine .cq ?_ ?_
  ·refine .fa ?_
   refine .op ((S5.atG (i:=0) rfl).ld (j:=0) rfl) ?_
   refine .ci ?_
   refine .call (ctl_has_ok x0.Kind 3) fun r21 cs22 H23 h24 q25 => ?_
   cases q25
   refine .ab ?_
   refine .ch (P:=fun r y => (.p (.bool r),H3) = y) ?_ (fun b31 y32 h33 h34 => ?_)
   ·refine .cq ?_ ?_
    ·exact .ret rfl rfl
    ·refine .fa ?_
     refine .op ((S5.atG (i:=0) rfl).ld (j:=3) rfl) ?_
     refine .ci ?_
     refine .call (ctl_within_ok x0.Peer 0 5) fun r26 cs27 H28 h29 q30 => ?_
     cases q30
     refine .ab ?_
     exact .ret rfl rfl
   subst h34
   refine .ab ?_
   exact .ret rfl rfl
  ·exact .ret rfl rfl
 subst h38
 refine .ab ?_
 refine .ch (P:=fun r y => (.p (.bool r),H3) = y) ?_ (fun b53 y54 h55 h56 => ?_)
 ·refine .cq ?_ ?_
  ·refine .fa ?_
   refine .op ((S5.atG (i:=0) rfl).ld (j:=0) rfl) ?_
   refine .ci ?_
   refine .call (ctl_has_ok x0.Kind 4) fun r39 cs40 H41 h42 q43 => ?_
   cases q43
   refine .ab ?_
   refine .ch (P:=fun r y => (.p (.bool r),H3) = y) ?_ (fun b49 y50 h51 h52 => ?_)
   ·refine .cq ?_ ?_
    ·exact .ret rfl rfl
    ·refine .fa ?_
     refine .op ((S5.atG (i:=0) rfl).ld (j:=4) rfl) ?_
     refine .ci ?_
     refine .call (ctl_within_ok x0.Height 1 8192) fun r44 cs45 H46 h47 q48 => ?_
     cases q48
     refine .ab ?_
     exact .ret rfl rfl
   subst h52
   refine .ab ?_
   exact .ret rfl rfl
  ·exact .ret rfl rfl
 subst h56
 refine .ab ?_
 refine .ch (P:=fun r y => (.p (.bool r),H3) = y) ?_ (fun b71 y72 h73 h74 => ?_)
 ·refine .cq ?_ ?_
  ·refine .fa ?_
   refine .op ((S5.atG (i:=0) rfl).ld (j:=0) rfl) ?_
   refine .ci ?_
   refine .call (ctl_has_ok x0.Kind 5) fun r57 cs58 H59 h60 q61 => ?_
   cases q61
   refine .ab ?_
   refine .ch (P:=fun r y => (.p (.bool r),H3) = y) ?_ (fun b67 y68 h69 h70 => ?_)
   ·refine .cq ?_ ?_
    ·exact .ret rfl rfl
    ·refine .fa ?_
     refine .op ((S5.atG (i:=0) rfl).ld (j:=5) rfl) ?_
     refine .ci ?_
     refine .call (ctl_within_ok x0.Class 0 3) fun r62 cs63 H64 h65 q66 => ?_
     cases q66
     refine .ab ?_
     exact .ret rfl rfl
   subst h70
   refine .ab ?_
   exact .ret rfl rfl
  ·exact .ret rfl rfl
 subst h74
 refine .ab ?_
 refine .ch (P:=fun r y => (.p (.bool r),H3) = y) ?_ (fun b89 y90 h91 h92 => ?_)
 ·refine .cq ?_ ?_
  ·refine .fa ?_
   refine .op ((S5.atG (i:=0) rfl).ld (j:=0) rfl) ?_
   refine .ci ?_
   refine .call (ctl_has_ok x0.Kind 6) fun r75 cs76 H77 h78 q79 => ?_
   cases q79
   refine .ab ?_
   refine .ch (P:=fun r y => (.p (.bool r),H3) = y) ?_ (fun b85 y86 h87 h88 => ?_)
   ·refine .cq ?_ ?_
    ·exact .ret rfl rfl
    ·refine .fa ?_
     refine .op ((S5.atG (i:=0) rfl).ld (j:=6) rfl) ?_
     refine .ci ?_
     refine .call (ctl_within_ok x0.Layer 0 2) fun r80 cs81 H82 h83 q84 => ?_
     cases q84
     refine .ab ?_
     exact .ret rfl rfl
   subst h88
   refine .ab ?_
   exact .ret rfl rfl
  ·exact .ret rfl rfl
 subst h92
 refine .ab ?_
 refine .ch (P:=fun r y => (.p (.bool r),H3) = y) ?_ (fun b107 y108 h109 h110 => ?_)
 ·refine .cq ?_ ?_
  ·refine .fa ?_
   refine .op ((S5.atG (i:=0) rfl).ld (j:=0) rfl) ?_
   refine .ci ?_
   refine .call (ctl_has_ok x0.Kind 7) fun r93 cs94 H95 h96 q97 => ?_
   cases q97
   refine .ab ?_
   refine .ch (P:=fun r y => (.p (.bool r),H3) = y) ?_ (fun b103 y104 h105 h106 => ?_)
   ·refine .cq ?_ ?_
    ·exact .ret rfl rfl
    ·refine .fa ?_
     refine .op ((S5.atG (i:=0) rfl).ld (j:=7) rfl) ?_
     refine .ci ?_
     refine .call (ctl_within_ok x0.Code 0 255) fun r98 cs99 H100 h101 q102 => ?_
     cases q102
     refine .ab ?_
     exact .ret rfl rfl
   subst h106
   refine .ab ?_
   exact .ret rfl rfl
  ·exact .ret rfl rfl
 subst h110
 refine .ab ?_
 exact .fin (S5.finN (lC (sB _).lv lN)) rfl
def p_ctl_Right (k : Nat) (x0 : TaiCtl) : Option (Int) :=
(bif decide (x0.Kind < 1) then (some true) else (some (decide (x0.Kind > 10)))).bind fun b7 =>
(bif b7 then (some true) else ((p_ctl_fields k x0).bind fun r11 =>
some (!r11))).bind fun b16 =>
bif b16 then (
some (12))
else (
(p_ctl_values x0).bind fun r21 =>
bif !r21 then (
some (1))
else (
bif x0.Kind == 3 then (
(p_ctl_Layers k x0.Layers).bind fun r28 =>
some (r28))
else (
some (0))))
theorem ctl_Right_ok (k : Nat) {h : H} {σ : Stamp} (x0 : TaiCtl) {u0 : List V} (hu0 : dTaiCtl.R x0 u0) : Sim (p_ctl_Right k x0) (ev G X0 36 σ [(.agg u0)] h) (fun r s => s = ([.v (.p (.int .i64 r))],h)):=by
 refine .ev rfl (Sim.ext (ctl_Right_entry _ _ _ _ _) ?_)
 rw [p_ctl_Right]
 obtain ⟨v1,rfl,h2⟩:=dTaiCtl.inv hu0
 have S0 : Fm 28 h [] [] [] (List.replicate 28 []::h):=Fm.start0
 obtain ⟨H3,e4,S5⟩:=S0.box (own:=false) (d:=1) (s:=(0::0::0::σ)) (xs:=[(.p (.int .i64 x0.Kind)),(.p (.int .i64 x0.Cap)),v1,(.p (.int .i64 x0.Peer)),(.p (.int .i64 x0.Height)),(.p (.int .i64 x0.Class)),(.p (.int .i64 x0.Layer)),(.p (.int .i64 x0.Code))]) (sC (sI _ _) (sC (sI _ _) (sC h2.still (sC (sI _ _) (sC (sI _ _) (sC (sI _ _) (sC (sI _ _) (sC (sI _ _) sN)))))))) (by decide) rfl
 refine .op (e4) ?_
 refine .fa ?_
 refine .op ((S5.atG (i:=0) rfl).ld (j:=0) rfl) ?_
 refine .ci ?_
 refine .ch (P:=fun r y => r = y) ?_ (fun b7 y8 h9 h10 => ?_)
 ·refine .cq ?_ ?_
  ·exact .ret rfl rfl
  ·refine .fa ?_
   refine .op ((S5.atG (i:=0) rfl).ld (j:=0) rfl) ?_
   refine .ci ?_
   exact .ret rfl rfl
 subst h10
 refine .ch (P:=fun r y => (.p (.bool r),H3) = y) ?_ (fun b16 y17 h18 h19 => ?_)
 ·refine .cq ?_ ?_
  ·exact .ret rfl rfl
  ·refine .op ((S5.atG (i:=0) rfl).ldVs (j:=0) (xs:=[(.p (.int .i64 x0.Kind)),(.p (.int .i64 x0.Cap)),v1,(.p (.int .i64 x0.Peer)),(.p (.int .i64 x0.Height)),(.p (.int .i64 x0.Class)),(.p (.int .i64 x0.Layer)),(.p (.int .i64 x0.Code))]) rfl rfl (by decide)) ?_
   refine .call (ctl_fields_ok k x0 hu0) fun r11 cs12 H13 h14 q15 => ?_
   cases q15
   refine .ab ?_
   exact .ret rfl rfl
 subst h19
 refine .ab ?_
 refine .cq ?_ ?_
 ·exact .fin (S5.finN (lC (sI _ _).lv lN)) rfl
 refine .op ((S5.atG (i:=0) rfl).ldVs (j:=0) (xs:=[(.p (.int .i64 x0.Kind)),(.p (.int .i64 x0.Cap)),v1,(.p (.int .i64 x0.Peer)),(.p (.int .i64 x0.Height)),(.p (.int .i64 x0.Class)),(.p (.int .i64 x0.Layer)),(.p (.int .i64 x0.Code))]) rfl rfl (by decide)) ?_
 refine .call (ctl_values_ok x0 hu0) fun r21 cs22 H23 h24 q25 => ?_
 cases q25
 refine .ab ?_
 refine .cq ?_ ?_
 ·exact .fin (S5.finN (lC (sI _ _).lv lN)) rfl
 refine .fa ?_
 refine .op ((S5.atG (i:=0) rfl).ld (j:=0) rfl) ?_
 refine .ci ?_
 refine .cq ?_ ?_
 ·refine .fa ?_
  refine .op ((S5.atG (i:=0) rfl).ld (j:=2) rfl) ?_
  refine .call (ctl_Layers_ok k x0.Layers (h2.h H3)) fun r28 cs29 H30 h31 q32 => ?_
  cases q32
  refine .ci ?_
  exact .fin (S5.finN (lC (sI _ _).lv lN)) rfl
 exact .fin (S5.finN (lC (sI _ _).lv lN)) rfl
end
end Go.Ev
namespace Go.Ev
open Go.Proofs
set_option linter.unusedVariables false
set_option linter.unusedSimpArgs false
set_option maxRecDepth 100000
noncomputable section
abbrev KT8:=Exit→Env→H→Option (List C × H)
variable (rec : CallF) (loop : LoopV) (σ : Stamp)
theorem ctl_field_entry (x0 : V) (x1 : Int) (x2 : V) (h : H) : cvBody G rec loop 66 σ [x0,(.p (.int .i64 x1)),x2] h =
(lenO x2).bind fun t1 =>
(castI .i64 t1).bind fun n2 =>
(bSV Try.prog 32 2 [(0,(.p (.int .u8 (IntKind.wrap .u8 x1)))),(1,(.p (.int .u8 (IntKind.wrap .u8 n2))))]).bind fun t3 =>
(apO true 1 1 (7::0::1::0::σ) 14 (List.replicate 17 []::h) x0 t3).bind fun q4 =>
(apO true 1 1 (9::0::1::0::σ) 16 q4.2 q4.1 x2).bind fun q5 =>
fin false σ q5.2 [q5.1]:=by kernel_rfl
end
end Go.Ev
namespace Go.Ev
open Go.Proofs
set_option linter.unusedVariables false
set_option linter.unusedSimpArgs false
set_option maxRecDepth 100000
section
variable {β α : Type} {Q : β→α→Prop} {K : Exit × Env × H→Option α}
def p_ctl_field (x0 : (List Int)) (x1 : Int) (x2 : (List Int)) : Option ((List Int)) :=
(ap 1 x0 ([(IntKind.wrap .u8 x1),(IntKind.wrap .u8 ((x2.length : Int)))])).bind fun a4 =>
(ap 1 a4 x2).bind fun a13 =>
some (a13)
theorem ctl_field_ok {h : H} {σ : Stamp} (x0 : List Int) {u0 : V} {D0 : List Nat} (hu0 : OwnA D0 h (dI .u8) x0 u0) (x1 : Int) (x2 : List Int) {u2 : V} (hu2 : ∀ h',KillA D0 h h'→SlH h' (dI .u8) x2 u2) : Sim (p_ctl_field x0 x1 x2) (ev G X0 66 σ [u0,(.p (.int .i64 x1)),u2] h) (fun r s => ∃ (c0 : C),∃ (a0 : List V),OwnS c0 (dI .u8).sz r.length a0∧(dI .u8).L r a0∧KillA D0 h s.2∧s.1 = [c0]):=by
 refine .ev rfl (Sim.ext (ctl_field_entry _ _ _ _ _ _ _) ?_)
 rw [p_ctl_field]
 have S0 : Fm 17 h [] [] [] (List.replicate 17 []::h):=Fm.start0
 refine .op ((S0.low (hu2 _ (OwnA.refl hu0))).len) ?_
 refine .ci ?_
 have h1 : SlF (dI .u8) [(IntKind.wrap .u8 x1),(IntKind.wrap .u8 ((x2.length : Int)))] (.fz [(.p (.int .u8 (IntKind.wrap .u8 x1))),(.p (.int .u8 (IntKind.wrap .u8 ((x2.length : Int)))))] 2 1 true):=SlF.lit (cs:=[(.p (.int .u8 (IntKind.wrap .u8 x1))),(.p (.int .u8 (IntKind.wrap .u8 ((x2.length : Int)))))]) (RL.cons (show (dI .u8).R (IntKind.wrap .u8 x1) [(.p (.int .u8 (IntKind.wrap .u8 x1)))] from rfl) (RL.cons (show (dI .u8).R (IntKind.wrap .u8 ((x2.length : Int))) [(.p (.int .u8 (IntKind.wrap .u8 ((x2.length : Int)))))] from rfl) RL.nil)) rfl rfl true
 refine .op (bldS (pC rfl (pC rfl pN)) (by kernel_rfl : _ = some (vOf h1))) ?_
 refine .bd fun a4 h5 => ?_
 obtain ⟨v6,h7,H9,e10,h8,S11⟩:=S0.appA (d:=14) (e:=1) (own:=true) (σ:=(7::0::1::0::σ)) hu0 (h1.h (List.replicate 17 []::h)).y h5 rfl (by decide) (by simp) (by decide)
 refine .op (e10) ?_
 refine .bd fun a13 h14 => ?_
 obtain ⟨v15,H16,e17,S18⟩:=S11.app (i:=0) (d:=16) (e:=1) (own:=true) (σ:=(9::0::1::0::σ)) rfl (S11.low (hu2 _ h8)).y h14 rfl (by decide) (by decide) rfl
 refine .op (e17) ?_
 obtain ⟨c24,cs25,H19,e20,h22,h23,S21⟩:=S18.expOwn (i:=0) (τ:=0::1::σ) rfl rfl rfl
 exact .fin (S21.finE (Ex.st e20 Ex.nil)) ⟨c24,cs25,h22,h23,h8,rfl⟩
end
end Go.Ev
namespace Go.Ev
open Go.Proofs
set_option linter.unusedVariables false
set_option linter.unusedSimpArgs false
set_option maxRecDepth 100000
noncomputable section
abbrev KT9:=Exit→Env→H→Option (List C × H)
variable (rec : CallF) (loop : LoopV) (σ : Stamp)
def octet_Put_c0 : Code:=(codeAt (bodyOf Try.f67) [1,1,1,0,1,0,0])
def octet_Put_l0 : Lv:=⟨128,64,[(0,128)]⟩
def octet_Put_k0 : KT9:=(kBlock 0 (kSeq G rec loop (codeAt (bodyOf Try.f67) [1,1,1,1]) ⟨64,64,[]⟩ (1::1::1::0::σ) (finC G false Try.f67 (1::σ))))
theorem octet_Put_entry (x0 : V) (x1 : Int) (x2 : Int) (h : H) : cvBody G rec loop 67 σ [x0,(.p (.int .u64 x1)),(.p (.int .i64 x2))] h =
(callO rec 63 (1::0::1::0::σ) [x0] (List.replicate 34 []::h) (some 10)).bind fun q1 =>
(bif decide (x2 < 1) then (some true) else (some (decide (x2 > 8)))).bind fun b2 =>
bif b2 then (
fin false σ q1.2 [q1.1])
else (
(loop octet_Put_c0 octet_Put_l0 (1::0::1::1::1::0::σ) (envL [(1,(.p (.int .u64 x1))),(7,q1.1),(8,(.p (.int .i64 (IntKind.wrap .i64 (x2 - 1)))))]) q1.2).bind fun r3 => octet_Put_k0 rec loop σ r3.1 r3.2.1 r3.2.2):=by kernel_rfl
theorem octet_Put_r0 (x1 : Int) (x7 : V) (x8 : Int) (h : H) : cvRound G rec loop octet_Put_c0 octet_Put_l0 σ (envL [(1,(.p (.int .u64 x1))),(7,x7),(8,(.p (.int .i64 x8)))]) h =
bif decide (x8 ≥ 0) then (
(shiftV .shr .u64 x1 (IntKind.wrap .i64 (x8 * 8))).bind fun t4 =>
(castI .u64 t4).bind fun n5 =>
(bSV Try.prog 32 1 [(0,(.p (.int .u8 (IntKind.wrap .u8 n5))))]).bind fun t6 =>
(apO true 1 1 (7::0::1::0::σ) 31 h x7 t6).bind fun q7 =>
loop octet_Put_c0 octet_Put_l0 (1::σ) (envL [(1,(.p (.int .u64 x1))),(7,q7.1),(8,(.p (.int .i64 (IntKind.wrap .i64 (x8 - 1)))))]) q7.2)
else (
some ((.exit 0),(envL [(7,x7)]),h)):=by kernel_rfl
theorem octet_Put_a0_0 (x7 : V) (h : H) : octet_Put_k0 rec loop σ (.exit 0) (envL [(7,x7)]) h =
(callO rec 102 (1::0::1::1::1::1::0::σ) [x7] h (some 33)).bind fun q8 =>
fin false σ q8.2 [q8.1]:=by kernel_rfl
theorem slices_Clip_Lbyte_byte_entry (x0 : V) (h : H) : cvBody G rec loop 102 σ [x0] h =
(lenO x0).bind fun t1 =>
(castI .i64 t1).bind fun n2 =>
(lenO x0).bind fun t3 =>
(castI .i64 t3).bind fun n4 =>
(slS 1 x0 none (some n2) (some n4)).bind fun t5 =>
fin false σ (List.replicate 9 []::h) [t5]:=by kernel_rfl
theorem slices_Clone_Lbyte_byte_entry (x0 : V) (h : H) : cvBody G rec loop 63 σ [x0] h =
(binV Try.prog (List.replicate 8 []::h) .eql 32 x0 (.p (.slice .none 0 0))).bind fun t1 =>
(asB t1).bind fun b2 =>
bif b2 then (
fin false σ (List.replicate 8 []::h) [(.p (.slice .none 0 0))])
else (
(bSV Try.prog 32 0 []).bind fun t3 =>
(apO true 1 1 (2::0::1::1::0::σ) 7 (List.replicate 8 []::h) t3 x0).bind fun q4 =>
fin false σ q4.2 [q4.1]):=by kernel_rfl
end
end Go.Ev
namespace Go.Ev
open Go.Proofs
set_option linter.unusedVariables false
set_option linter.unusedSimpArgs false
set_option maxRecDepth 100000
section
variable {β α : Type} {Q : β→α→Prop} {K : Exit × Env × H→Option α}
def p_octet_Put_l0 {β : Type} (k : Nat) (kE0 : (List Int)→Option β) (x1 : Int) (x7 : (List Int)) (x8 : Int) : Option β:=match k with
| 0 => none
| k + 1 =>
bif decide (x8 ≥ 0) then (
(shP .shr .u64 x1 (IntKind.wrap .i64 (x8 * 8))).bind fun n32 =>
(ap 1 x7 ([(IntKind.wrap .u8 n32)])).bind fun a35 =>
p_octet_Put_l0 k kE0 x1 a35 (IntKind.wrap .i64 (x8 - 1)))
else (
kE0 x7)
def p_octet_Put (k : Nat) (x0 : (List Int)) (x1 : Int) (x2 : Int) : Option ((List Int)) :=
(p_clone 1 x0).bind fun r1 =>
(bif decide (x2 < 1) then (some true) else (some (decide (x2 > 8)))).bind fun b15 =>
bif b15 then (
some (r1))
else (
p_octet_Put_l0 k (fun r45_7 =>
some (r45_7)) x1 r1 (IntKind.wrap .i64 (x2 - 1)))
theorem octet_Put_l0_ok {h : H}  {kE0 : (List Int)→Option β} (hE0 : ∀ (q7 : (List Int)) (v43 : V) (H41 : Go.Ev.H) (_ : Fm 34 h [] [] [⟨[10,31],v43,(dI .u8),q7⟩] H41),Sim (kE0 q7) (K ((.exit 0),(envL [(7,v43)]),H41)) Q) (k : Nat) : ∀ (x1 : Int) (x7 : (List Int)) (x8 : Int) (v29 : V) (H27 : Go.Ev.H) (_ : Fm 34 h [] [] [⟨[10,31],v29,(dI .u8),x7⟩] H27) {σ : Stamp},Sim (p_octet_Put_l0 k kE0 x1 x7 x8) ((cvL G X0 octet_Put_c0 octet_Put_l0 σ (envL [(1,(.p (.int .u64 x1))),(7,v29),(8,(.p (.int .i64 x8)))]) H27).bind K) Q:=by
 induction k with
 | zero => intros; exact .no
 | succ k ih =>
  intro x1 x7 x8 v29 H27 S28 σ
  rw [p_octet_Put_l0]
  refine .round (Sim.ext (octet_Put_r0 _ _ _ _ _ _ _) ?_)
  refine .cq ?_ ?_
  ·refine .bd fun n32 h33 => ?_
   refine .op (shP_ok h33) ?_
   refine .ci ?_
   have h34:=SlF.int1 .u8 (IntKind.wrap .u8 n32)
   refine .op (bldS (pC rfl pN) (by kernel_rfl : _ = some (vOf h34))) ?_
   refine .bd fun a35 h36 => ?_
   obtain ⟨v37,H38,e39,S40⟩:=S28.app (i:=0) (d:=31) (e:=1) (own:=true) (σ:=(7::0::1::0::σ)) rfl (h34.h H27).y h36 rfl (by decide) (by decide) rfl
   refine .op (e39) ?_
   exact ih x1 a35 (IntKind.wrap .i64 (x8 - 1)) v37 H38 (S40.wk2 aN (aC ⟨[31,10,31],by simp,aM 0 rfl⟩ aN))
  exact hE0 x7 v29 H27 (S28.wk2 aN (aC ⟨[10,31],by simp,aM 0 rfl⟩ aN))
theorem octet_Put_ok (k : Nat) {h : H} {σ : Stamp} (x0 : List Int) {u0 : V} (hu0 : SlH h (dI .u8) x0 u0) (x1 : Int) (x2 : Int) : Sim (p_octet_Put k x0 x1 x2) (ev G X0 67 σ [u0,(.p (.int .u64 x1)),(.p (.int .i64 x2))] h) (fun r s => ∃ (c0 : C),∃ (a0 : List V),OwnS c0 (dI .u8).sz r.length a0∧(dI .u8).L r a0∧s = ([c0],h)):=by
 refine .ev rfl (Sim.ext (octet_Put_entry _ _ _ _ _ _ _) ?_)
 rw [p_octet_Put]
 have S0 : Fm 34 h [] [] [] (List.replicate 34 []::h):=Fm.start0
 refine .call (clone_ok (b:=1) (f:=63) (tt:=5) (e:=1) (τ:=fun σ => _::_::_::_::_::σ) (fun x h => slices_Clone_Lbyte_byte_entry _ _ _ x h) (S0.low hu0) rfl (by decide) (by decide) (by decide) (by kernel_rfl) (by kernel_rfl) rfl) fun r1 cs2 H3 h4 q5 => ?_
 obtain ⟨c6,cs7,h8,h9,q5⟩:=q5
 cases q5
 obtain ⟨v10,H11,e12,S13⟩:=S0.land (dt:=(dI .u8)) (d:=10) (e:=0) (n:=0) h8 h9 (by decide) rfl
 erw [e12]
 refine .ch (P:=fun r y => r = y) ?_ (fun b15 y16 h17 h18 => ?_)
 ·refine .cq ?_ ?_
  ·exact .ret rfl rfl
  ·exact .ret rfl rfl
 subst h18
 refine .cq ?_ ?_
 ·obtain ⟨c25,cs26,H20,e21,h23,h24,S22⟩:=S13.expOwn (i:=0) (τ:=0::1::σ) rfl rfl rfl
  exact .fin (S22.finE (Ex.st e21 Ex.nil)) ⟨c25,cs26,h23,h24,rfl⟩
 refine .as (octet_Put_l0_ok ?_ k x1 r1 (IntKind.wrap .i64 (x2 - 1)) v10 H11 (S13.wk2 aN (aC ⟨[10],by simp,aM 0 rfl⟩ aN)))
 ·intro r45_7 v48 H46 S47
  refine .ext (octet_Put_a0_0 _ _ _ _ _) ?_
  obtain ⟨v50,e51,S52⟩:=clip_D (G:=G) (X:=X0) (i:=0) (f:=102) (fun x h => slices_Clip_Lbyte_byte_entry _ _ _ x h) S47 rfl rfl rfl
  refine .op (e51) ?_
  obtain ⟨c58,cs59,H53,e54,h56,h57,S55⟩:=S52.expOwn (i:=0) (τ:=0::1::σ) rfl rfl rfl
  exact .fin (S55.finE (Ex.st e54 Ex.nil)) ⟨c58,cs59,h56,h57,rfl⟩
end
end Go.Ev
namespace Go.Ev
open Go.Proofs
set_option linter.unusedVariables false
set_option linter.unusedSimpArgs false
set_option maxRecDepth 100000
noncomputable section
abbrev KT10:=Exit→Env→H→Option (List C × H)
variable (rec : CallF) (loop : LoopV) (σ : Stamp)
def slices_Concat_Lbyte_byte_c0 : Code:=(codeAt (bodyOf Try.f69) [1,1,0,1,0,0])
def slices_Concat_Lbyte_byte_l0 : Lv:=⟨9,4,[(0,9)]⟩
def slices_Concat_Lbyte_byte_k0 : KT10:=(kBlock 0 (kSeq G rec loop (codeAt (bodyOf Try.f69) [1,1,1]) ⟨4,4,[]⟩ (1::1::0::σ) (finC G false Try.f69 (1::σ))))
def slices_Concat_Lbyte_byte_c1 : Code:=(codeAt (bodyOf Try.f69) [1,1,1,1,0,1,0,0])
def slices_Concat_Lbyte_byte_l1 : Lv:=⟨64,4,[(2,64)]⟩
def slices_Concat_Lbyte_byte_k1 : KT10:=(kBlock 2 (kSeq G rec loop (codeAt (bodyOf Try.f69) [1,1,1,1,1]) ⟨4,4,[]⟩ (1::1::1::1::0::σ) (finC G false Try.f69 (1::σ))))
theorem slices_Concat_Lbyte_byte_entry (x0 : V) (h : H) : cvBody G rec loop 69 σ [x0] h =
(lenO x0).bind fun t1 =>
(castI .i64 t1).bind fun n2 =>
(loop slices_Concat_Lbyte_byte_c0 slices_Concat_Lbyte_byte_l0 (1::0::1::1::0::σ) (envL [(0,x0),(3,(.p (.int .i64 0))),(9,x0),(10,(.p (.int .i64 n2))),(11,(.p (.int .i64 0)))]) (List.replicate 36 []::h)).bind fun r3 => slices_Concat_Lbyte_byte_k0 rec loop σ r3.1 r3.2.1 r3.2.2:=by kernel_rfl
theorem slices_Concat_Lbyte_byte_r0 (x0 : V) (x3 : Int) (x9 : V) (x10 : Int) (x11 : Int) (h : H) : cvRound G rec loop slices_Concat_Lbyte_byte_c0 slices_Concat_Lbyte_byte_l0 σ (envL [(0,x0),(3,(.p (.int .i64 x3))),(9,x9),(10,(.p (.int .i64 x10))),(11,(.p (.int .i64 x11)))]) h =
bif decide (x11 < x10) then (
(iS 1 x9 x11).bind fun t4 =>
(ldO false 1 h t4).bind fun t5 =>
(lenO t5).bind fun t6 =>
(castI .i64 t6).bind fun n7 =>
bif decide ((IntKind.wrap .i64 (x3 + n7)) < 0) then (
none)
else (
loop slices_Concat_Lbyte_byte_c0 slices_Concat_Lbyte_byte_l0 (1::σ) (envL [(0,x0),(3,(.p (.int .i64 (IntKind.wrap .i64 (x3 + n7))))),(9,x9),(10,(.p (.int .i64 x10))),(11,(.p (.int .i64 (IntKind.wrap .i64 (x11 + 1)))))]) h))
else (
some ((.exit 0),(envL [(0,x0),(3,(.p (.int .i64 x3)))]),h)):=by kernel_rfl
theorem slices_Concat_Lbyte_byte_a0_0 (x0 : V) (x3 : Int) (h : H) : slices_Concat_Lbyte_byte_k0 rec loop σ (.exit 0) (envL [(0,x0),(3,(.p (.int .i64 x3)))]) h =
(callO rec 106 (1::0::1::1::1::0::σ) [(.p (.slice .none 0 0)),(.p (.int .i64 x3))] h (some 24)).bind fun q8 =>
(lenO x0).bind fun t9 =>
(castI .i64 t9).bind fun n10 =>
(loop slices_Concat_Lbyte_byte_c1 slices_Concat_Lbyte_byte_l1 (1::0::1::1::1::1::0::σ) (envL [(6,q8.1),(25,x0),(26,(.p (.int .i64 n10))),(27,(.p (.int .i64 0)))]) q8.2).bind fun r11 => slices_Concat_Lbyte_byte_k1 rec loop σ r11.1 r11.2.1 r11.2.2:=by kernel_rfl
theorem slices_Concat_Lbyte_byte_r1 (x6 : V) (x25 : V) (x26 : Int) (x27 : Int) (h : H) : cvRound G rec loop slices_Concat_Lbyte_byte_c1 slices_Concat_Lbyte_byte_l1 σ (envL [(6,x6),(25,x25),(26,(.p (.int .i64 x26))),(27,(.p (.int .i64 x27)))]) h =
bif decide (x27 < x26) then (
(iS 1 x25 x27).bind fun t12 =>
(ldO false 1 h t12).bind fun t13 =>
(apO true 1 1 (2::1::0::1::1::0::σ) 33 h x6 t13).bind fun q14 =>
loop slices_Concat_Lbyte_byte_c1 slices_Concat_Lbyte_byte_l1 (1::σ) (envL [(6,q14.1),(25,x25),(26,(.p (.int .i64 x26))),(27,(.p (.int .i64 (IntKind.wrap .i64 (x27 + 1)))))]) q14.2)
else (
some ((.exit 2),(envL [(6,x6)]),h)):=by kernel_rfl
theorem slices_Concat_Lbyte_byte_a1_2 (x6 : V) (h : H) : slices_Concat_Lbyte_byte_k1 rec loop σ (.exit 2) (envL [(6,x6)]) h =
fin false σ h [x6]:=by kernel_rfl
theorem slices_Grow_Lbyte_byte_entry (x0 : V) (x1 : Int) (h : H) : cvBody G rec loop 106 σ [x0,(.p (.int .i64 x1))] h =
bif decide (x1 < 0) then (
none)
else (
(capO x0).bind fun t1 =>
(castI .i64 t1).bind fun n2 =>
(lenO x0).bind fun t3 =>
(castI .i64 t3).bind fun n4 =>
bif decide ((IntKind.wrap .i64 (x1 - (IntKind.wrap .i64 (n2 - n4)))) > 0) then (
(capO x0).bind fun t5 =>
(castI .i64 t5).bind fun n6 =>
(slS 1 x0 none (some n6) none).bind fun t7 =>
(apZ true 1 1 (5::1::1::0::1::1::0::σ) 22 (List.replicate 27 []::h) t7 (IntKind.wrap .i64 (x1 - (IntKind.wrap .i64 (n2 - n4))))).bind fun q8 =>
(lenO x0).bind fun t9 =>
(castI .i64 t9).bind fun n10 =>
(slS 1 q8.1 none (some n10) none).bind fun t11 =>
fin false σ q8.2 [t11])
else (
fin false σ (List.replicate 27 []::h) [x0])):=by kernel_rfl
end
end Go.Ev
namespace Go.Ev
open Go.Proofs
set_option linter.unusedVariables false
set_option linter.unusedSimpArgs false
set_option maxRecDepth 100000
section
variable {β α : Type} {Q : β→α→Prop} {K : Exit × Env × H→Option α}
def p_slices_Grow_Lbyte_byte (x1 : Int) : Option (List Int):=if 0 ≤ x1∧x1 < 2 ^ 40 then some [] else none
theorem slices_Grow_Lbyte_byte_ok {h : H} {σ : Stamp} (x1 : Int) : Sim (p_slices_Grow_Lbyte_byte x1) (ev G X0 106 σ [(.p (.slice none 0 0)),(.p (.int .i64 x1))] h) (fun r s => ∃ (c : C) (a : List V),OwnS c (dI .u8).sz r.length a∧(dI .u8).L r a∧s = ([c],h)):=by
 refine .ev rfl (Sim.ext (slices_Grow_Lbyte_byte_entry _ _ _ _ _ _) ?_)
 intro r hr
 unfold p_slices_Grow_Lbyte_byte at hr
 split at hr
 ·rename_i h0
  cases hr
  have w1 : IntKind.wrap .i64 (x1 - IntKind.wrap .i64 (0 - 0)) = x1:=by
   rw [show IntKind.wrap .i64 ((0 : Int) - 0) = 0 from rfl,Int.sub_zero]
   exact wrap64 (by omega) (by omega)
  have d0 : decide (x1 < 0) = false:=decide_eq_false (by omega)
  have c0 : capO (.p (.slice none 0 0)) = some (.p (.int .i64 0)):=rfl
  have l0 : lenO (.p (.slice none 0 0)) = some (.p (.int .i64 0)):=rfl
  have k0 : castI .i64 (.p (.int .i64 0)) = some 0:=rfl
  simp only [d0,cond_false,c0,l0,k0,Option.bind_some,w1]
  by_cases hp : x1 > 0
  ·have d1 : decide (x1 > 0) = true:=decide_eq_true hp
   have s0 : slS 1 (.p (.slice none 0 0)) none (some 0) none = some (.p (.slice none 0 0)):=rfl
   have S : Fm 27 h [] [] [⟨[],.p (.slice none 0 0),dI .u8,([] : List Int)⟩] (List.replicate 27 []::h):=Fm.nil (Fm.start0 : Fm 27 h [] [] [] _) (dI .u8) []
   have hz : zB x1 = some (List.replicate x1.toNat 0):=if_pos h0
   have ha : ap 1 ([] : List Int) (List.replicate x1.toNat 0) = some (List.replicate x1.toNat 0):=by
    unfold ap
    rw [if_pos ⟨by simp; omega,by simp; omega⟩,List.nil_append]
   obtain ⟨v,H',e,S'⟩:=S.appZ (i:=0) (d:=22) (own:=true) (σ:=5::1::1::0::1::1::0::σ) rfl hz ha (by decide) rfl
   obtain ⟨L,rfl,h2,h3,h4,h5⟩:=S'
   obtain ⟨cs,q1,q2⟩:=h5 _ (List.mem_cons_self ..)
   simp only at q2
   simp only [d1,cond_true,s0,Option.bind_some,e]
   rcases q2 with ⟨e1,_,_⟩ | ⟨e1,d',hd',s,tl,rfl,hL⟩ | ⟨_,_,_,d',hd',e4⟩
   ·exfalso
    simp only [List.length_replicate] at e1
    omega
   ·simp only [List.mem_cons,List.not_mem_nil,or_false] at hd'
    subst hd'
    have hs : slS 1 (.sl ⟨h.length,22,0,s,[]⟩ 0 (List.replicate x1.toNat (0 : Int)).length (List.replicate x1.toNat (0 : Int)).length 1) none (some 0) none = some (.sl ⟨h.length,22,0,s,[]⟩ 0 0 (List.replicate x1.toNat (0 : Int)).length 1):=by simp [slS,bI]
    have hsz : (dI IntKind.u8).sz = 1:=rfl
    rw [hsz] at hL ⊢
    rw [hs]
    have hat : at_ (L::h) ⟨h.length,22,0,s,[]⟩ = some (.arr s (List.replicate x1.toNat (0 : Int)).length 1 (cs.map .v)):=by simp [at_,rootC,hL,find,C.node]
    refine ⟨([.arr s 0 1 []],h),?_,.arr s 0 1 [],[],⟨by simp,.inr ⟨s,rfl⟩⟩,rfl,rfl⟩
    simp [fin,expCs,expF,expC,top,pts,hat,rng,setAt_root hL]
   ·simp only [List.mem_cons,List.not_mem_nil,or_false] at hd'
    omega
  ·have d1 : decide (x1 > 0) = false:=decide_eq_false hp
   simp only [d1,cond_false]
   refine ⟨_,by rw [fin_1 still_nilS]; rfl,.v (.p (.slice none 0 0)),[],⟨by simp,.inl ⟨rfl,rfl,.inl rfl⟩⟩,rfl,rfl⟩
 ·cases hr
def p_slices_Concat_Lbyte_byte_l0 {β : Type} (k : Nat) (kE0 : (List (List Int))→Int→Option β) (x0 : (List (List Int))) (x3 : Int) (x9 : (List (List Int))) (x10 : Int) (x11 : Int) : Option β:=match k with
| 0 => none
| k + 1 =>
bif decide (x11 < x10) then (
(ix x9 x11).bind fun a8 =>
bif decide ((IntKind.wrap .i64 (x3 + ((a8.length : Int)))) < 0) then (
none)
else (
p_slices_Concat_Lbyte_byte_l0 k kE0 x0 (IntKind.wrap .i64 (x3 + ((a8.length : Int)))) x9 x10 (IntKind.wrap .i64 (x11 + 1))))
else (
kE0 x0 x3)
def p_slices_Concat_Lbyte_byte_l1 {β : Type} (k : Nat) (kE0 : (List Int)→Option β) (x6 : (List Int)) (x25 : (List (List Int))) (x26 : Int) (x27 : Int) : Option β:=match k with
| 0 => none
| k + 1 =>
bif decide (x27 < x26) then (
(ix x25 x27).bind fun a44 =>
(ap 1 x6 a44).bind fun a49 =>
p_slices_Concat_Lbyte_byte_l1 k kE0 a49 x25 x26 (IntKind.wrap .i64 (x27 + 1)))
else (
kE0 x6)
def p_slices_Concat_Lbyte_byte (k : Nat) (x0 : (List (List Int))) : Option ((List Int)) :=
p_slices_Concat_Lbyte_byte_l0 k (fun r18_0 r18_3 =>
(p_slices_Grow_Lbyte_byte r18_3).bind fun r23 =>
p_slices_Concat_Lbyte_byte_l1 k (fun r59_6 =>
some (r59_6)) r23 r18_0 ((r18_0.length : Int)) 0) x0 0 x0 ((x0.length : Int)) 0
theorem slices_Concat_Lbyte_byte_l0_ok {h : H}  {kE0 : (List (List Int))→Int→Option β} (hE0 : ∀ (q0 : (List (List Int))) (q3 : Int) (v16 : V) (h17 : SlH h (dSl (dI .u8)) q0 v16) (H14 : Go.Ev.H) (_ : Fm 36 h [] [] [] H14),Sim (kE0 q0 q3) (K ((.exit 0),(envL [(0,v16),(3,(.p (.int .i64 q3)))]),H14)) Q) (k : Nat) : ∀ (x0 : (List (List Int))) (x3 : Int) (x9 : (List (List Int))) (x10 : Int) (x11 : Int) (v3 : V) (h4 : SlH h (dSl (dI .u8)) x0 v3) (v5 : V) (h6 : SlH h (dSl (dI .u8)) x9 v5) (H1 : Go.Ev.H) (_ : Fm 36 h [] [] [] H1) {σ : Stamp},Sim (p_slices_Concat_Lbyte_byte_l0 k kE0 x0 x3 x9 x10 x11) ((cvL G X0 slices_Concat_Lbyte_byte_c0 slices_Concat_Lbyte_byte_l0 σ (envL [(0,v3),(3,(.p (.int .i64 x3))),(9,v5),(10,(.p (.int .i64 x10))),(11,(.p (.int .i64 x11)))]) H1).bind K) Q:=by
 induction k with
 | zero => intros; exact .no
 | succ k ih =>
  intro x0 x3 x9 x10 x11 v3 h4 v5 h6 H1 S2 σ
  rw [p_slices_Concat_Lbyte_byte_l0]
  refine .round (Sim.ext (slices_Concat_Lbyte_byte_r0 _ _ _ _ _ _ _ _ _) ?_)
  refine .cq ?_ ?_
  ·refine .bd fun a8 h9 => ?_
   refine .op ((S2.low h6).iS h9 rfl) ?_
   obtain ⟨_,⟨v11,rfl,h12⟩,hE10⟩:=(S2.low h6).el h9 rfl
   refine .op (hE10.ld (j:=0) rfl) ?_
   refine .op ((h12.h H1).len) ?_
   refine .ci ?_
   refine .cq ?_ ?_
   ·exact .no
   exact ih x0 (IntKind.wrap .i64 (x3 + ((a8.length : Int)))) x9 x10 (IntKind.wrap .i64 (x11 + 1)) v3 h4 v5 h6 H1 (S2.wk2 aN aN)
  exact hE0 x0 x3 v3 h4 H1 (S2.wk2 aN aN)
theorem slices_Concat_Lbyte_byte_l1_ok {h : H}  {kE0 : (List Int)→Option β} (hE0 : ∀ (q6 : (List Int)) (v57 : V) (H55 : Go.Ev.H) (_ : Fm 36 h [] [] [⟨[24,33],v57,(dI .u8),q6⟩] H55),Sim (kE0 q6) (K ((.exit 2),(envL [(6,v57)]),H55)) Q) (k : Nat) : ∀ (x6 : (List Int)) (x25 : (List (List Int))) (x26 : Int) (x27 : Int) (v39 : V) (v41 : V) (h42 : SlH h (dSl (dI .u8)) x25 v41) (H37 : Go.Ev.H) (_ : Fm 36 h [] [] [⟨[24,33],v39,(dI .u8),x6⟩] H37) {σ : Stamp},Sim (p_slices_Concat_Lbyte_byte_l1 k kE0 x6 x25 x26 x27) ((cvL G X0 slices_Concat_Lbyte_byte_c1 slices_Concat_Lbyte_byte_l1 σ (envL [(6,v39),(25,v41),(26,(.p (.int .i64 x26))),(27,(.p (.int .i64 x27)))]) H37).bind K) Q:=by
 induction k with
 | zero => intros; exact .no
 | succ k ih =>
  intro x6 x25 x26 x27 v39 v41 h42 H37 S38 σ
  rw [p_slices_Concat_Lbyte_byte_l1]
  refine .round (Sim.ext (slices_Concat_Lbyte_byte_r1 _ _ _ _ _ _ _ _) ?_)
  refine .cq ?_ ?_
  ·refine .bd fun a44 h45 => ?_
   refine .op ((S38.low h42).iS h45 rfl) ?_
   obtain ⟨_,⟨v47,rfl,h48⟩,hE46⟩:=(S38.low h42).el h45 rfl
   refine .op (hE46.ld (j:=0) rfl) ?_
   refine .bd fun a49 h50 => ?_
   obtain ⟨v51,H52,e53,S54⟩:=S38.app (i:=0) (d:=33) (e:=1) (own:=true) (σ:=(2::1::0::1::1::0::σ)) rfl (h48.h H37).y h50 rfl (by decide) (by decide) rfl
   refine .op (e53) ?_
   exact ih a49 x25 x26 (IntKind.wrap .i64 (x27 + 1)) v51 v41 h42 H52 (S54.wk2 aN (aC ⟨[33,24,33],by simp,aM 0 rfl⟩ aN))
  exact hE0 x6 v39 H37 (S38.wk2 aN (aC ⟨[24,33],by simp,aM 0 rfl⟩ aN))
theorem slices_Concat_Lbyte_byte_ok (k : Nat) {h : H} {σ : Stamp} (x0 : List (List Int)) {u0 : V} (hu0 : SlH h (dSl (dI .u8)) x0 u0) : Sim (p_slices_Concat_Lbyte_byte k x0) (ev G X0 69 σ [u0] h) (fun r s => ∃ (c0 : C),∃ (a0 : List V),OwnS c0 (dI .u8).sz r.length a0∧(dI .u8).L r a0∧s = ([c0],h)):=by
 refine .ev rfl (Sim.ext (slices_Concat_Lbyte_byte_entry _ _ _ _ _) ?_)
 rw [p_slices_Concat_Lbyte_byte]
 have S0 : Fm 36 h [] [] [] (List.replicate 36 []::h):=Fm.start0
 refine .op ((S0.low hu0).len) ?_
 refine .ci ?_
 refine .as (slices_Concat_Lbyte_byte_l0_ok ?_ k x0 0 x0 ((x0.length : Int)) 0 u0 hu0 u0 hu0 (List.replicate 36 []::h) (S0.wk2 aN aN))
 ·intro r18_0 r18_3 v21 h22 H19 S20
  refine .ext (slices_Concat_Lbyte_byte_a0_0 _ _ _ _ _ _) ?_
  refine .call (slices_Grow_Lbyte_byte_ok r18_3) fun r23 cs24 H25 h26 q27 => ?_
  obtain ⟨c28,cs29,h30,h31,q27⟩:=q27
  cases q27
  obtain ⟨v32,H33,e34,S35⟩:=S20.land (dt:=(dI .u8)) (d:=24) (e:=0) (n:=0) h30 h31 (by decide) rfl
  erw [e34]
  refine .op ((S35.low h22).len) ?_
  refine .ci ?_
  refine .as (slices_Concat_Lbyte_byte_l1_ok ?_ k r23 r18_0 ((r18_0.length : Int)) 0 v32 v21 h22 H33 (S35.wk2 aN (aC ⟨[24],by simp,aM 0 rfl⟩ aN)))
  ·intro r59_6 v62 H60 S61
   refine .ext (slices_Concat_Lbyte_byte_a1_2 _ _ _ _ _) ?_
   obtain ⟨c69,cs70,H64,e65,h67,h68,S66⟩:=S61.expOwn (i:=0) (τ:=0::1::σ) rfl rfl rfl
   exact .fin (S66.finE (Ex.st e65 Ex.nil)) ⟨c69,cs70,h67,h68,rfl⟩
def p_ctl_Bytes_l0 {β : Type} (k : Nat) (kE0 : (List Int)→TaiCtl→Option β) (x5 : (List Int)) (x16 : (List TaiLayer)) (x17 : Int) (x18 : Int) (yg6 : TaiCtl) : Option β:=match k with
| 0 => none
| k + 1 =>
bif decide (x18 < x17) then (
(ix x16 x18).bind fun a28 =>
(p_octet_Put k (([] : List Int)) (IntKind.wrap .u64 a28.Ssrc) 4).bind fun r40 =>
(p_octet_Put k r40 (IntKind.wrap .u64 a28.Height) 2).bind fun r54 =>
(ap 1 r54 (bytesS a28.Rid)).bind fun a68 =>
(p_ctl_field x5 2 a68).bind fun r74 =>
p_ctl_Bytes_l0 k kE0 r74 x16 x17 (IntKind.wrap .i64 (x18 + 1)) yg6)
else (
kE0 x5 yg6)
def p_ctl_Bytes_l1 {β : Type} (k : Nat) (kE0 : (List Int)→TaiCtl→Option β) (x5 : (List Int)) (x54 : (List T_struct_name_int_size_int_n_int64)) (x55 : Int) (x56 : Int) (yg110 : TaiCtl) : Option β:=match k with
| 0 => none
| k + 1 =>
bif decide (x56 < x55) then (
(ix x54 x56).bind fun a127 =>
(p_ctl_has yg110.Kind a127.name).bind fun r139 =>
bif r139 then (
(p_octet_Put k (([] : List Int)) (IntKind.wrap .u64 a127.n) a127.size).bind fun r145 =>
(p_ctl_field x5 a127.name r145).bind fun r159 =>
p_ctl_Bytes_l1 k kE0 r159 x54 x55 (IntKind.wrap .i64 (x56 + 1)) yg110)
else (
p_ctl_Bytes_l1 k kE0 x5 x54 x55 (IntKind.wrap .i64 (x56 + 1)) yg110))
else (
kE0 x5 yg110)
def p_ctl_Bytes (k : Nat) (x0 : TaiCtl) : Option ((List Int) × Int) :=
(p_ctl_Right k x0).bind fun r7 =>
bif r7 != 0 then (
some ((([] : List Int)),r7))
else (
p_ctl_Bytes_l0 k (fun r102_5 yg24 =>
p_ctl_Bytes_l1 k (fun r185_5 yg123 =>
(p_octet_Put k ([(IntKind.wrap .u8 yg123.Kind)]) (IntKind.wrap .u64 ((r185_5.length : Int))) 2).bind fun r197 =>
(p_slices_Concat_Lbyte_byte k ([r197,r185_5])).bind fun r222 =>
some (r222,0)) r102_5 ([((⟨1,8,yg24.Cap⟩ : T_struct_name_int_size_int_n_int64)),((⟨3,1,yg24.Peer⟩ : T_struct_name_int_size_int_n_int64)),((⟨4,2,yg24.Height⟩ : T_struct_name_int_size_int_n_int64)),((⟨5,1,yg24.Class⟩ : T_struct_name_int_size_int_n_int64)),((⟨6,1,yg24.Layer⟩ : T_struct_name_int_size_int_n_int64)),((⟨7,1,yg24.Code⟩ : T_struct_name_int_size_int_n_int64))]) ((([((⟨1,8,yg24.Cap⟩ : T_struct_name_int_size_int_n_int64)),((⟨3,1,yg24.Peer⟩ : T_struct_name_int_size_int_n_int64)),((⟨4,2,yg24.Height⟩ : T_struct_name_int_size_int_n_int64)),((⟨5,1,yg24.Class⟩ : T_struct_name_int_size_int_n_int64)),((⟨6,1,yg24.Layer⟩ : T_struct_name_int_size_int_n_int64)),((⟨7,1,yg24.Code⟩ : T_struct_name_int_size_int_n_int64))]).length : Int)) 0 yg24) (([] : List Int)) x0.Layers ((x0.Layers.length : Int)) 0 x0)
theorem ctl_Bytes_l0_ok {h : H}  {kE0 : (List Int)→TaiCtl→Option β} (hE0 : ∀ (q5 : (List Int)) (yg24 : TaiCtl) (v92 : V) (w94 : List V) (h95 : dTaiCtl.R yg24 w94) (s96 : Stamp) (H90 : Go.Ev.H) (_ : Fm 87 h [] [(1,s96,List.map C.v w94)] [⟨[34],v92,(dI .u8),q5⟩] H90),Sim (kE0 q5 yg24) (K ((.exit 0),(envL [(1,(.ref ⟨h.length,1,0,s96,[]⟩ 0)),(5,v92)]),H90)) Q) (k : Nat) : ∀ (x5 : (List Int)) (x16 : (List TaiLayer)) (x17 : Int) (x18 : Int) (yg6 : TaiCtl) (v17 : V) (v19 : V) (h20 : SlF dTaiLayer x16 v19) (w21 : List V) (h22 : dTaiCtl.R yg6 w21) (s23 : Stamp) (H15 : Go.Ev.H) (_ : Fm 87 h [] [(1,s23,List.map C.v w21)] [⟨[34],v17,(dI .u8),x5⟩] H15) {σ : Stamp},Sim (p_ctl_Bytes_l0 k kE0 x5 x16 x17 x18 yg6) ((cvL G X0 ctl_Bytes_c0 ctl_Bytes_l0 σ (envL [(1,(.ref ⟨h.length,1,0,s23,[]⟩ 0)),(5,v17),(16,v19),(17,(.p (.int .i64 x17))),(18,(.p (.int .i64 x18)))]) H15).bind K) Q:=by
 induction k with
 | zero => intros; exact .no
 | succ k ih =>
  intro x5 x16 x17 x18 yg6 v17 v19 h20 w21 h22 s23 H15 S16 σ
  rw [p_ctl_Bytes_l0]
  refine .round (Sim.ext (ctl_Bytes_r0 _ _ _ _ _ _ _ _ _) ?_)
  obtain ⟨v25,rfl,h26⟩:=dTaiCtl.inv h22
  refine .cq ?_ ?_
  ·refine .bd fun a28 h29 => ?_
   refine .op ((h20.h H15).iS h29 rfl) ?_
   obtain ⟨w31,h32,hE30⟩:=(h20.h H15).el h29 rfl
   obtain rfl:=dTaiLayer.inv h32
   refine .op (hE30.all (by simp)) ?_
   obtain ⟨H33,e34,S35⟩:=S16.al (d:=7) (s:=(2::0::0::1::1::0::σ)) (z:=[(.p (.string ((⟨#[]⟩ : ByteArray)))),(.p (.int .u32 0)),(.p (.int .i64 0))]) (by decide) rfl
   refine .op (congrArg some e34) ?_
   obtain ⟨H37,e38,S39⟩:=S35.stGv (i:=0) (j:=0) (own:=false) (σ:=(3::0::0::1::1::0::σ)) (xs:=[.p (.string a28.Rid),.p (.int .u32 a28.Ssrc),.p (.int .i64 a28.Height)]) rfl rfl (sC (still_str _) (sC (sI _ _) (sC (sI _ _) sN))) rfl rfl
   refine .op (sM e38) ?_
   refine .fa ?_
   refine .op ((S39.atG (i:=0) rfl).ld (j:=1) rfl) ?_
   refine .ci ?_
   refine .fa ?_
   refine .op ((S39.atG (i:=0) rfl).ld (j:=2) rfl) ?_
   refine .ci ?_
   refine .fa ?_
   refine .op ((S39.atG (i:=0) rfl).ld (j:=0) rfl) ?_
   refine .op (castS_p _) ?_
   refine .call (octet_Put_ok k (([] : List Int)) ((SlF.nil (dI .u8)).h H37) (IntKind.wrap .u64 a28.Ssrc) 4) fun r40 cs41 H42 h43 q44 => ?_
   obtain ⟨c45,cs46,h47,h48,q44⟩:=q44
   cases q44
   obtain ⟨v49,H50,e51,S52⟩:=S39.land (dt:=(dI .u8)) (d:=26) (e:=0) (n:=0) h47 h48 (by decide) rfl
   erw [e51]
   refine .nd ((S52.atG (i:=0) rfl).ld (j:=0) rfl) ?_
   refine .nd (rfl) ?_
   refine .nd ((S52.atG (i:=0) rfl).ld (j:=2) rfl) ?_
   refine .call (octet_Put_ok k r40 (S52.sl (i:=0) rfl) (IntKind.wrap .u64 a28.Height) 2) fun r54 cs55 H56 h57 q58 => ?_
   obtain ⟨c59,cs60,h61,h62,q58⟩:=q58
   cases q58
   obtain ⟨v63,H64,e65,S66⟩:=S52.land (dt:=(dI .u8)) (d:=30) (e:=0) (n:=0) h61 h62 (by decide) rfl
   erw [e65]
   refine .nd ((S66.atG (i:=0) rfl).ld (j:=0) rfl) ?_
   refine .bd fun a68 h69 => ?_
   obtain ⟨v70,H71,e72,S73⟩:=S66.app (i:=0) (d:=33) (e:=1) (own:=true) (σ:=(11::1::0::1::1::0::σ)) rfl (ysS H64 a28.Rid) h69 rfl (by decide) (by decide) rfl
   refine .op (e72) ?_
   refine .call (ctl_field_ok x5 (S73.ownA (i:=2) rfl) 2 a68 (fun _ hk => (S73.killA (i:=2) rfl rfl hk).sl (i:=0) rfl)) fun r74 cs75 H76 h77 q78 => ?_
   obtain ⟨c79,cs80,h81,h82,h83,q78⟩:=q78
   obtain rfl : cs75 = [c79]:=q78
   have S84:=S73.killA (i:=2) rfl rfl h83
   obtain ⟨v85,H86,e87,S88⟩:=S84.land (dt:=(dI .u8)) (d:=34) (e:=0) (n:=0) h81 h82 (by decide) rfl
   erw [e87]
   exact ih r74 x16 x17 (IntKind.wrap .i64 (x18 + 1)) yg6 v85 v19 h20 _ h22 s23 H86 (S88.wk2 (aC (aM 1 rfl) aN) (aC ⟨[34],by simp,aM 0 rfl⟩ aN))
  exact hE0 x5 yg6 v17 _ h22 s23 H15 (S16.wk2 (aC (aM 0 rfl) aN) (aC ⟨[34],by simp,aM 0 rfl⟩ aN))
theorem ctl_Bytes_l1_ok {h : H}  {kE0 : (List Int)→TaiCtl→Option β} (hE0 : ∀ (q5 : (List Int)) (yg123 : TaiCtl) (v177 : V) (w179 : List V) (h180 : dTaiCtl.R yg123 w179) (s181 : Stamp) (H175 : Go.Ev.H) (_ : Fm 87 h [] [(1,s181,List.map C.v w179)] [⟨[34,74],v177,(dI .u8),q5⟩] H175),Sim (kE0 q5 yg123) (K ((.exit 2),(envL [(1,(.ref ⟨h.length,1,0,s181,[]⟩ 0)),(5,v177)]),H175)) Q) (k : Nat) : ∀ (x5 : (List Int)) (x54 : (List T_struct_name_int_size_int_n_int64)) (x55 : Int) (x56 : Int) (yg110 : TaiCtl) (v116 : V) (v118 : V) (h119 : SlF dT_struct_name_int_size_int_n_int64 x54 v118) (w120 : List V) (h121 : dTaiCtl.R yg110 w120) (s122 : Stamp) (H114 : Go.Ev.H) (_ : Fm 87 h [] [(1,s122,List.map C.v w120)] [⟨[34,74],v116,(dI .u8),x5⟩] H114) {σ : Stamp},Sim (p_ctl_Bytes_l1 k kE0 x5 x54 x55 x56 yg110) ((cvL G X0 ctl_Bytes_c1 ctl_Bytes_l1 σ (envL [(1,(.ref ⟨h.length,1,0,s122,[]⟩ 0)),(5,v116),(54,v118),(55,(.p (.int .i64 x55))),(56,(.p (.int .i64 x56)))]) H114).bind K) Q:=by
 induction k with
 | zero => intros; exact .no
 | succ k ih =>
  intro x5 x54 x55 x56 yg110 v116 v118 h119 w120 h121 s122 H114 S115 σ
  rw [p_ctl_Bytes_l1]
  refine .round (Sim.ext (ctl_Bytes_r1 _ _ _ _ _ _ _ _ _) ?_)
  obtain ⟨v124,rfl,h125⟩:=dTaiCtl.inv h121
  refine .cq ?_ ?_
  ·refine .bd fun a127 h128 => ?_
   refine .op ((h119.h H114).iS h128 rfl) ?_
   obtain ⟨w130,h131,hE129⟩:=(h119.h H114).el h128 rfl
   obtain rfl:=dT_struct_name_int_size_int_n_int64.inv h131
   refine .op (hE129.all (by simp)) ?_
   obtain ⟨H132,e133,S134⟩:=S115.al (d:=9) (s:=(2::0::0::1::1::0::σ)) (z:=[(.p (.int .i64 0)),(.p (.int .i64 0)),(.p (.int .i64 0))]) (by decide) rfl
   refine .op (congrArg some e133) ?_
   obtain ⟨H136,e137,S138⟩:=S134.stGv (i:=0) (j:=0) (own:=false) (σ:=(3::0::0::1::1::0::σ)) (xs:=[.p (.int .i64 a127.name),.p (.int .i64 a127.size),.p (.int .i64 a127.n)]) rfl rfl (sC (sI _ _) (sC (sI _ _) (sC (sI _ _) sN))) rfl rfl
   refine .op (sM e137) ?_
   refine .fa ?_
   refine .op ((S138.atG (i:=1) rfl).ld (j:=0) rfl) ?_
   refine .ci ?_
   refine .fa ?_
   refine .op ((S138.atG (i:=0) rfl).ld (j:=0) rfl) ?_
   refine .ci ?_
   refine .call (ctl_has_ok yg110.Kind a127.name) fun r139 cs140 H141 h142 q143 => ?_
   cases q143
   refine .ab ?_
   refine .cq ?_ ?_
   ·refine .fa ?_
    refine .op ((S138.atG (i:=0) rfl).ld (j:=0) rfl) ?_
    refine .ci ?_
    refine .fa ?_
    refine .op ((S138.atG (i:=0) rfl).ld (j:=2) rfl) ?_
    refine .ci ?_
    refine .fa ?_
    refine .op ((S138.atG (i:=0) rfl).ld (j:=1) rfl) ?_
    refine .ci ?_
    refine .call (octet_Put_ok k (([] : List Int)) ((SlF.nil (dI .u8)).h H136) (IntKind.wrap .u64 a127.n) a127.size) fun r145 cs146 H147 h148 q149 => ?_
    obtain ⟨c150,cs151,h152,h153,q149⟩:=q149
    cases q149
    obtain ⟨v154,H155,e156,S157⟩:=S138.land (dt:=(dI .u8)) (d:=73) (e:=0) (n:=0) h152 h153 (by decide) rfl
    erw [e156]
    refine .nd ((S157.atG (i:=0) rfl).ld (j:=0) rfl) ?_
    refine .call (ctl_field_ok x5 (S157.ownA (i:=1) rfl) a127.name r145 (fun _ hk => (S157.killA (i:=1) rfl rfl hk).sl (i:=0) rfl)) fun r159 cs160 H161 h162 q163 => ?_
    obtain ⟨c164,cs165,h166,h167,h168,q163⟩:=q163
    obtain rfl : cs160 = [c164]:=q163
    have S169:=S157.killA (i:=1) rfl rfl h168
    obtain ⟨v170,H171,e172,S173⟩:=S169.land (dt:=(dI .u8)) (d:=74) (e:=0) (n:=0) h166 h167 (by decide) rfl
    erw [e172]
    exact ih r159 x54 x55 (IntKind.wrap .i64 (x56 + 1)) yg110 v170 v118 h119 _ h121 s122 H171 (S173.wk2 (aC (aM 1 rfl) aN) (aC ⟨[74],by simp,aM 0 rfl⟩ aN))
   exact ih x5 x54 x55 (IntKind.wrap .i64 (x56 + 1)) yg110 v116 v118 h119 _ h121 s122 H136 (S138.wk2 (aC (aM 1 rfl) aN) (aC ⟨[34,74],by simp,aM 0 rfl⟩ aN))
  exact hE0 x5 yg110 v116 _ h121 s122 H114 (S115.wk2 (aC (aM 0 rfl) aN) (aC ⟨[34,74],by simp,aM 0 rfl⟩ aN))
theorem ctl_Bytes_ok (k : Nat) {h : H} {σ : Stamp} (x0 : TaiCtl) {u0 : List V} (hu0 : dTaiCtl.R x0 u0) : Sim (p_ctl_Bytes k x0) (ev G X0 29 σ [(.agg u0)] h) (fun r s => ∃ (c0 : C),∃ (a0 : List V),OwnS c0 (dI .u8).sz r.1.length a0∧(dI .u8).L r.1 a0∧s = ([c0,.v (.p (.int .i64 r.2))],h)):=by
 refine .ev rfl (Sim.ext (ctl_Bytes_entry _ _ _ _ _) ?_)
 rw [p_ctl_Bytes]
 obtain ⟨v1,rfl,h2⟩:=dTaiCtl.inv hu0
 have S0 : Fm 87 h [] [] [] (List.replicate 87 []::h):=Fm.start0
 obtain ⟨H3,e4,S5⟩:=S0.box (own:=false) (d:=1) (s:=(0::0::0::σ)) (xs:=[(.p (.int .i64 x0.Kind)),(.p (.int .i64 x0.Cap)),v1,(.p (.int .i64 x0.Peer)),(.p (.int .i64 x0.Height)),(.p (.int .i64 x0.Class)),(.p (.int .i64 x0.Layer)),(.p (.int .i64 x0.Code))]) (sC (sI _ _) (sC (sI _ _) (sC h2.still (sC (sI _ _) (sC (sI _ _) (sC (sI _ _) (sC (sI _ _) (sC (sI _ _) sN)))))))) (by decide) rfl
 refine .op (e4) ?_
 refine .op ((S5.atG (i:=0) rfl).ldVs (j:=0) (xs:=[(.p (.int .i64 x0.Kind)),(.p (.int .i64 x0.Cap)),v1,(.p (.int .i64 x0.Peer)),(.p (.int .i64 x0.Height)),(.p (.int .i64 x0.Class)),(.p (.int .i64 x0.Layer)),(.p (.int .i64 x0.Code))]) rfl rfl (by decide)) ?_
 refine .call (ctl_Right_ok k x0 hu0) fun r7 cs8 H9 h10 q11 => ?_
 cases q11
 refine .ci ?_
 refine .cq ?_ ?_
 ·exact .fin (S5.finN (lC (SlF.nil (dI .u8)).still.lv (lC (sI _ _).lv lN))) ⟨(.v (.p (.slice none 0 0))),[],⟨by simp,.inl ⟨rfl,rfl,.inl rfl⟩⟩,rfl,rfl⟩
 refine .fa ?_
 refine .op ((S5.atG (i:=0) rfl).ld (j:=2) rfl) ?_
 refine .op ((h2.h H3).len) ?_
 refine .ci ?_
 have S101:=S5.nil (dI .u8) []
 refine .as (ctl_Bytes_l0_ok ?_ k (([] : List Int)) x0.Layers ((x0.Layers.length : Int)) 0 x0 (.p (.slice none 0 0)) v1 h2 _ hu0 (0::0::0::σ) H3 (S101.wk2 (aC (aM 0 rfl) aN) (aC ⟨[],by simp,aM 0 rfl⟩ aN)))
 ·intro r102_5 yg24 v105 w107 h108 s109 H103 S104
  refine .ext (ctl_Bytes_a0_0 _ _ _ _ _ _) ?_
  obtain ⟨v111,rfl,h112⟩:=dTaiCtl.inv h108
  refine .fa ?_
  refine .op ((S104.atG (i:=0) rfl).ld (j:=1) rfl) ?_
  refine .ci ?_
  refine .op (bldV (pC rfl (pC rfl (pC rfl pN))) (by kernel_rfl : _ = some (.agg [.p (.int .i64 1),.p (.int .i64 8),.p (.int .i64 yg24.Cap)]))) ?_
  refine .fa ?_
  refine .op ((S104.atG (i:=0) rfl).ld (j:=3) rfl) ?_
  refine .ci ?_
  refine .op (bldV (pC rfl (pC rfl (pC rfl pN))) (by kernel_rfl : _ = some (.agg [.p (.int .i64 3),.p (.int .i64 1),.p (.int .i64 yg24.Peer)]))) ?_
  refine .fa ?_
  refine .op ((S104.atG (i:=0) rfl).ld (j:=4) rfl) ?_
  refine .ci ?_
  refine .op (bldV (pC rfl (pC rfl (pC rfl pN))) (by kernel_rfl : _ = some (.agg [.p (.int .i64 4),.p (.int .i64 2),.p (.int .i64 yg24.Height)]))) ?_
  refine .fa ?_
  refine .op ((S104.atG (i:=0) rfl).ld (j:=5) rfl) ?_
  refine .ci ?_
  refine .op (bldV (pC rfl (pC rfl (pC rfl pN))) (by kernel_rfl : _ = some (.agg [.p (.int .i64 5),.p (.int .i64 1),.p (.int .i64 yg24.Class)]))) ?_
  refine .fa ?_
  refine .op ((S104.atG (i:=0) rfl).ld (j:=6) rfl) ?_
  refine .ci ?_
  refine .op (bldV (pC rfl (pC rfl (pC rfl pN))) (by kernel_rfl : _ = some (.agg [.p (.int .i64 6),.p (.int .i64 1),.p (.int .i64 yg24.Layer)]))) ?_
  refine .fa ?_
  refine .op ((S104.atG (i:=0) rfl).ld (j:=7) rfl) ?_
  refine .ci ?_
  refine .op (bldV (pC rfl (pC rfl (pC rfl pN))) (by kernel_rfl : _ = some (.agg [.p (.int .i64 7),.p (.int .i64 1),.p (.int .i64 yg24.Code)]))) ?_
  have h113 : SlF dT_struct_name_int_size_int_n_int64 [((⟨1,8,yg24.Cap⟩ : T_struct_name_int_size_int_n_int64)),((⟨3,1,yg24.Peer⟩ : T_struct_name_int_size_int_n_int64)),((⟨4,2,yg24.Height⟩ : T_struct_name_int_size_int_n_int64)),((⟨5,1,yg24.Class⟩ : T_struct_name_int_size_int_n_int64)),((⟨6,1,yg24.Layer⟩ : T_struct_name_int_size_int_n_int64)),((⟨7,1,yg24.Code⟩ : T_struct_name_int_size_int_n_int64))] (.fz [(.p (.int .i64 1)),(.p (.int .i64 8)),(.p (.int .i64 yg24.Cap)),(.p (.int .i64 3)),(.p (.int .i64 1)),(.p (.int .i64 yg24.Peer)),(.p (.int .i64 4)),(.p (.int .i64 2)),(.p (.int .i64 yg24.Height)),(.p (.int .i64 5)),(.p (.int .i64 1)),(.p (.int .i64 yg24.Class)),(.p (.int .i64 6)),(.p (.int .i64 1)),(.p (.int .i64 yg24.Layer)),(.p (.int .i64 7)),(.p (.int .i64 1)),(.p (.int .i64 yg24.Code))] 6 3 true):=SlF.lit (cs:=[(.p (.int .i64 1)),(.p (.int .i64 8)),(.p (.int .i64 yg24.Cap)),(.p (.int .i64 3)),(.p (.int .i64 1)),(.p (.int .i64 yg24.Peer)),(.p (.int .i64 4)),(.p (.int .i64 2)),(.p (.int .i64 yg24.Height)),(.p (.int .i64 5)),(.p (.int .i64 1)),(.p (.int .i64 yg24.Class)),(.p (.int .i64 6)),(.p (.int .i64 1)),(.p (.int .i64 yg24.Layer)),(.p (.int .i64 7)),(.p (.int .i64 1)),(.p (.int .i64 yg24.Code))]) (RL.cons (show dT_struct_name_int_size_int_n_int64.R ((⟨1,8,yg24.Cap⟩ : T_struct_name_int_size_int_n_int64)) [.p (.int .i64 1),.p (.int .i64 8),.p (.int .i64 yg24.Cap)] from (dT_struct_name_int_size_int_n_int64.mk)) (RL.cons (show dT_struct_name_int_size_int_n_int64.R ((⟨3,1,yg24.Peer⟩ : T_struct_name_int_size_int_n_int64)) [.p (.int .i64 3),.p (.int .i64 1),.p (.int .i64 yg24.Peer)] from (dT_struct_name_int_size_int_n_int64.mk)) (RL.cons (show dT_struct_name_int_size_int_n_int64.R ((⟨4,2,yg24.Height⟩ : T_struct_name_int_size_int_n_int64)) [.p (.int .i64 4),.p (.int .i64 2),.p (.int .i64 yg24.Height)] from (dT_struct_name_int_size_int_n_int64.mk)) (RL.cons (show dT_struct_name_int_size_int_n_int64.R ((⟨5,1,yg24.Class⟩ : T_struct_name_int_size_int_n_int64)) [.p (.int .i64 5),.p (.int .i64 1),.p (.int .i64 yg24.Class)] from (dT_struct_name_int_size_int_n_int64.mk)) (RL.cons (show dT_struct_name_int_size_int_n_int64.R ((⟨6,1,yg24.Layer⟩ : T_struct_name_int_size_int_n_int64)) [.p (.int .i64 6),.p (.int .i64 1),.p (.int .i64 yg24.Layer)] from (dT_struct_name_int_size_int_n_int64.mk)) (RL.cons (show dT_struct_name_int_size_int_n_int64.R ((⟨7,1,yg24.Code⟩ : T_struct_name_int_size_int_n_int64)) [.p (.int .i64 7),.p (.int .i64 1),.p (.int .i64 yg24.Code)] from (dT_struct_name_int_size_int_n_int64.mk)) RL.nil)))))) rfl rfl true
  refine .op (bldS (pC (c:=[.p (.int .i64 1),.p (.int .i64 8),.p (.int .i64 yg24.Cap)]) rfl (pC (c:=[.p (.int .i64 3),.p (.int .i64 1),.p (.int .i64 yg24.Peer)]) rfl (pC (c:=[.p (.int .i64 4),.p (.int .i64 2),.p (.int .i64 yg24.Height)]) rfl (pC (c:=[.p (.int .i64 5),.p (.int .i64 1),.p (.int .i64 yg24.Class)]) rfl (pC (c:=[.p (.int .i64 6),.p (.int .i64 1),.p (.int .i64 yg24.Layer)]) rfl (pC (c:=[.p (.int .i64 7),.p (.int .i64 1),.p (.int .i64 yg24.Code)]) rfl pN)))))) (by kernel_rfl : _ = some (vOf h113))) ?_
  refine .op ((h113.h H103).len) ?_
  refine .ci ?_
  refine .as (ctl_Bytes_l1_ok ?_ k r102_5 ([((⟨1,8,yg24.Cap⟩ : T_struct_name_int_size_int_n_int64)),((⟨3,1,yg24.Peer⟩ : T_struct_name_int_size_int_n_int64)),((⟨4,2,yg24.Height⟩ : T_struct_name_int_size_int_n_int64)),((⟨5,1,yg24.Class⟩ : T_struct_name_int_size_int_n_int64)),((⟨6,1,yg24.Layer⟩ : T_struct_name_int_size_int_n_int64)),((⟨7,1,yg24.Code⟩ : T_struct_name_int_size_int_n_int64))]) ((([((⟨1,8,yg24.Cap⟩ : T_struct_name_int_size_int_n_int64)),((⟨3,1,yg24.Peer⟩ : T_struct_name_int_size_int_n_int64)),((⟨4,2,yg24.Height⟩ : T_struct_name_int_size_int_n_int64)),((⟨5,1,yg24.Class⟩ : T_struct_name_int_size_int_n_int64)),((⟨6,1,yg24.Layer⟩ : T_struct_name_int_size_int_n_int64)),((⟨7,1,yg24.Code⟩ : T_struct_name_int_size_int_n_int64))]).length : Int)) 0 yg24 v105 (.fz [(.p (.int .i64 1)),(.p (.int .i64 8)),(.p (.int .i64 yg24.Cap)),(.p (.int .i64 3)),(.p (.int .i64 1)),(.p (.int .i64 yg24.Peer)),(.p (.int .i64 4)),(.p (.int .i64 2)),(.p (.int .i64 yg24.Height)),(.p (.int .i64 5)),(.p (.int .i64 1)),(.p (.int .i64 yg24.Class)),(.p (.int .i64 6)),(.p (.int .i64 1)),(.p (.int .i64 yg24.Layer)),(.p (.int .i64 7)),(.p (.int .i64 1)),(.p (.int .i64 yg24.Code))] 6 3 true) h113 _ h108 s109 H103 (S104.wk2 (aC (aM 0 rfl) aN) (aC ⟨[34],by simp,aM 0 rfl⟩ aN)))
  ·intro r185_5 yg123 v188 w190 h191 s192 H186 S187
   refine .ext (ctl_Bytes_a1_2 _ _ _ _ _ _) ?_
   obtain ⟨v194,rfl,h195⟩:=dTaiCtl.inv h191
   refine .fa ?_
   refine .op ((S187.atG (i:=0) rfl).ld (j:=0) rfl) ?_
   refine .ci ?_
   have h196:=SlF.int1 .u8 (IntKind.wrap .u8 yg123.Kind)
   refine .op (bldS (pC rfl pN) (by kernel_rfl : _ = some (vOf h196))) ?_
   refine .op ((S187.sl (i:=0) rfl).len) ?_
   refine .ci ?_
   refine .call (octet_Put_ok k ([(IntKind.wrap .u8 yg123.Kind)]) (h196.h H186) (IntKind.wrap .u64 ((r185_5.length : Int))) 2) fun r197 cs198 H199 h200 q201 => ?_
   obtain ⟨c202,cs203,h204,h205,q201⟩:=q201
   cases q201
   obtain ⟨v206,H207,e208,S209⟩:=S187.land (dt:=(dI .u8)) (d:=83) (e:=0) (n:=0) h204 h205 (by decide) rfl
   erw [e208]
   refine .op (bldS (pC (S209.cellsD (i:=0) rfl) (pC (S209.cellsD (i:=1) rfl) pN)) (by kernel_rfl : _ = some (.fz [v206,v188] 2 1 true))) ?_
   obtain ⟨v211,H212,e213,h214,S215⟩:=S209.layD (i:=0) rfl rfl
   obtain ⟨v216,H217,e218,h219,S220⟩:=S215.layD (i:=0) rfl rfl
   have h221 : SlF (dSl (dI .u8)) [r197,r185_5] (.fz [v211,v216] 2 1 true):=SlF.lit (cs:=[v211,v216]) (RL.cons (show (dSl (dI .u8)).R r197 [v211] from ⟨_,rfl,h214⟩) (RL.cons (show (dSl (dI .u8)).R r185_5 [v216] from ⟨_,rfl,h219⟩) RL.nil)) rfl rfl true
   erw [callFO_eq (frzAs_cons (frzA_fz (frzCs_cons e213 (frzCs_cons e218 frzCs_nil))) frzAs_nil)]
   refine .call (slices_Concat_Lbyte_byte_ok k ([r197,r185_5]) (h221.h H217)) fun r222 cs223 H224 h225 q226 => ?_
   obtain ⟨c227,cs228,h229,h230,q226⟩:=q226
   cases q226
   obtain ⟨v231,H232,e233,S234⟩:=S220.land (dt:=(dI .u8)) (d:=86) (e:=0) (n:=0) h229 h230 (by decide) rfl
   erw [e233]
   obtain ⟨c241,cs242,H236,e237,h239,h240,S238⟩:=S234.expOwn (i:=0) (τ:=0::1::σ) rfl rfl rfl
   exact .fin (S238.finE (Ex.st e237 (Ex.pl (sI _ _).lv Ex.nil))) ⟨c241,cs242,h239,h240,rfl⟩
end
end Go.Ev
namespace Go.Ev
set_option maxRecDepth 100000
def putB (n : Int) : Nat→List Int
 | 0 => []
 | s + 1 => (n / 256 ^ s % 256)::putB n s
def getB : Int→List Int→Int
 | a,[] => a
 | a,b::bs => getB (a * 256 + b) bs
theorem putB_len (n : Int) : ∀ s,(putB n s).length = s
 | 0 => rfl
 | s + 1 => by rw [putB,List.length_cons,putB_len n s]
theorem wrap_u8_mod (n : Int) : IntKind.wrap .u8 n = n % 256:=by
 simp only [IntKind.wrap,IntKind.signed,IntKind.bits]
 simp
theorem put_l0 {β : Type} (kE0 : List Int→Option β) {n : Int} (hn : 0 ≤ n) : ∀ (s j : Nat) (out : List Int),s ≤ 8→out.length + s < 2 ^ 39→p_octet_Put_l0 (j + s + 1) kE0 n out ((s : Int) - 1) = kE0 (out ++ putB n s)
 | 0,j,out,_,_ => by
  rw [p_octet_Put_l0]
  have d : decide (((0 : Nat) : Int) - 1 ≥ 0) = false:=by decide
  rw [d,cond_false,putB,List.append_nil]
 | s + 1,j,out,hs,ho => by
  rw [show j + (s + 1) + 1 = (j + s + 1) + 1 from rfl,p_octet_Put_l0]
  have d : decide (((s + 1 : Nat) : Int) - 1 ≥ 0) = true:=decide_eq_true (by omega)
  have w1 : IntKind.wrap .i64 ((((s + 1 : Nat) : Int) - 1) * 8) = ((8 * s : Nat) : Int):=by rw [wrap_i64 (by omega) (by omega)]; omega
  have w2 : IntKind.wrap .i64 (((s + 1 : Nat) : Int) - 1 - 1) = (s : Int) - 1:=by rw [wrap_i64 (by omega) (by omega)]; omega
  have hsh : shP .shr .u64 n ((8 * s : Nat) : Int) = some (n / 256 ^ s):=by
   unfold shP
   rw [if_neg (by omega)]
   have : min (((8 * s : Nat) : Int).toNat) IntKind.u64.bits = 8 * s:=by
    rw [Int.toNat_natCast]
    show min (8 * s) 64 = 8 * s
    omega
   simp only [this]
   have e : (2 : Int) ^ (8 * s) = 256 ^ s:=by rw [Int.pow_mul]; rfl
   rw [e,Int.fdiv_eq_ediv_of_nonneg _ (Int.le_of_lt (Int.pow_pos (by decide)))]
  rw [d,cond_true,w1,hsh,Option.bind_some,wrap_u8_mod,ap_eq (by decide) (by simp only [List.length_cons,List.length_nil]; omega),Option.bind_some,w2,put_l0 kE0 hn s j _ (by omega) (by rw [List.length_append]; simp only [List.length_cons,List.length_nil]; omega),putB,List.append_assoc]
  rfl
theorem putO_ok {k : Nat} (hk : 10 ≤ k) {b : List Int} (hb : b.length < 1000) {n : Int} (hn : 0 ≤ n) {s : Nat} (h1 : 1 ≤ s) (h8 : s ≤ 8) : p_octet_Put k b n (s : Int) = some (b ++ putB n s):=by
 unfold p_octet_Put
 have d1 : decide ((s : Int) < 1) = false:=decide_eq_false (by omega)
 have d2 : decide ((s : Int) > 8) = false:=decide_eq_false (by omega)
 rw [clone_eq (by decide) (by omega),Option.bind_some]
 simp only [d1,d2,cond_false,Option.bind_some]
 rw [wrap_i64 (by omega) (by omega)]
 have:=put_l0 (fun r => some r) hn s (k - s - 1) b h8 (by omega)
 rwa [show k - s - 1 + s + 1 = k by omega] at this
abbrev Fd:=Int × List Int
def encF (f : Fd) : List Int:=f.1::(f.2.length : Int)::f.2
def okF (f : Fd) : Prop:=(0 ≤ f.1∧f.1 < 256)∧f.2.length < 256
theorem field_ok {b : List Int} (hb : b.length < 2 ^ 30) {f : Fd} (hf : okF f) : p_ctl_field b f.1 f.2 = some (b ++ encF f):=by
 obtain ⟨h1,h2⟩:=hf
 unfold p_ctl_field
 rw [wrap_u8 h1.1 h1.2,wrap_u8 (by omega) (by omega),ap_eq (by decide) (by simp only [List.length_cons,List.length_nil]; omega),Option.bind_some,ap_eq (by decide) (by rw [List.length_append]; simp only [List.length_cons,List.length_nil]; omega),Option.bind_some,encF,List.append_assoc]
 rfl
theorem encF_len (f : Fd) : (encF f).length = 2 + f.2.length:=by rw [encF,List.length_cons,List.length_cons]; omega
theorem body_len : ∀ {l : List Fd},(∀ f ∈ l,okF f)→(l.flatMap encF).length ≤ 257 * l.length
 | [],_ => by simp
 | f::l,h => by
  have:=body_len (l:=l) fun x hx => h x (List.mem_cons_of_mem _ hx)
  have:=(h f (List.mem_cons_self ..)).2
  rw [List.flatMap_cons,List.length_append,encF_len,List.length_cons]
  omega
theorem concat2 {k : Nat} (hk : 10 ≤ k) {x y : List Int} (hx : x.length < 1000) (hy : y.length < 10000) : p_slices_Concat_Lbyte_byte k [x,y] = some (x ++ y):=by
 obtain ⟨j,rfl⟩ : ∃ j,k = j + 3:=⟨k - 3,by omega⟩
 unfold p_slices_Concat_Lbyte_byte
 have l2 : ((([x,y] : List (List Int)).length : Nat) : Int) = 2:=rfl
 have w0 : IntKind.wrap .i64 (0 + (x.length : Int)) = (x.length : Int):=by rw [wrap_i64 (by omega) (by omega)]; omega
 have w1 : IntKind.wrap .i64 ((x.length : Int) + (y.length : Int)) = ((x.length + y.length : Nat) : Int):=by rw [wrap_i64 (by omega) (by omega)]; omega
 have i0 : ix [x,y] 0 = some x:=rfl
 have i1 : ix [x,y] 1 = some y:=rfl
 have a0 : IntKind.wrap .i64 (0 + 1) = 1:=rfl
 have a1 : IntKind.wrap .i64 (1 + 1) = 2:=rfl
 have d0 : decide ((0 : Int) < 2) = true:=rfl
 have d1 : decide ((1 : Int) < 2) = true:=rfl
 have d2 : decide ((2 : Int) < 2) = false:=rfl
 have n0 : decide ((x.length : Int) < 0) = false:=decide_eq_false (by omega)
 have n1 : decide (((x.length + y.length : Nat) : Int) < 0) = false:=decide_eq_false (by omega)
 have g : p_slices_Grow_Lbyte_byte ((x.length + y.length : Nat) : Int) = some []:=by unfold p_slices_Grow_Lbyte_byte; rw [if_pos ⟨by omega,by omega⟩]
 have e1 : ap 1 ([] : List Int) x = some x:=by rw [ap_eq (by decide) (by simp only [List.length_nil]; omega),List.nil_append]
 have e2 : ap 1 x y = some (x ++ y):=ap_eq (by decide) (by omega)
 rw [l2,p_slices_Concat_Lbyte_byte_l0,d0,cond_true,i0,Option.bind_some,w0,n0,cond_false,a0]
 rw [p_slices_Concat_Lbyte_byte_l0,d1,cond_true,i1,Option.bind_some,w1,n1,cond_false,a1]
 rw [p_slices_Concat_Lbyte_byte_l0,d2,cond_false,g,Option.bind_some]
 rw [l2,p_slices_Concat_Lbyte_byte_l1,d0,cond_true,i0,Option.bind_some,e1,Option.bind_some,a0]
 rw [p_slices_Concat_Lbyte_byte_l1,d1,cond_true,i1,Option.bind_some,e2,Option.bind_some,a1]
 rw [p_slices_Concat_Lbyte_byte_l1,d2,cond_false]
end Go.Ev
namespace Go.Ev
set_option maxRecDepth 100000
theorem orO (a b : Bool) : (bif a then some true else some b) = some (a || b):=by cases a <;> rfl
theorem andO (a b : Bool) : (bif a then some b else some false) = some (a && b):=by cases a <;> rfl
theorem condS {α : Type} (a : Bool) (x y : α) : (bif a then some x else some y) = some (bif a then x else y):=by cases a <;> rfl
theorem condT (a b : Bool) : (bif a then true else b) = (a || b):=by cases a <;> rfl
def hasB (k n : Int) : Bool :=
 bif n == 1 then k == 1 else bif n == 2 then k == 3 else bif n == 3 then (((k == 4) || (k == 5)) || (k == 6)) || (k == 7) else bif n == 4 then (k == 4) || (k == 6) else bif n == 5 then (k == 4) || (k == 7) else bif n == 6 then (k == 8) || (k == 9) else k == 10
theorem has_ok (k n : Int) : p_ctl_has k n = some (hasB k n):=by
 unfold p_ctl_has hasB
 simp only [Option.bind_some,condS,condT]
theorem within_ok (n a b : Int) : p_ctl_within n a b = some (decide (n ≥ a) && decide (n ≤ b)):=by
 unfold p_ctl_within
 simp only [andO,Option.bind_some]
def valB (c : TaiCtl) : Bool :=
 (((((!hasB c.Kind 1 || (decide (c.Cap ≥ 1) && decide (c.Cap ≤ 1099511627776))) && (!hasB c.Kind 3 || (decide (c.Peer ≥ 0) && decide (c.Peer ≤ 5)))) && (!hasB c.Kind 4 || (decide (c.Height ≥ 1) && decide (c.Height ≤ 8192)))) && (!hasB c.Kind 5 || (decide (c.Class ≥ 0) && decide (c.Class ≤ 3)))) && (!hasB c.Kind 6 || (decide (c.Layer ≥ 0) && decide (c.Layer ≤ 2)))) && (!hasB c.Kind 7 || (decide (c.Code ≥ 0) && decide (c.Code ≤ 255)))
theorem values_ok (c : TaiCtl) : p_ctl_values c = some (valB c):=by
 unfold p_ctl_values valB
 simp only [has_ok,within_ok,Option.bind_some,orO,andO]
def fldB (kind : Int) : Nat→List Bool→Bool
 | _,[] => true
 | i,z::zs => (z || hasB kind ((i : Int) + 1)) && fldB kind (i + 1) zs
theorem fields_l0 {β : Type} (kE0 : Unit→Option β) (kE1 : Bool→Option β) (c : TaiCtl) (zs : List Bool) (hz : zs.length < 100) : ∀ (rest pre : List Bool) (j : Nat),zs = pre ++ rest →
  p_ctl_fields_l0 (j + rest.length + 1) kE0 kE1 zs (zs.length : Int) (pre.length : Int) c = bif fldB c.Kind pre.length rest then kE0 () else kE1 false
 | [],pre,j,h => by
  rw [p_ctl_fields_l0]
  have h1 : decide ((pre.length : Int) < (zs.length : Int)) = false:=by subst h; simp
  rw [h1,cond_false,fldB,cond_true]
 | z::rest,pre,j,h => by
  have hplen : pre.length + 1 ≤ zs.length:=by rw [h,List.length_append,List.length_cons]; omega
  rw [List.length_cons,show j + (rest.length + 1) + 1 = (j + rest.length + 1) + 1 from rfl,p_ctl_fields_l0]
  have h1 : decide ((pre.length : Int) < (zs.length : Int)) = true:=decide_eq_true (by omega)
  have h2 : ix zs (pre.length : Int) = some z:=ix_mid' h rfl
  have h4 : IntKind.wrap .i64 ((pre.length : Int) + 1) = (pre.length : Int) + 1:=wrap_i64 (by omega) (by omega)
  have ih:=fields_l0 kE0 kE1 c zs hz rest (pre ++ [z]) j (by rw [h]; simp)
  have e1 : (((pre ++ [z]).length : Nat) : Int) = (pre.length : Int) + 1:=by simp
  have e2 : (pre ++ [z]).length = pre.length + 1:=by simp
  rw [e1,e2] at ih
  rw [h1,cond_true,h2,Option.bind_some,h4,has_ok,Option.bind_some,andO,Option.bind_some,ih,fldB]
  cases z <;> cases hasB c.Kind ((pre.length : Int) + 1) <;> rfl
theorem fields_ok (c : TaiCtl) {k : Nat} (hk : 10 ≤ k) : p_ctl_fields k c = some (fldB c.Kind 0 [(c.Cap == 0),((c.Layers.length : Int) == 0),(c.Peer == 0),(c.Height == 0),(c.Class == 0),(c.Layer == 0),(c.Code == 0)]):=by
 unfold p_ctl_fields
 have:=fields_l0 (fun (_ : Unit) => (some true : Option Bool)) (fun r => some r) c [(c.Cap == 0),((c.Layers.length : Int) == 0),(c.Peer == 0),(c.Height == 0),(c.Class == 0),(c.Layer == 0),(c.Code == 0)] (by simp) [(c.Cap == 0),((c.Layers.length : Int) == 0),(c.Peer == 0),(c.Height == 0),(c.Class == 0),(c.Layer == 0),(c.Code == 0)] [] (k - 8) rfl
 simp only [List.length_cons,List.length_nil,show k - 8 + (0 + 1 + 1 + 1 + 1 + 1 + 1 + 1) + 1 = k by omega] at this
 refine Eq.trans ?_ (this.trans ?_)
 ·rfl
 ·cases fldB c.Kind 0 [(c.Cap == 0),((c.Layers.length : Int) == 0),(c.Peer == 0),(c.Height == 0),(c.Class == 0),(c.Layer == 0),(c.Code == 0)] <;> rfl
theorem right_ok {c : TaiCtl} {k : Nat} (hk : 10 ≤ k) (h1 : 1 ≤ c.Kind∧c.Kind ≤ 10) (hf : fldB c.Kind 0 [(c.Cap == 0),((c.Layers.length : Int) == 0),(c.Peer == 0),(c.Height == 0),(c.Class == 0),(c.Layer == 0),(c.Code == 0)] = true) (hv : valB c = true) (hl : c.Kind = 3→p_ctl_Layers k c.Layers = some 0) : p_ctl_Right k c = some 0:=by
 unfold p_ctl_Right
 have d1 : decide (c.Kind < 1) = false:=decide_eq_false (by omega)
 have d2 : decide (c.Kind > 10) = false:=decide_eq_false (by omega)
 have f:=fields_ok c hk
 rw [hf] at f
 have v:=values_ok c
 rw [hv] at v
 have f' : p_ctl_fields k c = some true:=f
 have v' : p_ctl_values c = some true:=v
 simp only [d1,d2,cond_false,Option.bind_some,f',v',Bool.not_true]
 cases h3 : (c.Kind == 3) with
 | true => rw [cond_true,hl (by simpa using h3)]; rfl
 | false => rfl
def layF (a : TaiLayer) : Fd:=(2,putB a.Ssrc 4 ++ putB a.Height 2 ++ bytesS a.Rid)
def okLy (a : TaiLayer) : Prop:=(0 ≤ a.Ssrc∧a.Ssrc < 2 ^ 32)∧(0 ≤ a.Height∧a.Height < 2 ^ 16)∧a.Rid.size ≤ 249
theorem wrap_u64 {n : Int} (h1 : 0 ≤ n) (h2 : n < 18446744073709551616) : IntKind.wrap .u64 n = n:=by
 simp only [IntKind.wrap,IntKind.signed,IntKind.bits]
 simp
 omega
theorem layF_len (a : TaiLayer) : (layF a).2.length = 6 + a.Rid.size:=by
 simp only [layF,List.length_append,putB_len,bytesS_len]
theorem layF_ok {a : TaiLayer} (h : okLy a) : okF (layF a):=⟨⟨by simp [layF],by simp [layF]⟩,by rw [layF_len]; have:=h.2.2; omega⟩
theorem bytes8_l0 {β : Type} (kE0 : List Int→TaiCtl→Option β) (c : TaiCtl) (l : List TaiLayer) (hl : l.length < 100) (hs : ∀ a ∈ l,okLy a) : ∀ (rest pre : List TaiLayer) (j : Nat) (b : List Int),l = pre ++ rest→10 ≤ j→b.length + 257 * rest.length < 2 ^ 29 →
  p_ctl_Bytes_l0 (j + rest.length + 1) kE0 b l (l.length : Int) (pre.length : Int) c = kE0 (b ++ (rest.map layF).flatMap encF) c
 | [],pre,j,b,h,_,_ => by
  rw [p_ctl_Bytes_l0]
  have h1 : decide ((pre.length : Int) < (l.length : Int)) = false:=by subst h; simp
  rw [h1,cond_false,List.map_nil,List.flatMap_nil,List.append_nil]
 | a::rest,pre,j,b,h,hj,hb => by
  rw [List.length_cons] at hb
  have hplen : pre.length + 1 ≤ l.length:=by rw [h,List.length_append,List.length_cons]; omega
  obtain ⟨o1,o2,o3⟩:=hs a (by rw [h]; simp)
  rw [List.length_cons,show j + (rest.length + 1) + 1 = (j + rest.length + 1) + 1 from rfl,p_ctl_Bytes_l0]
  have h1 : decide ((pre.length : Int) < (l.length : Int)) = true:=decide_eq_true (by omega)
  have h2 : ix l (pre.length : Int) = some a:=ix_mid' h rfl
  have h4 : IntKind.wrap .i64 ((pre.length : Int) + 1) = (((pre ++ [a]).length : Nat) : Int):=by rw [wrap_i64 (by omega) (by omega)]; simp
  have p1 : p_octet_Put (j + rest.length + 1) ([] : List Int) a.Ssrc 4 = some (putB a.Ssrc 4):=putO_ok (s:=4) (by omega) (by simp) o1.1 (by omega) (by omega)
  have p2 : p_octet_Put (j + rest.length + 1) (putB a.Ssrc 4) a.Height 2 = some (putB a.Ssrc 4 ++ putB a.Height 2):=putO_ok (s:=2) (by omega) (by rw [putB_len]; omega) o2.1 (by omega) (by omega)
  have hap : ap 1 (putB a.Ssrc 4 ++ putB a.Height 2) (bytesS a.Rid) = some (layF a).2:=ap_eq (by decide) (by rw [List.length_append,putB_len,putB_len,bytesS_len]; omega)
  have hfd : p_ctl_field b 2 (layF a).2 = some (b ++ encF (layF a)):=field_ok (f:=layF a) (by omega) (layF_ok (hs a (by rw [h]; simp)))
  have hle:=encF_len (layF a)
  have hll:=layF_len a
  rw [h1,cond_true,h2,Option.bind_some,wrap_u64 o1.1 (by omega),p1,Option.bind_some,wrap_u64 o2.1 (by omega),p2,Option.bind_some,hap,Option.bind_some,hfd,Option.bind_some,h4]
  have ih:=bytes8_l0 kE0 c l hl hs rest (pre ++ [a]) j (b ++ encF (layF a)) (by rw [h]; simp) hj (by rw [List.length_append]; omega)
  refine ih.trans ?_
  rw [List.map_cons,List.flatMap_cons,List.append_assoc]
abbrev It:=T_struct_name_int_size_int_n_int64
def itF (a : It) : Fd:=(a.name,putB a.n a.size.toNat)
def selF (kind : Int) (l : List It) : List Fd:=l.flatMap fun a => bif hasB kind a.name then [itF a] else []
def okIt (a : It) : Prop:=(0 ≤ a.name∧a.name < 256)∧(1 ≤ a.size∧a.size ≤ 8)∧0 ≤ a.n∧a.n < 2 ^ 63
theorem bytes8_l1 {β : Type} (kE0 : List Int→TaiCtl→Option β) (c : TaiCtl) (l : List It) (hl : l.length < 100) (hs : ∀ a ∈ l,okIt a) : ∀ (rest pre : List It) (j : Nat) (b : List Int),l = pre ++ rest→10 ≤ j→b.length + 257 * rest.length < 2 ^ 29 →
  p_ctl_Bytes_l1 (j + rest.length + 1) kE0 b l (l.length : Int) (pre.length : Int) c = kE0 (b ++ (selF c.Kind rest).flatMap encF) c
 | [],pre,j,b,h,_,_ => by
  rw [p_ctl_Bytes_l1]
  have h1 : decide ((pre.length : Int) < (l.length : Int)) = false:=by subst h; simp
  rw [h1,cond_false,selF,List.flatMap_nil,List.flatMap_nil,List.append_nil]
 | a::rest,pre,j,b,h,hj,hb => by
  rw [List.length_cons] at hb
  have hplen : pre.length + 1 ≤ l.length:=by rw [h,List.length_append,List.length_cons]; omega
  obtain ⟨o1,o2,o3,o4⟩:=hs a (by rw [h]; simp)
  rw [List.length_cons,show j + (rest.length + 1) + 1 = (j + rest.length + 1) + 1 from rfl,p_ctl_Bytes_l1]
  have h1 : decide ((pre.length : Int) < (l.length : Int)) = true:=decide_eq_true (by omega)
  have h2 : ix l (pre.length : Int) = some a:=ix_mid' h rfl
  have h4 : IntKind.wrap .i64 ((pre.length : Int) + 1) = (((pre ++ [a]).length : Nat) : Int):=by rw [wrap_i64 (by omega) (by omega)]; simp
  obtain ⟨s,hsz⟩ : ∃ s : Nat,a.size = s:=⟨a.size.toNat,by omega⟩
  have p1 : p_octet_Put (j + rest.length + 1) ([] : List Int) a.n a.size = some (putB a.n s):=by rw [hsz]; exact putO_ok (by omega) (by simp) o3 (by omega) (by omega)
  have hit : itF a = (a.name,putB a.n s):=by rw [itF,hsz,Int.toNat_natCast]
  have hfd : p_ctl_field b a.name (putB a.n s) = some (b ++ encF (itF a)):=by rw [hit]; exact field_ok (f:=(a.name,putB a.n s)) (by omega) ⟨o1,by simp only; rw [putB_len]; omega⟩
  have hle : (encF (itF a)).length = 2 + s:=by rw [encF_len,hit]; simp only; rw [putB_len]
  rw [h1,cond_true,h2,Option.bind_some,has_ok,Option.bind_some]
  have hsel : selF c.Kind (a::rest) = (bif hasB c.Kind a.name then [itF a] else []) ++ selF c.Kind rest:=by simp only [selF,List.flatMap_cons]
  rw [hsel]
  cases hasB c.Kind a.name with
  | true =>
   rw [cond_true,wrap_u64 o3 (by omega),p1,Option.bind_some,hfd,Option.bind_some,h4]
   have ih:=bytes8_l1 kE0 c l hl hs rest (pre ++ [a]) j (b ++ encF (itF a)) (by rw [h]; simp) hj (by rw [List.length_append,hle]; omega)
   refine ih.trans ?_
   simp
  | false =>
   rw [cond_false,h4]
   have ih:=bytes8_l1 kE0 c l hl hs rest (pre ++ [a]) j b (by rw [h]; simp) hj (by omega)
   refine ih.trans ?_
   simp
def six (c : TaiCtl) : List It:=[⟨1,8,c.Cap⟩,⟨3,1,c.Peer⟩,⟨4,2,c.Height⟩,⟨5,1,c.Class⟩,⟨6,1,c.Layer⟩,⟨7,1,c.Code⟩]
def flds (c : TaiCtl) : List Fd:=c.Layers.map layF ++ selF c.Kind (six c)
def bodyC (c : TaiCtl) : List Int:=(flds c).flatMap encF
def bytC (c : TaiCtl) : List Int:=([c.Kind] ++ putB ((bodyC c).length : Int) 2) ++ bodyC c
def okC (c : TaiCtl) : Prop:=(0 ≤ c.Kind∧c.Kind < 256)∧c.Layers.length ≤ 3∧(∀ a ∈ c.Layers,okLy a)∧∀ a ∈ six c,okIt a
theorem selF_len (kind : Int) : ∀ l : List It,(selF kind l).length ≤ l.length
 | [] => by simp [selF]
 | a::l => by
  have:=selF_len kind l
  unfold selF at this ⊢
  rw [List.flatMap_cons,List.length_append,List.length_cons]
  cases hasB kind a.name <;> simp only [cond_true,cond_false,List.length_cons,List.length_nil] <;> omega
theorem selF_ok {kind : Int} {l : List It} (h : ∀ a ∈ l,okIt a) : ∀ f ∈ selF kind l,okF f:=by
 intro f hf
 simp only [selF,List.mem_flatMap] at hf
 obtain ⟨a,ha,hf⟩:=hf
 obtain ⟨o1,o2,o3,o4⟩:=h a ha
 cases hh : hasB kind a.name with
 | false => rw [hh] at hf; simp at hf
 | true =>
  rw [hh,cond_true,List.mem_singleton] at hf
  subst hf
  exact ⟨o1,by simp only [itF]; rw [putB_len]; omega⟩
theorem bodyC_len {c : TaiCtl} (h : okC c) : (bodyC c).length ≤ 2400:=by
 have h1 : ∀ f ∈ flds c,okF f:=fun f hf => by
  rcases List.mem_append.1 hf with hf | hf
  ·obtain ⟨a,ha,rfl⟩:=List.mem_map.1 hf; exact layF_ok (h.2.2.1 a ha)
  ·exact selF_ok h.2.2.2 f hf
 have h2:=body_len h1
 have h3:=selF_len c.Kind (six c)
 have h4 : (flds c).length = c.Layers.length + (selF c.Kind (six c)).length:=by simp [flds]
 have h5 : (six c).length = 6:=rfl
 have h6:=h.2.1
 unfold bodyC
 omega
theorem bytes8 {c : TaiCtl} (h : okC c) {k : Nat} (hk : 40 ≤ k) (hr : p_ctl_Right k c = some 0) : p_ctl_Bytes k c = some (bytC c,0):=by
 have hbl:=bodyC_len h
 obtain ⟨hkd,hl3,hly,hit⟩:=h
 have hr' : p_ctl_Right k c = some 0:=hr
 unfold p_ctl_Bytes
 rw [hr',Option.bind_some]
 simp only [show ((0 : Int) != 0) = false from rfl,cond_false]
 have b0:=fun (kE0 : List Int→TaiCtl→Option (List Int × Int)) => bytes8_l0 kE0 c c.Layers (by omega) hly c.Layers [] (k - c.Layers.length - 1) [] rfl (by omega) (by simp only [List.length_nil]; omega)
 simp only [show k - c.Layers.length - 1 + c.Layers.length + 1 = k by omega,List.length_nil,List.nil_append] at b0
 rw [show ((0 : Nat) : Int) = 0 from rfl] at b0
 refine (b0 _).trans ?_
 have lb : ((c.Layers.map layF).flatMap encF).length ≤ 257 * c.Layers.length:=by
  have:=body_len (l:=c.Layers.map layF) (fun f hf => by obtain ⟨a,ha,rfl⟩:=List.mem_map.1 hf; exact layF_ok (hly a ha))
  rwa [List.length_map] at this
 have b1:=fun (kE0 : List Int→TaiCtl→Option (List Int × Int)) => bytes8_l1 kE0 c (six c) (by show 6 < 100; decide) hit (six c) [] (k - 7) ((c.Layers.map layF).flatMap encF) rfl (by omega) (by show _ + 257 * 6 < _; omega)
 have h6 : (six c).length = 6:=rfl
 rw [h6] at b1
 simp only [show k - 7 + 6 + 1 = k by omega,List.length_nil] at b1
 rw [show ((0 : Nat) : Int) = 0 from rfl] at b1
 refine (b1 _).trans ?_
 have hbody : (c.Layers.map layF).flatMap encF ++ (selF c.Kind (six c)).flatMap encF = bodyC c:=by rw [bodyC,flds,List.flatMap_append]
 rw [hbody]
 have p1 : p_octet_Put k [c.Kind] ((bodyC c).length : Int) 2 = some ([c.Kind] ++ putB ((bodyC c).length : Int) 2):=putO_ok (s:=2) (by omega) (by simp) (by omega) (by omega) (by omega)
 simp only [wrap_u8 hkd.1 hkd.2,wrap_u64 (n:=((bodyC c).length : Int)) (by omega) (by omega),p1,Option.bind_some]
 rw [concat2 (by omega) (by rw [List.length_append,putB_len]; simp) (by omega),Option.bind_some]
 rfl
end Go.Ev
namespace Go.Ev
open Go.Proofs
set_option linter.unusedVariables false
set_option linter.unusedSimpArgs false
set_option maxRecDepth 100000
noncomputable section
abbrev KT11:=Exit→Env→H→Option (List C × H)
variable (rec : CallF) (loop : LoopV) (σ : Stamp)
theorem zk_Tape_Ctl_entry (x0 : V) (h : H) : cvBody G rec loop 28 σ [x0] h =
(some (alO [.p (.int .i64 0),.p (.int .i64 0),.p (.slice none 0 0),.p (.int .i64 0),.p (.int .i64 0),.p (.int .i64 0),.p (.int .i64 0),.p (.int .i64 0)] (0::0::0::σ) 2 (List.replicate 69 []::h))).bind fun q1 =>
(callO rec 51 (1::0::1::0::σ) [x0,(.p (.int .i64 10))] q1.2 (some 5)).bind fun q2 =>
(castI .i64 q2.1).bind fun n3 =>
(buildV Try.prog 58 [(0,(.p (.int .i64 (IntKind.wrap .i64 (1 + n3)))))]).bind fun t4 =>
(some (alO [.p (.int .i64 0),.p (.int .i64 0),.p (.slice none 0 0),.p (.int .i64 0),.p (.int .i64 0),.p (.int .i64 0),.p (.int .i64 0),.p (.int .i64 0)] (4::0::1::0::σ) 3 q2.2)).bind fun q5 =>
((stO false 8 (5::0::1::0::σ) q5.2 q5.1 t4).map fun h => (udf,h)).bind fun q6 =>
(fA q5.1 0).bind fun t7 =>
(ldO false 1 q6.2 t7).bind fun t8 =>
(castI .i64 t8).bind fun n9 =>
bif n9 == 1 then (
(callO rec 51 (1::1::1::0::1::1::0::σ) [x0,(.p (.int .i64 1048576))] q6.2 (some 13)).bind fun q10 =>
(castI .i64 q10.1).bind fun n11 =>
(fA q5.1 1).bind fun t12 =>
((stO true 1 (4::1::1::0::1::1::0::σ) q10.2 t12 (.p (.int .i64 (IntKind.wrap .i64 (1 + n11))))).map fun h => (udf,h)).bind fun q13 =>
(ldO true 8 q13.2 q5.1).bind fun t14 =>
((stO false 8 (1::0::1::1::1::0::σ) q13.2 q1.1 t14).map fun h => (udf,h)).bind fun q15 =>
((ldO true 8 q15.2 q1.1).bind fun t16 => (some []).map (t16::·)).bind fun t17 => fin false σ q15.2 t17)
else (
bif n9 == 3 then (
(callO rec 51 (2::1::1::1::0::1::1::0::σ) [x0,(.p (.int .i64 6))] q6.2 (some 20)).bind fun q18 =>
(castI .i64 q18.1).bind fun n19 =>
(callO rec 33 (3::1::1::1::0::1::1::0::σ) [x0,(.p (.int .i64 n19))] q18.2 (some 21)).bind fun q20 =>
(fA q5.1 2).bind fun t21 =>
((stO true 1 (5::1::1::1::0::1::1::0::σ) q20.2 t21 q20.1).map fun h => (udf,h)).bind fun q22 =>
(ldO true 8 q22.2 q5.1).bind fun t23 =>
((stO false 8 (1::0::1::1::1::0::σ) q22.2 q1.1 t23).map fun h => (udf,h)).bind fun q24 =>
((ldO true 8 q24.2 q1.1).bind fun t25 => (some []).map (t25::·)).bind fun t26 => fin false σ q24.2 t26)
else (
bif n9 == 4 then (
(callO rec 51 (1::1::1::1::1::0::1::1::0::σ) [x0,(.p (.int .i64 6))] q6.2 (some 26)).bind fun q27 =>
(castI .i64 q27.1).bind fun n28 =>
(callO rec 51 (3::1::1::1::1::0::1::1::0::σ) [x0,(.p (.int .i64 1000))] q27.2 (some 28)).bind fun q29 =>
(castI .i64 q29.1).bind fun n30 =>
(callO rec 51 (6::1::1::1::1::0::1::1::0::σ) [x0,(.p (.int .i64 4))] q29.2 (some 31)).bind fun q31 =>
(castI .i64 q31.1).bind fun n32 =>
(fA q5.1 3).bind fun t33 =>
((stO true 1 (8::1::1::1::1::0::1::1::0::σ) q31.2 t33 (.p (.int .i64 n28))).map fun h => (udf,h)).bind fun q34 =>
(fA q5.1 4).bind fun t35 =>
((stO true 1 (10::1::1::1::1::0::1::1::0::σ) q34.2 t35 (.p (.int .i64 (IntKind.wrap .i64 (1 + n30))))).map fun h => (udf,h)).bind fun q36 =>
(fA q5.1 5).bind fun t37 =>
((stO true 1 (12::1::1::1::1::0::1::1::0::σ) q36.2 t37 (.p (.int .i64 n32))).map fun h => (udf,h)).bind fun q38 =>
(ldO true 8 q38.2 q5.1).bind fun t39 =>
((stO false 8 (1::0::1::1::1::0::σ) q38.2 q1.1 t39).map fun h => (udf,h)).bind fun q40 =>
((ldO true 8 q40.2 q1.1).bind fun t41 => (some []).map (t41::·)).bind fun t42 => fin false σ q40.2 t42)
else (
bif n9 == 5 then (
(callO rec 51 (1::1::1::1::1::1::0::1::1::0::σ) [x0,(.p (.int .i64 6))] q6.2 (some 38)).bind fun q43 =>
(castI .i64 q43.1).bind fun n44 =>
(fA q5.1 3).bind fun t45 =>
((stO true 1 (3::1::1::1::1::1::0::1::1::0::σ) q43.2 t45 (.p (.int .i64 n44))).map fun h => (udf,h)).bind fun q46 =>
(ldO true 8 q46.2 q5.1).bind fun t47 =>
((stO false 8 (1::0::1::1::1::0::σ) q46.2 q1.1 t47).map fun h => (udf,h)).bind fun q48 =>
((ldO true 8 q48.2 q1.1).bind fun t49 => (some []).map (t49::·)).bind fun t50 => fin false σ q48.2 t50)
else (
bif n9 == 6 then (
(callO rec 51 (1::1::1::1::1::1::1::0::1::1::0::σ) [x0,(.p (.int .i64 6))] q6.2 (some 43)).bind fun q51 =>
(castI .i64 q51.1).bind fun n52 =>
(callO rec 51 (3::1::1::1::1::1::1::0::1::1::0::σ) [x0,(.p (.int .i64 1000))] q51.2 (some 45)).bind fun q53 =>
(castI .i64 q53.1).bind fun n54 =>
(fA q5.1 3).bind fun t55 =>
((stO true 1 (6::1::1::1::1::1::1::0::1::1::0::σ) q53.2 t55 (.p (.int .i64 n52))).map fun h => (udf,h)).bind fun q56 =>
(fA q5.1 4).bind fun t57 =>
((stO true 1 (8::1::1::1::1::1::1::0::1::1::0::σ) q56.2 t57 (.p (.int .i64 (IntKind.wrap .i64 (1 + n54))))).map fun h => (udf,h)).bind fun q58 =>
(ldO true 8 q58.2 q5.1).bind fun t59 =>
((stO false 8 (1::0::1::1::1::0::σ) q58.2 q1.1 t59).map fun h => (udf,h)).bind fun q60 =>
((ldO true 8 q60.2 q1.1).bind fun t61 => (some []).map (t61::·)).bind fun t62 => fin false σ q60.2 t62)
else (
bif n9 == 7 then (
(callO rec 51 (1::1::1::1::1::1::1::1::0::1::1::0::σ) [x0,(.p (.int .i64 6))] q6.2 (some 52)).bind fun q63 =>
(castI .i64 q63.1).bind fun n64 =>
(callO rec 51 (3::1::1::1::1::1::1::1::0::1::1::0::σ) [x0,(.p (.int .i64 4))] q63.2 (some 54)).bind fun q65 =>
(castI .i64 q65.1).bind fun n66 =>
(fA q5.1 3).bind fun t67 =>
((stO true 1 (5::1::1::1::1::1::1::1::0::1::1::0::σ) q65.2 t67 (.p (.int .i64 n64))).map fun h => (udf,h)).bind fun q68 =>
(fA q5.1 5).bind fun t69 =>
((stO true 1 (7::1::1::1::1::1::1::1::0::1::1::0::σ) q68.2 t69 (.p (.int .i64 n66))).map fun h => (udf,h)).bind fun q70 =>
(ldO true 8 q70.2 q5.1).bind fun t71 =>
((stO false 8 (1::0::1::1::1::0::σ) q70.2 q1.1 t71).map fun h => (udf,h)).bind fun q72 =>
((ldO true 8 q72.2 q1.1).bind fun t73 => (some []).map (t73::·)).bind fun t74 => fin false σ q72.2 t74)
else (
bif n9 == 8 then (
bif n9 == 8 then (
(callO rec 51 (1::1::1::1::1::1::1::1::1::0::1::1::0::σ) [x0,(.p (.int .i64 3))] q6.2 (some 61)).bind fun q75 =>
(castI .i64 q75.1).bind fun n76 =>
(fA q5.1 6).bind fun t77 =>
((stO true 1 (3::1::1::1::1::1::1::1::1::0::1::1::0::σ) q75.2 t77 (.p (.int .i64 n76))).map fun h => (udf,h)).bind fun q78 =>
(ldO true 8 q78.2 q5.1).bind fun t79 =>
((stO false 8 (1::0::1::1::1::0::σ) q78.2 q1.1 t79).map fun h => (udf,h)).bind fun q80 =>
((ldO true 8 q80.2 q1.1).bind fun t81 => (some []).map (t81::·)).bind fun t82 => fin false σ q80.2 t82)
else (
bif n9 == 10 then (
(callO rec 51 (1::1::1::1::1::1::1::1::1::1::0::1::1::0::σ) [x0,(.p (.int .i64 256))] q6.2 (some 66)).bind fun q83 =>
(castI .i64 q83.1).bind fun n84 =>
(fA q5.1 7).bind fun t85 =>
((stO true 1 (3::1::1::1::1::1::1::1::1::1::0::1::1::0::σ) q83.2 t85 (.p (.int .i64 n84))).map fun h => (udf,h)).bind fun q86 =>
(ldO true 8 q86.2 q5.1).bind fun t87 =>
((stO false 8 (1::0::1::1::1::0::σ) q86.2 q1.1 t87).map fun h => (udf,h)).bind fun q88 =>
((ldO true 8 q88.2 q1.1).bind fun t89 => (some []).map (t89::·)).bind fun t90 => fin false σ q88.2 t90)
else (
(ldO true 8 q6.2 q5.1).bind fun t91 =>
((stO false 8 (1::0::1::1::1::0::σ) q6.2 q1.1 t91).map fun h => (udf,h)).bind fun q92 =>
((ldO true 8 q92.2 q1.1).bind fun t93 => (some []).map (t93::·)).bind fun t94 => fin false σ q92.2 t94)))
else (
bif n9 == 9 then (
(callO rec 51 (1::1::1::1::1::1::1::1::1::0::1::1::0::σ) [x0,(.p (.int .i64 3))] q6.2 (some 61)).bind fun q95 =>
(castI .i64 q95.1).bind fun n96 =>
(fA q5.1 6).bind fun t97 =>
((stO true 1 (3::1::1::1::1::1::1::1::1::0::1::1::0::σ) q95.2 t97 (.p (.int .i64 n96))).map fun h => (udf,h)).bind fun q98 =>
(ldO true 8 q98.2 q5.1).bind fun t99 =>
((stO false 8 (1::0::1::1::1::0::σ) q98.2 q1.1 t99).map fun h => (udf,h)).bind fun q100 =>
((ldO true 8 q100.2 q1.1).bind fun t101 => (some []).map (t101::·)).bind fun t102 => fin false σ q100.2 t102)
else (
bif n9 == 10 then (
(callO rec 51 (1::1::1::1::1::1::1::1::1::1::0::1::1::0::σ) [x0,(.p (.int .i64 256))] q6.2 (some 66)).bind fun q103 =>
(castI .i64 q103.1).bind fun n104 =>
(fA q5.1 7).bind fun t105 =>
((stO true 1 (3::1::1::1::1::1::1::1::1::1::0::1::1::0::σ) q103.2 t105 (.p (.int .i64 n104))).map fun h => (udf,h)).bind fun q106 =>
(ldO true 8 q106.2 q5.1).bind fun t107 =>
((stO false 8 (1::0::1::1::1::0::σ) q106.2 q1.1 t107).map fun h => (udf,h)).bind fun q108 =>
((ldO true 8 q108.2 q1.1).bind fun t109 => (some []).map (t109::·)).bind fun t110 => fin false σ q108.2 t110)
else (
(ldO true 8 q6.2 q5.1).bind fun t111 =>
((stO false 8 (1::0::1::1::1::0::σ) q6.2 q1.1 t111).map fun h => (udf,h)).bind fun q112 =>
((ldO true 8 q112.2 q1.1).bind fun t113 => (some []).map (t113::·)).bind fun t114 => fin false σ q112.2 t114))))))))):=by kernel_rfl
end
end Go.Ev
