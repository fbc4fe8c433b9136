/- A part of the proof that follows: Chapter 6's runs: reports of sixty tapes, each thing of them turned; bytes cut off, each byte turned; reports of each type and count. -/
import Derived.Test.YtocbjhoaamkonaaMRtcpNumbers1
import Derived.Test.YtocbjhoaamkonaaRows
import Derived.ProofKit
namespace Go.Ev
set_option linter.unusedVariables false
set_option linter.unusedSimpArgs false
section
variable {h : H} {l : Loc} {off j : Nat} {cs : List C}
theorem AtC.rng (ha : AtC h l off cs) {n : Nat} (hj : j + n ≤ cs.length) : ∃ all,nd h l = some all∧Go.Ev.rng all (off + j) n = some ((cs.drop j).take n):=by
  obtain ⟨p,q,hn,hp⟩:=ha
  refine ⟨_,hn,?_⟩
  unfold Go.Ev.rng
  rw [if_pos (by simp; omega)]
  congr 1
  rw [← List.drop_drop,List.append_assoc,← hp,List.drop_left,List.drop_append_of_le_length (by omega),List.take_append_of_le_length (by rw [List.length_drop]; omega)]
theorem AtC.ldAgg (ha : AtC h l off cs) {n : Nat} {agg : Bool} {xs : List V} (hj : j + n ≤ cs.length) (hx : toVs l (off + j) ((cs.drop j).take n) = some xs) : ldO agg n h (.ref l (off + j)) = mkV agg xs:=by
  obtain ⟨all,h1,h2⟩:=ha.rng hj
  simp only [ldO,h1,h2,Option.bind_some,hx]
theorem drop_one {α : Type} {cs : List α} {j : Nat} {c : α} (hj : cs[j]? = some c) : (cs.drop j).take 1 = [c]:=by
  obtain ⟨hlt,he⟩:=List.getElem?_eq_some_iff.1 hj
  rw [List.drop_eq_getElem_cons hlt,he]; rfl
theorem AtC.ldC (ha : AtC h l off cs) {c : C} {x : V} (hj : cs[j]? = some c) (hx : toV l (off + j) c = some x) : ldO false 1 h (.ref l (off + j)) = some x:=by
  have hlt:=(List.getElem?_eq_some_iff.1 hj).1
  rw [ha.ldAgg (xs:=[x]) (by omega) (by rw [drop_one hj]; simp [toVs,hx])]
  rfl
theorem AtC.ld (ha : AtC h l off cs) {x : V} (hj : cs[j]? = some (.v x)) : ldO false 1 h (.ref l (off + j)) = some x:=ha.ldC hj rfl
theorem AtC.ldVs (ha : AtC h l off cs) {xs : List V} {n : Nat} (hn : xs.length = n) (hj : (cs.drop j).take n = xs.map .v) (hp : 0 < n) : ldO true n h (.ref l (off + j)) = some (.agg xs):=by
  have : j + n ≤ cs.length:=by
    have:=congrArg List.length hj
    rw [List.length_take,List.length_drop,List.length_map,hn] at this
    omega
  rw [ha.ldAgg (xs:=xs) this (by rw [hj,toVs_plain])]
  rfl
theorem AtC.st (ha : AtC h l off cs) {own : Bool} {σ : Stamp} {x : V} (hx : Still x) (hj : j < cs.length) : stO own 1 σ h (.ref l (off + j)) x = some (ptC h l off (cs.set j (.v x))):=by
  obtain ⟨p,q,hn,hp⟩:=ha
  rw [stO_still hx hn (by simp; omega),ptC_eq hn hp (by simp)]
  congr 2
  rw [List.append_assoc,List.set_append_right _ _ (by omega),List.set_append_left _ _ (by omega),← List.append_assoc]
  congr 3
  omega
theorem AtC.stVs (ha : AtC h l off cs) {own : Bool} {σ : Stamp} {xs : List V} {n : Nat} (hx : Stills xs) (hn : xs.length = n) (hj : j + n ≤ cs.length) : stO own n σ h (.ref l (off + j)) (.agg xs) = some (ptC h l off (cs.take j ++ xs.map .v ++ cs.drop (j + n))):=by
  subst hn
  obtain ⟨p,q,hn,hp⟩:=ha
  rw [stO_agg hx hn (by simp; omega),ptC_eq hn hp (by simp; omega)]
  congr 2
  rw [List.append_assoc p,List.take_append,List.take_of_length_le (l:=p) (by omega),List.drop_append,List.drop_of_length_le (l:=p) (by omega),List.nil_append,hp,Nat.add_sub_cancel_left,Nat.add_assoc,Nat.add_sub_cancel_left,List.take_append_of_le_length (by omega),List.drop_append_of_le_length (by omega)]
  simp
theorem AtC.hop (ha : AtC h l off cs) {c : C} {s : Stamp} {ds : List C} (hj : cs[j]? = some c) (hd : c.node s = some ds) : AtC h (l.hop (off + j) s) 0 ds:=by
  obtain ⟨p,q,hn,hp⟩:=ha
  have hlt:=(List.getElem?_eq_some_iff.1 hj).1
  refine ⟨[],[],?_,rfl⟩
  rw [nd_in hn (c:=c) (ds:=ds) _ hd]
  · simp
  · rw [List.append_assoc,List.getElem?_append_right (by omega),show off + j - p.length = j by omega,List.getElem?_append_left hlt,hj]
end

section
variable {α : Type} {h : H} {d : Dt α} {xs : List α} {v : V}
structure El (h : H) (v : V) (o : Nat) (ws : List V) : Prop where
  ld : ∀ {j y},ws[j]? = some y→ldO false 1 h (adr v (o + j)) = some y
  fa : ∀ {j},j ≤ ws.length→fA (adr v o) j = some (adr v (o + j))
  all : 0 < ws.length→ldO true ws.length h (adr v o) = some (.agg ws)
  ldn : ∀ {j n},0 < n→j + n ≤ ws.length→ldO true n h (adr v (o + j)) = some (.agg ((ws.drop j).take n))
theorem SlH.len (hv : SlH h d xs v) : lenO v = some (.p (.int .i64 xs.length)):=by obtain ⟨cs,h1,h2⟩:=hv; exact h1.lenO
theorem SlH.iS (hv : SlH h d xs v) {i : Int} {x : α} (hx : ix xs i = some x) {e : Nat} (he : d.sz = e) : Go.Ev.iS e v i = some (adr v (i.toNat * e)):=by
  subst he
  obtain ⟨cs,h1,h2⟩:=hv
  obtain ⟨h0,hi,_⟩:=ix_some hx
  exact h1.iS h0 (by omega)
theorem SlH.el (hv : SlH h d xs v) {i : Int} {x : α} (hx : ix xs i = some x) {e : Nat} (he : d.sz = e) : ∃ ws,d.R x ws∧El h v (i.toNat * e) ws:=by
  subst he
  obtain ⟨cs,h1,h2⟩:=hv
  obtain ⟨h0,hi,rfl⟩:=ix_some hx
  obtain ⟨ws,hR,hw⟩:=RL.get (fun h => d.len h) h2 hi
  have hl:=d.len hR
  have hc:=h1.clen
  have hle : i.toNat * d.sz + d.sz ≤ cs.length:=by
    have:=Nat.mul_le_mul_right d.sz (Nat.succ_le_of_lt hi)
    rw [Nat.succ_mul] at this; omega
  refine ⟨ws,hR,⟨fun {j y} hj => ?_,fun {j} hj => ?_,fun hp => ?_,fun {j n} hp hj => ?_⟩⟩
  · have hjl:=(List.getElem?_eq_some_iff.1 hj).1
    refine h1.ld1 ?_
    rw [← hw,List.getElem?_take_of_lt (by omega),List.getElem?_drop] at hj
    exact hj
  · by_cases hz : d.sz = 0
    · have : j = 0:=by omega
      subst this
      rcases h1.cases with ⟨rfl,h3,rfl⟩ | ⟨t,rfl⟩ | ⟨l,off,av,ds,rfl,hn,hl,hv,hav⟩
      · omega
      · simp [adr,fA]
      · simp [adr,fA]
    · exact h1.fA (Nat.mul_pos (by omega) (by omega)) (by omega)
  · rw [hl] at hp ⊢
    rw [h1.ld hle hp,hw]; rfl
  · rw [h1.ld (by omega) hp,← hw,List.drop_take,List.take_take,Nat.min_eq_left (by omega),List.drop_drop]; rfl
theorem SlH.sub (hv : SlH h d xs v) {a b : Int} {ys : List α} (hs : Ev.sub xs a b = some ys) {e : Nat} (he : d.sz = e) : SlH h d ys (subV e v a.toNat b.toNat):=by
  subst he
  obtain ⟨cs,h1,h2⟩:=hv
  obtain ⟨⟨q0,q1,q2⟩,rfl⟩:=sub_some hs
  have e1 : (b - a).toNat = b.toNat - a.toNat:=by omega
  refine ⟨_,?_,(RL.take (fun h => d.len h) (b - a).toNat (RL.drop (fun h => d.len h) a.toNat h2))⟩
  rw [e1]
  have:=h1.sub (a:=a.toNat) (b:=b.toNat) (by omega) (by omega)
  rwa [List.length_take,List.length_drop,Nat.min_eq_left (by omega)]
theorem SlF.sub (hv : SlF d xs v) {a b : Int} {ys : List α} (hs : Ev.sub xs a b = some ys) {e : Nat} (he : d.sz = e) : SlF d ys (subV e v a.toNat b.toNat):=by
  subst he
  obtain ⟨cs,h1,h2⟩:=hv
  obtain ⟨⟨q0,q1,q2⟩,rfl⟩:=sub_some hs
  have e1 : (b - a).toNat = b.toNat - a.toNat:=by omega
  refine ⟨_,?_,(RL.take (fun h => d.len h) (b - a).toNat (RL.drop (fun h => d.len h) a.toNat h2))⟩
  rw [e1]
  intro h
  have:=(h1 h).sub (a:=a.toNat) (b:=b.toNat) (by omega) (by omega)
  rwa [List.length_take,List.length_drop,Nat.min_eq_left (by omega)]
theorem SlH.slS (hv : SlH h d xs v) {a b : Int} {ys : List α} (hs : Ev.sub xs a b = some ys) {lo hi : Option Int} (ha : lo.getD 0 = a) (hb : hi.getD xs.length = b) {e : Nat} (he : d.sz = e) : Go.Ev.slS e v lo hi none = some (subV e v a.toNat b.toNat):=by
  subst he
  obtain ⟨cs,h1,h2⟩:=hv
  obtain ⟨⟨q0,q1,q2⟩,rfl⟩:=sub_some hs
  exact h1.slS ha hb q0 q1 q2
theorem SlF.nil (d : Dt α) : SlF d [] (.p (.slice none 0 0)):=⟨[],.nil _,rfl⟩
theorem SlF.lit {cs : List V} {n : Nat} (hl : d.L xs cs) (hn : xs.length = n) {e : Nat} (he : d.sz = e) (t : Bool) : SlF d xs (.fz cs n e t):=by
  subst hn; subst he
  exact ⟨cs,.fz (RL.length (fun h => d.len h) hl) t,hl⟩
end

structure Gw where
  {α : Type}
  D : List Nat
  v : V
  d : Dt α
  xs : List α
def Gw.ok (g : Gw) (L : Layer) (n0 : Nat) : Prop:=∃ cs,g.d.L g.xs cs∧GrowS g.D L n0 g.v g.d.sz g.xs.length cs
def freeG (Γ : List (Nat × Stamp × List C)) (d : Nat) : Bool:=Γ.all fun e => e.1 != d
def freeD (Δ : List Gw) (d : Nat) : Bool:=Δ.all fun g => !g.D.contains d
def freeL (D : List Nat) (Γ : List (Nat × Stamp × List C)) (Δ : List Gw) : Bool:=D.all fun d => freeG Γ d && freeD Δ d
def Fm (N : Nat) (h0 : H) (B : List Rt) (Γ : List (Nat × Stamp × List C)) (Δ : List Gw) (Hp : H) : Prop :=
  ∃ L,Hp = L::pts h0 B∧L.length = N∧BOk h0 B∧(∀ e ∈ Γ,L[e.1]? = some [.own e.2.1 e.2.2])∧(∀ g ∈ Δ,g.ok L h0.length)
section
variable {N : Nat} {h0 Hp : H} {B : List Rt} {Γ Γ' : List (Nat × Stamp × List C)} {Δ Δ' : List Gw}
theorem Fm.start (hB : BOk h0 B) (hs : ∀ r ∈ B,AtC h0 r.l r.off r.cs) : Fm N h0 B [] [] (List.replicate N []::h0) :=
  ⟨List.replicate N [],by rw [BOk.same hs],List.length_replicate,hB,by simp,by simp⟩
theorem Fm.start0 : Fm N h0 [] [] [] (List.replicate N []::h0):=Fm.start trivial (by simp)
theorem Fm.wk (S : Fm N h0 B Γ Δ Hp) (hG : ∀ e ∈ Γ',e ∈ Γ) (hD : ∀ g ∈ Δ',g ∈ Δ) : Fm N h0 B Γ' Δ' Hp:=by
  obtain ⟨L,h1,h2,h3,h4,h5⟩:=S
  exact ⟨L,h1,h2,h3,fun e he => h4 e (hG e he),fun g hg => h5 g (hD g hg)⟩
theorem Fm.len (S : Fm N h0 B Γ Δ Hp) : Hp.length = h0.length + 1:=by
  obtain ⟨L,rfl,_⟩:=S; simp [pts_length]
theorem Fm.nil (S : Fm N h0 B Γ Δ Hp) {α : Type} (d : Dt α) (D : List Nat) : Fm N h0 B Γ (⟨D,.p (.slice none 0 0),d,[]⟩::Δ) Hp:=by
  obtain ⟨L,h1,h2,h3,h4,h5⟩:=S
  refine ⟨L,h1,h2,h3,h4,fun g hg => ?_⟩
  rcases List.mem_cons.1 hg with rfl | hg
  · exact ⟨[],rfl,.inl ⟨rfl,rfl,.inl rfl⟩⟩
  · exact h5 g hg
theorem Fm.nil' (S : Fm N h0 B Γ Δ Hp) {α : Type} (d : Dt α) (D : List Nat) {e : Nat} (he : d.sz = e) : Fm N h0 B Γ (⟨D,.fz [] 0 e true,d,[]⟩::Δ) Hp:=by
  subst he
  obtain ⟨L,h1,h2,h3,h4,h5⟩:=S
  refine ⟨L,h1,h2,h3,h4,fun g hg => ?_⟩
  rcases List.mem_cons.1 hg with rfl | hg
  · exact ⟨[],rfl,.inl ⟨rfl,rfl,.inr rfl⟩⟩
  · exact h5 g hg
theorem Fm.lit (S : Fm N h0 B Γ Δ Hp) {α : Type} {d : Dt α} {xs : List α} {cs : List V} {n e m : Nat} (hl : d.L xs cs) (he : d.sz = e) (hn : xs.length = n) (hm : 1000000 ≤ m) : Fm N h0 B Γ (⟨[m],.fz cs n e true,d,xs⟩::Δ) Hp:=by
  subst he; subst hn
  obtain ⟨L,h1,h2,h3,h4,h5⟩:=S
  refine ⟨L,h1,h2,h3,h4,fun g hg => ?_⟩
  rcases List.mem_cons.1 hg with rfl | hg
  · exact ⟨cs,hl,.inr (.inr ⟨rfl,RL.length (fun h => d.len h) hl,RL.stills hl,m,List.mem_singleton.2 rfl,hm⟩)⟩
  · exact h5 g hg
theorem Fm.sl (S : Fm N h0 B Γ Δ Hp) {i : Nat} {g : Gw} (hi : Δ[i]? = some g) : SlH Hp g.d g.xs g.v:=by
  obtain ⟨L,rfl,h2,h3,h4,h5⟩:=S
  obtain ⟨cs,q1,q2⟩:=h5 g (List.mem_of_getElem? hi)
  rw [← pts_length B] at q2
  exact ⟨cs,q2.sl,q1⟩
theorem Fm.low (S : Fm N h0 [] Γ Δ Hp) {α : Type} {d : Dt α} {xs : List α} {v : V} (hv : SlH h0 d xs v) : SlH Hp d xs v:=by
  obtain ⟨L,rfl,_⟩:=S
  obtain ⟨cs,q1,q2⟩:=hv
  exact ⟨cs,q1.up L,q2⟩
theorem Fm.atG (S : Fm N h0 B Γ Δ Hp) {i d : Nat} {s : Stamp} {cs : List C} (hi : Γ[i]? = some (d,s,cs)) : AtC Hp ⟨h0.length,d,0,s,[]⟩ 0 cs:=by
  obtain ⟨L,rfl,h2,h3,h4,h5⟩:=S
  have:=h4 _ (List.mem_of_getElem? hi)
  refine ⟨[],[],?_,rfl⟩
  rw [← pts_length B,nd_own this]; simp
theorem mem_set.{u} {α : Type u} {xs : List α} {i : Nat} {x y : α} (h : y ∈ xs.set i x) (hi : i < xs.length) : y = x ∨ y ∈ xs.eraseIdx i:=by
  obtain ⟨j,hj⟩:=List.mem_iff_getElem?.1 h
  rw [List.getElem?_set] at hj
  split at hj
  · rename_i hij; subst hij
    first
      | exact .inl (Option.some.inj hj).symm
      | (rw [if_pos hi] at hj; exact .inl (Option.some.inj hj).symm)
  · rename_i hij
    exact .inr (List.mem_eraseIdx_iff_getElem?.2 ⟨j,Ne.symm hij,hj⟩)
theorem mem_erase.{u} {α : Type u} {xs : List α} {i : Nat} {y : α} (h : y ∈ xs.eraseIdx i) : y ∈ xs:=by
  obtain ⟨j,_,hj⟩:=List.mem_eraseIdx_iff_getElem?.1 h
  exact List.mem_of_getElem? hj
theorem freeG_ne {d : Nat} (h : freeG Γ d = true) {e : Nat × Stamp × List C} (he : e ∈ Γ) : e.1 ≠ d:=by
  have:=List.all_eq_true.1 h e he
  simpa using this
theorem freeD_ne {d : Nat} (h : freeD Δ d = true) {g : Gw} (hg : g ∈ Δ) : d ∉ g.D:=by
  have:=List.all_eq_true.1 h g hg
  simpa using this
theorem Gw.ok.frame {g : Gw} {L L' : Layer} {n0 : Nat} (h : g.ok L n0) (hL : ∀ d ∈ g.D,L'[d]? = L[d]?) : g.ok L' n0:=by
  obtain ⟨cs,q1,q2⟩:=h
  exact ⟨cs,q1,q2.frame hL⟩
theorem Fm.setG (S : Fm N h0 B Γ Δ Hp) {i d : Nat} {s : Stamp} {cs cs' : List C} (hi : Γ[i]? = some (d,s,cs)) (hf : (freeG (Γ.eraseIdx i) d && freeD Δ d) = true) (hc : cs'.length = cs.length) : Fm N h0 B (Γ.set i (d,s,cs')) Δ (ptC Hp ⟨h0.length,d,0,s,[]⟩ 0 cs'):=by
  obtain ⟨L,rfl,h2,h3,h4,h5⟩:=S
  have hL:=h4 _ (List.mem_of_getElem? hi)
  have hlt:=(List.getElem?_eq_some_iff.1 hi).1
  have hdl:=(List.getElem?_eq_some_iff.1 hL).1
  simp only [Bool.and_eq_true] at hf
  refine ⟨L.set d [.own s cs'],?_,by simpa using h2,h3,fun e he => ?_,fun g hg => ?_⟩
  · have hn:=nd_own (h:=pts h0 B) hL
    rw [← pts_length B]
    rw [ptC_eq (off:=0) (p:=[]) (q:=[]) (cs:=cs) (by rw [hn]; simp) rfl hc,setNd_own hL]
    simp
  · rcases mem_set he hlt with rfl | he
    · simp only; rw [List.getElem?_set_self hdl]
    · rw [List.getElem?_set_ne (Ne.symm (freeG_ne hf.1 he))]; exact h4 e (mem_erase he)
  · exact (h5 g hg).frame fun x hx => by rw [List.getElem?_set_ne (fun e => freeD_ne hf.2 hg (by rw [e]; exact hx))]
theorem Fm.atB (S : Fm N h0 B Γ Δ Hp) {i : Nat} {r : Rt} (hi : B[i]? = some r) : AtC Hp r.l r.off r.cs:=by
  obtain ⟨L,rfl,h2,h3,h4,h5⟩:=S
  exact (h3.at hi).up L
theorem Fm.setB (S : Fm N h0 B Γ Δ Hp) {i : Nat} {r : Rt} {cs : List C} (hi : B[i]? = some r) (hc : cs.length = r.cs.length) : Fm N h0 (B.set i ⟨r.l,r.off,cs⟩) Γ Δ (ptC Hp r.l r.off cs):=by
  obtain ⟨L,rfl,h2,h3,h4,h5⟩:=S
  exact ⟨L,by rw [(h3.at hi).put_up L hc,h3.pt hi hc],h2,h3.set hi hc,h4,h5⟩
theorem Fm.stG (S : Fm N h0 B Γ Δ Hp) {i d j : Nat} {s σ : Stamp} {own : Bool} {x : V} {cs : List C} (hi : Γ[i]? = some (d,s,cs)) (hf : (freeG (Γ.eraseIdx i) d && freeD Δ d) = true) (hx : Still x) (hj : (cs[j]?).isSome = true) :
    ∃ H',stO own 1 σ Hp (.ref ⟨h0.length,d,0,s,[]⟩ j) x = some H'∧Fm N h0 B (Γ.set i (d,s,cs.set j (.v x))) Δ H':=by
  have hlt : j < cs.length:=by
    obtain ⟨y,hy⟩:=Option.isSome_iff_exists.1 hj
    exact (List.getElem?_eq_some_iff.1 hy).1
  have e:=(S.atG hi).st (own:=own) (σ:=σ) hx hlt
  rw [Nat.zero_add] at e
  exact ⟨_,e,S.setG hi hf (by simp)⟩
theorem Fm.stGv (S : Fm N h0 B Γ Δ Hp) {i d j n : Nat} {s σ : Stamp} {own : Bool} {xs : List V} {cs : List C} (hi : Γ[i]? = some (d,s,cs)) (hf : (freeG (Γ.eraseIdx i) d && freeD Δ d) = true) (hx : Stills xs) (hn : xs.length = n) (hj : decide (j + n ≤ cs.length) = true) :
    ∃ H',stO own n σ Hp (.ref ⟨h0.length,d,0,s,[]⟩ j) (.agg xs) = some H'∧Fm N h0 B (Γ.set i (d,s,cs.take j ++ xs.map .v ++ cs.drop (j + n))) Δ H':=by
  have hj:=of_decide_eq_true hj
  have e:=(S.atG hi).stVs (own:=own) (σ:=σ) hx hn hj
  rw [Nat.zero_add] at e
  exact ⟨_,e,S.setG hi hf (by simp; omega)⟩
theorem Fm.stB (S : Fm N h0 B Γ Δ Hp) {i off j : Nat} {l : Loc} {σ : Stamp} {own : Bool} {x : V} {cs : List C} (hi : B[i]? = some ⟨l,off,cs⟩) (hx : Still x) (hj : (cs[j]?).isSome = true) :
    ∃ H',stO own 1 σ Hp (.ref l (off + j)) x = some H'∧Fm N h0 (B.set i ⟨l,off,cs.set j (.v x)⟩) Γ Δ H':=by
  have hlt : j < cs.length:=by
    obtain ⟨y,hy⟩:=Option.isSome_iff_exists.1 hj
    exact (List.getElem?_eq_some_iff.1 hy).1
  exact ⟨_,(S.atB hi).st (own:=own) (σ:=σ) hx hlt,S.setB hi (by simp)⟩
theorem Fm.add (S : Fm N h0 B Γ Δ Hp) {d : Nat} {s : Stamp} {cs : List C} (hd : d < N) (hf : (freeG Γ d && freeD Δ d) = true) : Fm N h0 B ((d,s,cs)::Γ) Δ (setSlot Hp d [.own s cs]):=by
  obtain ⟨L,rfl,h2,h3,h4,h5⟩:=S
  simp only [Bool.and_eq_true] at hf
  refine ⟨L.set d [.own s cs],rfl,by simpa using h2,h3,fun e he => ?_,fun g hg => ?_⟩
  · rcases List.mem_cons.1 he with rfl | he
    · simp only; rw [List.getElem?_set_self (by omega)]
    · rw [List.getElem?_set_ne (Ne.symm (freeG_ne hf.1 he))]; exact h4 e he
  · exact (h5 g hg).frame fun x hx => by rw [List.getElem?_set_ne (fun e => freeD_ne hf.2 hg (by rw [e]; exact hx))]
theorem Fm.newLoc (S : Fm N h0 B Γ Δ Hp) (d : Nat) (s : Stamp) : Ev.newLoc Hp d s = ⟨h0.length,d,0,s,[]⟩:=by
  obtain ⟨L,rfl,_⟩:=S; rw [newLoc_cons,pts_length]
theorem Fm.al (S : Fm N h0 B Γ Δ Hp) {d : Nat} {s : Stamp} {z : List V} (hd : d < N) (hf : (freeG Γ d && freeD Δ d) = true) : ∃ H',alO z s d Hp = (.ref ⟨h0.length,d,0,s,[]⟩ 0,H')∧Fm N h0 B ((d,s,z.map .v)::Γ) Δ H' :=
  ⟨_,by rw [alO,S.newLoc],S.add hd hf⟩
theorem Fm.box (S : Fm N h0 B Γ Δ Hp) {d : Nat} {s : Stamp} {own : Bool} {xs : List V} (hx : Stills xs) (hd : d < N) (hf : (freeG Γ d && freeD Δ d) = true) : ∃ H',boxO own s d Hp (.agg xs) = some (.ref ⟨h0.length,d,0,s,[]⟩ 0,H')∧Fm N h0 B ((d,s,xs.map .v)::Γ) Δ H' :=
  ⟨_,by unfold boxO; rw [show (V.agg xs).cells = xs from rfl,layCs_still own _ hx]; simp only [Option.bind_some]; rw [S.newLoc],S.add hd hf⟩
theorem Fm.slot (S : Fm N h0 B Γ Δ Hp) {i d : Nat} {s : Stamp} {cs : List C} (hi : Γ[i]? = some (d,s,cs)) : slotOf Hp d = some [.own s cs]:=by
  obtain ⟨L,rfl,h2,h3,h4,h5⟩:=S
  exact h4 _ (List.mem_of_getElem? hi)

def YsH {α : Type} (h : H) (d : Dt α) (ys : List α) (y : V) : Prop:=∃ cs,Ys h y d.sz ys.length cs∧d.L ys cs
theorem SlH.y {α : Type} {h : H} {d : Dt α} {ys : List α} {y : V} (hy : SlH h d ys y) : YsH h d ys y:=by
  obtain ⟨cs,h1,h2⟩:=hy; exact ⟨cs,h1.ys,h2⟩
theorem Fm.app (S : Fm N h0 B Γ Δ Hp) {i d b e : Nat} {g : Gw} {own : Bool} {σ : Stamp} {y : V} {ys zs : List g.α} (hi : Δ[i]? = some g) (hy : YsH Hp g.d ys y) (hz : ap b g.xs ys = some zs) (he : g.d.sz = e) (hk : e ≠ 0) (hd : d < N) (hf : freeL (d::g.D) Γ (Δ.eraseIdx i) = true) :
    ∃ v H',apO own e b σ d Hp g.v y = some (v,H')∧Fm N h0 B Γ (Δ.set i ⟨d::g.D,v,g.d,zs⟩) H':=by
  subst he
  obtain ⟨⟨hb1,hb2⟩,rfl⟩:=ap_some hz
  obtain ⟨L,rfl,h2,h3,h4,h5⟩:=S
  obtain ⟨cs,q1,q2⟩:=h5 g (List.mem_of_getElem? hi)
  obtain ⟨ds,r1,r2⟩:=hy
  rw [← pts_length B] at q2
  have hlt:=(List.getElem?_eq_some_iff.1 hi).1
  obtain ⟨v',L',e1,e2,e3,e4⟩:=q2.app (own:=own) (σ:=σ) (d:=d) (by omega) r1 (RL.stills r2) hk hb1 hb2
  have hfr:=List.all_eq_true.1 hf
  have nG : ∀ e ∈ Γ,e.1 ∉ d::g.D:=fun e he hm => by
    have:=hfr _ hm
    simp only [Bool.and_eq_true] at this
    exact freeG_ne this.1 he rfl
  have nD : ∀ g' ∈ Δ.eraseIdx i,∀ x ∈ g'.D,x ∉ d::g.D:=fun g' hg' x hx hm => by
    have:=hfr _ hm
    simp only [Bool.and_eq_true] at this
    exact freeD_ne this.2 hg' hx
  refine ⟨v',_,e1,L',rfl,by omega,h3,fun e he => by rw [e4 _ (nG e he)]; exact h4 e he,fun g' hg' => ?_⟩
  rcases mem_set hg' hlt with rfl | hg'
  · refine ⟨cs ++ ds,q1.append r2,?_⟩
    rw [← pts_length B,List.length_append]
    exact e2
  · exact (h5 g' (mem_erase hg')).frame fun x hx => e4 x (nD g' hg' x hx)
theorem Fm.setD (S : Fm N h0 B Γ Δ Hp) {i e : Nat} {g : Gw} {own : Bool} {σ : Stamp} {k : Int} {x : g.α} {xv : V} {zs : List g.α} (hi : Δ[i]? = some g) (hz : stx g.xs k x = some zs) (he : g.d.sz = 1) (hx : g.d.R x [xv]) (hD : noLit g.D = true) (hf : freeL g.D Γ (Δ.eraseIdx i) = true) :
    ∃ H',stO own 1 σ Hp (adr g.v (k.toNat * 1)) xv = some H'∧Fm N h0 B Γ (Δ.set i ⟨g.D,g.v,g.d,zs⟩) H':=by
  obtain ⟨⟨hk0,hk1⟩,rfl⟩:=stx_some hz
  obtain ⟨L,rfl,h2,h3,h4,h5⟩:=S
  obtain ⟨cs,q1,q2⟩:=h5 g (List.mem_of_getElem? hi)
  rw [← pts_length B] at q2
  have hlt:=(List.getElem?_eq_some_iff.1 hi).1
  have hcl:=RL.length (fun h => g.d.len h) q1
  rw [he,Nat.mul_one] at hcl
  have hs : Still xv:=g.d.still hx xv (List.mem_cons_self ..)
  obtain ⟨L',e1,e2,e3,e4⟩:=q2.set hD (own:=own) (σ:=σ) (j:=k.toNat * 1) (x:=xv) (by omega) hs
  have hfr:=List.all_eq_true.1 hf
  refine ⟨_,e1,L',rfl,by omega,h3,fun e he => by
    rw [e4 _ fun hm => ?_]
    · exact h4 e he
    · have:=hfr _ hm
      simp only [Bool.and_eq_true] at this
      exact freeG_ne this.1 he rfl,fun g' hg' => ?_⟩
  rcases mem_set hg' hlt with rfl | hg'
  · refine ⟨_,?_,by rw [← pts_length B]; simpa using e2⟩
    have:=q1.set (k:=1) (fun h => by rw [g.d.len h,he]) (i:=k.toNat) (y:=x) (by omega) hx
    rw [Nat.mul_one] at this
    rw [set_take_drop cs _ _ (by omega)] at this
    exact this
  · exact (h5 g' (mem_erase hg')).frame fun x hx => e4 x fun hm => by
      have:=hfr _ hm
      simp only [Bool.and_eq_true] at this
      exact freeD_ne this.2 hg' hx
theorem Fm.mk (S : Fm N h0 B Γ Δ Hp) {α : Type} {dt : Dt α} {d b e : Nat} {z : α} {zv : List V} {n : Int} {σ : Stamp} {zs : List α} (hz : Ev.mk b z n = some zs) (hR : dt.R z zv) (he : dt.sz = e) (hk : e ≠ 0) (hd : d < N) (hf : (freeG Γ d && freeD Δ d) = true) :
    ∃ v H',mkO e b zv σ d Hp n n = some (v,H')∧Fm N h0 B Γ (⟨[d],v,dt,zs⟩::Δ) H':=by
  subst he
  obtain ⟨⟨z0,z1,z2⟩,rfl⟩:=mk_some hz
  obtain ⟨L,rfl,h2,h3,h4,h5⟩:=S
  simp only [Bool.and_eq_true] at hf
  obtain ⟨v,L',e1,e2,e3,e4⟩:=GrowS.make (L:=L) (h:=pts h0 B) (b:=b) (d:=d) (z:=zv) (n:=n) (σ:=σ) (by omega) z0 z1 (by omega) (dt.len hR) hk
  refine ⟨v,_,e1,L',rfl,by omega,h3,fun e he => by rw [e4 _ (freeG_ne hf.1 he)]; exact h4 e he,fun g hg => ?_⟩
  rcases List.mem_cons.1 hg with rfl | hg
  · refine ⟨_,RL.rep hR _,?_⟩
    rw [← pts_length B]
    simpa using e2
  · exact (h5 g hg).frame fun x hx => e4 x fun h => freeD_ne hf.2 hg (h ▸ hx)
theorem Fm.land (S : Fm N h0 B Γ Δ Hp) {α : Type} {dt : Dt α} {d e n : Nat} {c : C} {cs : List V} {xs : List α} (ho : OwnS c dt.sz xs.length cs) (hl : dt.L xs cs) (hd : d < N) (hf : (freeG Γ d && freeD Δ d) = true) :
    ∃ v H',Ev.land Hp (some d) [c] = (v,H')∧Fm N h0 B Γ (⟨[d],v,dt,xs⟩::Δ) H':=by
  obtain ⟨L,rfl,h2,h3,h4,h5⟩:=S
  simp only [Bool.and_eq_true] at hf
  obtain ⟨v,L',e1,e2,e3,e4⟩:=ho.land (L:=L) (h:=pts h0 B) (d:=d) (by omega)
  refine ⟨v,_,e1,L',rfl,by omega,h3,fun e he => by rw [e4 _ (freeG_ne hf.1 he)]; exact h4 e he,fun g hg => ?_⟩
  rcases List.mem_cons.1 hg with rfl | hg
  · exact ⟨cs,hl,by rw [← pts_length B]; exact e2⟩
  · exact (h5 g hg).frame fun x hx => e4 x fun h => freeD_ne hf.2 hg (h ▸ hx)
def Lv1 (x : V) : Prop:=∀ frz τ h,expF frz τ h x = some (.v x,h)
theorem Still.lv {x : V} (h : Still x) : Lv1 x:=h.exp
theorem Stills.lv {xs : List V} (h : Stills xs) : Lv1 (.agg xs):=fun _ τ h' => expF_agg h τ h'
theorem Fm.finN (S : Fm N h0 B Γ Δ Hp) {frz : Bool} {σ : Stamp} {xs : List V} (hx : ∀ x ∈ xs,Lv1 x) : fin frz σ Hp xs = some (xs.map .v,pts h0 B):=by
  obtain ⟨L,rfl,_⟩:=S
  have : ∀ (xs : List V) (j : Nat),(∀ x ∈ xs,Lv1 x)→expCs frz (1::σ) j (L::pts h0 B) xs = some (xs.map .v,L::pts h0 B):=fun xs => by
    induction xs with
    | nil => intro j _; rfl
    | cons x xs ih => intro j hx; simp only [expCs,hx x (List.mem_cons_self ..) frz,Option.bind_some,ih (j + 1) (fun y hy => hx y (List.mem_cons_of_mem _ hy)),Option.map_some,List.map_cons]
  simp [fin,this xs 0 hx]
theorem Fm.finOwn (S : Fm N h0 B Γ Δ Hp) {i : Nat} {g : Gw} (hi : Δ[i]? = some g) (hD : noLit g.D = true) {σ : Stamp} : ∃ c cs,fin false σ Hp [g.v] = some ([c],pts h0 B)∧OwnS c g.d.sz g.xs.length cs∧g.d.L g.xs cs:=by
  obtain ⟨L,rfl,h2,h3,h4,h5⟩:=S
  obtain ⟨cs,q1,q2⟩:=h5 g (List.mem_of_getElem? hi)
  rw [← pts_length B] at q2
  obtain ⟨c,e1,e2⟩:=q2.own hD σ
  exact ⟨c,cs,e1,e2,q1⟩
end
end Go.Ev
namespace Go.Ev
set_option linter.unusedVariables false
set_option linter.unusedSimpArgs false
section
variable {β α γ δ : Type} {x : Option β} {Q : β→α→Prop} {K : δ→Option α}
theorem Sim.as {A : Option γ} {g : γ→Option δ} (s : Sim x (A.bind fun v => (g v).bind K) Q) : Sim x ((A.bind g).bind K) Q:=by
  rw [Option.bind_assoc]; exact s
theorem Sim.ext {Y Y' : Option δ} (e : Y = Y') (s : Sim x (Y'.bind K) Q) : Sim x (Y.bind K) Q:=by rw [e]; exact s
theorem Sim.pure {v : δ} (s : Sim x (K v) Q) : Sim x ((some v).bind K) Q:=s
end
theorem sM {o : Option H} {h : H} (e : o = some h) : (o.map fun h => ((udf : V),h)) = some (udf,h):=by rw [e]; rfl
theorem lN : ∀ x ∈ ([] : List V),Lv1 x:=fun _ h => by cases h
theorem lC {x : V} {xs : List V} (h : Lv1 x) (t : ∀ y ∈ xs,Lv1 y) : ∀ y ∈ x::xs,Lv1 y:=fun y hy => by
  rcases List.mem_cons.1 hy with rfl | hy
  · exact h
  · exact t y hy
def Ex (frz : Bool) (τ : Stamp) (j : Nat) (h : H) (xs : List V) (cs : List C) (h' : H) : Prop:=expCs frz τ j h xs = some (cs,h')
theorem Ex.nil {frz : Bool} {τ : Stamp} {j : Nat} {h : H} : Ex frz τ j h [] [] h:=rfl
theorem Ex.pl {frz : Bool} {τ : Stamp} {j : Nat} {h h' : H} {x : V} {xs : List V} {cs : List C} (hx : Lv1 x) (t : Ex frz τ (j + 1) h xs cs h') : Ex frz τ j h (x::xs) (.v x::cs) h':=by
  unfold Ex at t ⊢; simp only [expCs,hx frz,Option.bind_some,t,Option.map_some]
theorem Ex.st {frz : Bool} {τ : Stamp} {j : Nat} {h h1 h' : H} {x : V} {c : C} {xs : List V} {cs : List C} (hx : expF frz (j::τ) h x = some (c,h1)) (t : Ex frz τ (j + 1) h1 xs cs h') : Ex frz τ j h (x::xs) (c::cs) h':=by
  unfold Ex at t ⊢; simp only [expCs,hx,Option.bind_some,t,Option.map_some]
section
variable {N : Nat} {h0 Hp : H} {B : List Rt} {Γ : List (Nat × Stamp × List C)} {Δ : List Gw}
theorem Fm.finE (S : Fm N h0 B Γ Δ Hp) {frz : Bool} {σ : Stamp} {H : Ev.H} {xs : List V} {cs : List C} (e : Ex frz (1::σ) 0 H xs cs Hp) : fin frz σ H xs = some (cs,pts h0 B):=by
  obtain ⟨L,rfl,_⟩:=S
  unfold Ex at e
  simp [fin,e]
theorem dead_ok {L : Layer} {d : Nat} (S : Fm N h0 B Γ Δ (L::pts h0 B)) (hf : (freeG Γ d && freeD Δ d) = true) (c : List C) : Fm N h0 B Γ Δ (L.set d c::pts h0 B):=by
  obtain ⟨L',he,h2,h3,h4,h5⟩:=S
  obtain ⟨rfl,_⟩:=List.cons.inj he
  simp only [Bool.and_eq_true] at hf
  refine ⟨_,rfl,by simpa using h2,h3,fun e he => ?_,fun g hg => ?_⟩
  · rw [List.getElem?_set_ne (Ne.symm (freeG_ne hf.1 he))]; exact h4 e he
  · exact (h5 g hg).frame fun x hx => by rw [List.getElem?_set_ne (fun e => freeD_ne hf.2 hg (by rw [e]; exact hx))]
theorem mem_one {D : List Nat} {Γ : List (Nat × Stamp × List C)} {Δ : List Gw} (hf : freeL D Γ Δ = true) {d : Nat} (hd : d ∈ D) : (freeG Γ d && freeD Δ d) = true:=List.all_eq_true.1 hf d hd
theorem Fm.expFrz (S : Fm N h0 B Γ Δ Hp) {i : Nat} {g : Gw} (hi : Δ[i]? = some g) (hf : freeL g.D Γ (Δ.eraseIdx i) = true) {τ : Stamp} : ∃ v H',expF true τ Hp g.v = some (.v v,H')∧SlF g.d g.xs v∧Fm N h0 B Γ (Δ.eraseIdx i) H':=by
  have S' : Fm N h0 B Γ (Δ.eraseIdx i) Hp:=S.wk (fun _ h => h) (fun _ h => mem_erase h)
  obtain ⟨L,rfl,h2,h3,h4,h5⟩:=S
  obtain ⟨cs,q1,q2⟩:=h5 g (List.mem_of_getElem? hi)
  rw [← pts_length B] at q2
  rcases q2 with ⟨e1,e2,e3⟩ | ⟨q2,d',hd',s,tl,hv,h6⟩ | ⟨hv,q2,_⟩
  · refine ⟨g.v,_,?_,⟨cs,?_,q1⟩,S'⟩
    · rcases e3 with e | e <;> rw [e]
      · exact still_nilS.exp ..
      · exact (still_fz ..).exp ..
    · rw [e1,e2]
      rcases e3 with e | e <;> rw [e]
      · exact .nil _
      · exact .fz (by simp) _
  · refine ⟨.fz cs g.xs.length g.d.sz false,_,?_,⟨cs,.fz q2 _,q1⟩,dead_ok S' (mem_one hf hd') (.dead::tl)⟩
    rw [hv,expF_frz h6 q2]
  · exact ⟨g.v,_,by rw [hv]; exact (still_fz ..).exp ..,⟨cs,by rw [hv]; exact .fz q2 _,q1⟩,S'⟩
theorem Fm.expOwn (S : Fm N h0 B Γ Δ Hp) {i : Nat} {g : Gw} (hi : Δ[i]? = some g) (hD : noLit g.D = true) (hf : freeL g.D Γ (Δ.eraseIdx i) = true) {τ : Stamp} : ∃ c cs H',expF false τ Hp g.v = some (c,H')∧OwnS c g.d.sz g.xs.length cs∧g.d.L g.xs cs∧Fm N h0 B Γ (Δ.eraseIdx i) H':=by
  have S' : Fm N h0 B Γ (Δ.eraseIdx i) Hp:=S.wk (fun _ h => h) (fun _ h => mem_erase h)
  obtain ⟨L,rfl,h2,h3,h4,h5⟩:=S
  obtain ⟨cs,q1,q2⟩:=h5 g (List.mem_of_getElem? hi)
  rw [← pts_length B] at q2
  rcases q2 with ⟨e1,e2,e3⟩ | ⟨q2,d',hd',s,tl,hv,h6⟩ | ⟨_,_,_,hd⟩
  · refine ⟨.v g.v,cs,_,?_,⟨by rw [e1,e2]; simp,.inl ⟨e1,e2,?_⟩⟩,q1,S'⟩
    · rcases e3 with e | e <;> rw [e]
      · exact still_nilS.exp ..
      · exact (still_fz ..).exp ..
    · rcases e3 with e | e <;> rw [e] <;> simp
  · refine ⟨.arr s g.xs.length g.d.sz (cs.map .v),cs,_,?_,⟨q2,.inr ⟨s,rfl⟩⟩,q1,dead_ok S' (mem_one hf hd') (.dead::tl)⟩
    rw [hv,expF_arr h6 (by simpa using q2)]
  · exact (noLit_no hD hd).elim
end
def fillC (places : Nat→Option (Nat × Nat)) (cells : List V) : List (Nat × List V)→Option (List V)
  | [] => some cells
  | (i,v)::rest =>
    match places i with
    | none => none
    | some (off,size) =>
      if v.length ≠ size ∨ off + v.length > cells.length then none
      else fillC places (cells.take off ++ v ++ cells.drop (off + v.length)) rest
theorem fillC_ok (places : Nat→Option (Nat × Nat)) : ∀ (parts : List (Nat × V)) (cells : List V),fillV places cells parts = fillC places cells (parts.map fun q => (q.1,q.2.cells))
  | [],cells => rfl
  | (i,v)::rest,cells => by
    simp only [fillV,fillC,List.map_cons]
    cases places i with
    | none => rfl
    | some q =>
      simp only
      split
      · rfl
      · exact fillC_ok places rest _
def buildC (P : Program) (t : TypeId) (parts : List (Nat × List V)) : Option V :=
  (tzero P t).bind fun zero =>
  match P.underlying t with
  | some (.struct fs) => if fs.toList.all (fun f => known P f.type) then (fillC (fun i => (fs[i]?).map fun f => (f.offset,tsize P f.type)) zero parts).map .agg else none
  | some (.array _ e) => if known P e then (fillC (fun i => some (i * tsize P e,tsize P e)) zero parts).map .agg else none
  | _ => none
def buildSliceC (P : Program) (t : TypeId) (len : Nat) (parts : List (Nat × List V)) : Option V :=
  (telem P t).bind fun e => (tzero P e).bind fun zero =>
  if zero.length ≠ tsize P e ∨ tsize P e = 0 ∨ len * tsize P e > 2 ^ 24 then none else
  (fillC (fun i => some (i * tsize P e,tsize P e)) (rept len zero) parts).map fun cs => .fz cs len (tsize P e) true
theorem bldV {P : Program} {t : TypeId} {parts : List (Nat × V)} {cs : List (Nat × List V)} {r : V} (hp : (parts.map fun q => (q.1,q.2.cells)) = cs) (hb : buildC P t cs = some r) : buildV P t parts = some r:=by
  rw [← hb,← hp]; unfold buildV buildC; simp only [fillC_ok]; rfl
theorem bldS {P : Program} {t : TypeId} {n : Nat} {parts : List (Nat × V)} {cs : List (Nat × List V)} {r : V} (hp : (parts.map fun q => (q.1,q.2.cells)) = cs) (hb : buildSliceC P t n cs = some r) : bSV P t n parts = some r:=by
  rw [← hb,← hp]; unfold bSV buildSliceC; simp only [fillC_ok]
theorem pN : (([] : List (Nat × V)).map fun q => (q.1,q.2.cells)) = []:=rfl
theorem pC {i : Nat} {v : V} {c : List V} {ps : List (Nat × V)} {cs : List (Nat × List V)} (h : v.cells = c) (t : (ps.map fun q => (q.1,q.2.cells)) = cs) : (((i,v)::ps).map fun q => (q.1,q.2.cells)) = (i,c)::cs:=by rw [List.map_cons,h,t]
def shP (op : BinOp) (k : IntKind) (a b : Int) : Option Int:=if b < 0 then none else match op with
  | .shl => some (k.wrap (a * 2 ^ min b.toNat k.bits))
  | .shr => some (a.fdiv (2 ^ min b.toNat k.bits))
  | _ => none
theorem shP_ok {op : BinOp} {k : IntKind} {a b n : Int} (h : shP op k a b = some n) : shiftV op k a b = some (.p (.int k n)):=by
  unfold shP at h; unfold shiftV
  split at h
  · cases h
  · rename_i h0
    rw [if_neg h0]
    split at h <;> cases h <;> rfl
def remP (a b : Int) : Option Int:=if b = 0 then none else some (a.tmod b)
theorem remP_ok {k : IntKind} {a b n : Int} (h : remP a b = some n) : remI k a b = some (.p (.int k n)):=by
  unfold remP at h; unfold remI
  split at h
  · cases h
  · rename_i h0; rw [if_neg h0]; cases h; rfl
def strB (xs : List Int) : ByteArray:=⟨(xs.map fun n => UInt8.ofNat n.toNat).toArray⟩
def bytesS (s : ByteArray) : List Int:=s.data.toList.map fun b => (b.toNat : Int)
def ixS (s : ByteArray) (i : Int) : Option Int:=if 0 ≤ i then (s[i.toNat]?).map fun b => (b.toNat : Int) else none
theorem ixS_ok {s : ByteArray} {i n : Int} (h : ixS s i = some n) : iStr s i = some (.p (.int .u8 n)):=by
  unfold ixS at h; unfold iStr
  split at h
  · rename_i h0
    rw [if_pos h0]
    obtain ⟨b,hb,rfl⟩:=Option.map_eq_some_iff.1 h
    rw [hb]; rfl
  · cases h
theorem RL.ints {k : IntKind} : ∀ {xs : List Int} {cs : List V},(dI k).L xs cs→cs = xs.map fun n => .p (.int k n)
  | [],cs,h => h
  | x::xs,cs,⟨a,b,h1,h2,h3⟩ => by
    have e : a = [.p (.int k x)]:=h2
    subst h1; subst e
    rw [RL.ints h3]; rfl
theorem RL.of_ints (k : IntKind) : ∀ (xs : List Int),(dI k).L xs (xs.map fun n => .p (.int k n))
  | [] => rfl
  | x::xs => .cons (show (dI k).R x [.p (.int k x)] from rfl) (RL.of_ints k xs)
theorem bytesOfV_ints : ∀ (xs : List Int),bytesOfV (xs.map fun n => .p (.int .u8 n)) = some (xs.map fun n => UInt8.ofNat n.toNat)
  | [] => rfl
  | x::xs => by simp [bytesOfV,bytesOfV_ints xs]
theorem SlH.str {h : H} {xs : List Int} {v : V} (hv : SlH h (dI .u8) xs v) : strO h v = some (.p (.string (strB xs))):=by
  obtain ⟨cs,h1,h2⟩:=hv
  have e:=RL.ints h2
  subst e
  have hl:=h1.sl
  unfold strO
  split
  · simp [isSl] at hl
  · simp only [toS,hl,h1.cells,h1.len,Option.bind_some,and_self,if_true]
    rw [if_pos (by simp),bytesOfV_ints]; rfl
theorem ysS (h : H) (s : ByteArray) : YsH h (dI .u8) (bytesS s) (.p (.string s)):=by
  refine ⟨_,⟨?_,rfl,?_⟩,?_⟩
  · show some s.size = some (bytesS s).length
    unfold bytesS; rw [List.length_map]; rfl
  · unfold bytesS; rw [List.length_map,List.length_map]; exact (Nat.mul_one _).symm
  · have:=RL.of_ints .u8 (bytesS s)
    have e : (bytesS s).map (fun n => V.p (.int .u8 n)) = s.data.toList.map fun b => .p (.int .u8 b.toNat):=by unfold bytesS; rw [List.map_map]; rfl
    rw [e] at this; exact this
theorem SlF.bytes (s : ByteArray) : SlF (dI .u8) (bytesS s) (.fz (s.data.toList.map fun b => .p (.int .u8 b.toNat)) s.size 1 false):=by
  have e : (bytesS s).map (fun n => V.p (.int .u8 n)) = s.data.toList.map fun b => .p (.int .u8 b.toNat):=by unfold bytesS; rw [List.map_map]; rfl
  have:=RL.of_ints .u8 (bytesS s)
  rw [e] at this
  refine SlF.lit this ?_ rfl false
  unfold bytesS; rw [List.length_map]; rfl
end Go.Ev
namespace Go.Ev
set_option linter.unusedVariables false
set_option linter.unusedSimpArgs false
theorem Sim.cdk {β α γ δ : Type} {Q : β→α→Prop} {K : δ→Option α} {c : Bool} {a b : Option β} {A B : Option γ} {g : γ→Option δ} (s : c = true→Sim a ((A.bind g).bind K) Q) (t : c = false→Sim b ((B.bind g).bind K) Q) :
    Sim (bif c then a else b) (((bif c then A else B).bind g).bind K) Q:=by
  cases c
  · exact t rfl
  · exact s rfl
theorem aN.{u} {α : Type u} {P : α→Prop} : ∀ x ∈ ([] : List α),P x:=fun _ h => by cases h
theorem aC.{u} {α : Type u} {P : α→Prop} {a : α} {l : List α} (h : P a) (t : ∀ x ∈ l,P x) : ∀ x ∈ a::l,P x:=fun x hx => by
  rcases List.mem_cons.1 hx with rfl | hx
  · exact h
  · exact t x hx
theorem aM.{u} {α : Type u} {a : α} {l : List α} (i : Nat) (h : l[i]? = some a) : a ∈ l:=List.mem_of_getElem? h
section
variable {N : Nat} {h0 Hp : H} {B : List Rt} {Γ Γ' : List (Nat × Stamp × List C)} {Δ Δ' : List Gw}
theorem Fm.wk2 (S : Fm N h0 B Γ Δ Hp) (hG : ∀ e ∈ Γ',e ∈ Γ) (hD : ∀ g ∈ Δ',∃ D,(∀ d ∈ D,d ∈ g.D)∧(⟨D,g.v,g.d,g.xs⟩ : Gw) ∈ Δ) : Fm N h0 B Γ' Δ' Hp:=by
  obtain ⟨L,h1,h2,h3,h4,h5⟩:=S
  refine ⟨L,h1,h2,h3,fun e he => h4 e (hG e he),fun g hg => ?_⟩
  obtain ⟨D,q1,q2⟩:=hD g hg
  obtain ⟨cs,r1,r2⟩:=h5 _ q2
  refine ⟨cs,r1,?_⟩
  rcases r2 with q | ⟨r2,d',hd',r⟩ | ⟨a1,a2,a3,d',hd',a4⟩
  · exact .inl q
  · exact .inr (.inl ⟨r2,d',q1 d' hd',r⟩)
  · exact .inr (.inr ⟨a1,a2,a3,d',q1 d' hd',a4⟩)
theorem Fm.start1 {l : Loc} {off : Nat} {cs : List C} (ha : AtC h0 l off cs) : Fm N h0 [⟨l,off,cs⟩] [] [] (List.replicate N []::h0) :=
  Fm.start ⟨⟨cs,rfl,ha⟩,aN,trivial⟩ (aC ha aN)
theorem Fm.start2 {l l' : Loc} {off off' : Nat} {cs cs' : List C} (ha : AtC h0 l off cs) (hb : AtC h0 l' off' cs') (hk : l'.key ≠ l.key) : Fm N h0 [⟨l,off,cs⟩,⟨l',off',cs'⟩] [] [] (List.replicate N []::h0) :=
  Fm.start ⟨⟨cs,rfl,ha⟩,aC hk aN,⟨cs',rfl,hb⟩,aN,trivial⟩ (aC ha (aC hb aN))
def clipBody (e n : Nat) (σ : Stamp) (x : V) (h : H) : Option (List C × H) :=
  (lenO x).bind fun t1 => (castI .i64 t1).bind fun n2 => (lenO x).bind fun t3 => (castI .i64 t3).bind fun n4 => (slS e x none (some n2) (some n4)).bind fun t5 => fin false σ (List.replicate n []::h) [t5]
theorem clip_body {e n : Nat} {σ : Stamp} {x : V} {h : H} {m : Nat} {y : V} (hl : lenO x = some (.p (.int .i64 m))) (hs : slS e x none (some m) (some m) = some y) (hf : fin false σ (List.replicate n []::h) [y] = some ([.v y],h)) : clipBody e n σ x h = some ([.v y],h):=by
  unfold clipBody
  simp only [hl,Option.bind_some,castI_p,hs,hf]
theorem clip_D {G : Cfg} {X : CallF} {f n e i d : Nat} {g : Gw} {σ : Stamp} (entry : ∀ (x : V) (h : H),cvBody G (ev G X) (cvL G X) f σ [x] h = clipBody e n σ x h)
    (S : Fm N h0 B Γ Δ Hp) (hi : Δ[i]? = some g) (he : g.d.sz = e) (hX : X f σ [g.v] Hp = none) :
    ∃ v,callO (ev G X) f σ [g.v] Hp (some d) = some (v,Hp)∧Fm N h0 B Γ (Δ.set i ⟨g.D,v,g.d,g.xs⟩) Hp:=by
  subst he
  have S0:=S
  obtain ⟨L,rfl,h2,h3,h4,h5⟩:=S
  have h5g:=h5 g (List.mem_of_getElem? hi)
  obtain ⟨cs,q1,q2⟩:=h5g
  have len : lenO g.v = some (.p (.int .i64 g.xs.length)):=(S0.sl hi).len
  have key : ∃ v,slS g.d.sz g.v none (some g.xs.length) (some g.xs.length) = some v∧GrowS g.D L h0.length v g.d.sz g.xs.length cs∧fin false σ (List.replicate n []::L::pts h0 B) [v] = some ([.v v],L::pts h0 B):=by
    rcases q2 with ⟨e1,e2,e3 | e3⟩ | ⟨q2,d',hd',s,tl,hv,h6⟩ | ⟨hv,a2,a3,a4⟩
    · rw [e1,e3]; exact ⟨_,rfl,.inl ⟨rfl,e2,.inl rfl⟩,fin_1 still_nilS⟩
    · rw [e1,e3]; exact ⟨.fz [] 0 g.d.sz true,by simp [slS,bI],.inl ⟨rfl,e2,.inr rfl⟩,fin_1 (still_fz ..)⟩
    · rw [hv]
      by_cases h0' : g.xs.length = 0
      · have : cs = []:=by rw [h0'] at q2; simpa using q2
        refine ⟨.fz [] 0 g.d.sz true,?_,.inl ⟨h0',this,.inr rfl⟩,fin_1 (still_fz ..)⟩
        rw [h0']; simp [slS,bI]
      · refine ⟨.sl ⟨h0.length,d',0,s,[]⟩ 0 g.xs.length g.xs.length g.d.sz,?_,.inr (.inl ⟨q2,d',hd',s,tl,rfl,h6⟩),?_⟩
        · simp [slS,bI,h0']
        · exact fin_low (by simp [pts_length])
    · rw [hv]
      exact ⟨.fz cs g.xs.length g.d.sz true,by simp [slS,bI,← a2],.inr (.inr ⟨rfl,a2,a3,a4⟩),fin_1 (still_fz ..)⟩
  obtain ⟨v,k1,k2,k3⟩:=key
  refine ⟨v,?_,L,rfl,h2,h3,h4,fun g' hg' => ?_⟩
  · exact callO_1 (ev_cv hX (by rw [entry]; exact clip_body len k1 k3))
  · rcases mem_set hg' (List.getElem?_eq_some_iff.1 hi).1 with rfl | hg'
    · exact ⟨cs,q1,k2⟩
    · exact h5 g' (mem_erase hg')
end
end Go.Ev
namespace Go.Ev
section
variable {N : Nat} {h0 Hp : H} {B : List Rt} {Γ Γ' : List (Nat × Stamp × List C)} {Δ Δ' : List Gw}
theorem Fm.lowA (S : Fm N h0 [] Γ Δ Hp) {l : Loc} {off : Nat} {cs : List C} (ha : AtC h0 l off cs) : AtC Hp l off cs:=by
  obtain ⟨L,rfl,_⟩:=S
  exact ha.up L
end
theorem Sim.clo {β α δ : Type} {x : Option β} {Q : β→α→Prop} {K : δ→Option α} {rec : CallF} {f : FuncId} {σ : Stamp} {args caps : List V} {H : H} {d : Option Nat} {g : V × Go.Ev.H→Option δ} (s : Sim x (((callO rec f σ (args ++ caps) H d).bind g).bind K) Q) : Sim x (((cloO rec (.clo f caps) σ args H d).bind g).bind K) Q:=s
def p_clone {α : Type} (b : Nat) (xs : List α) : Option (List α):=ap b [] xs
theorem clone_ok {G : Cfg} {X : CallF} {f n d e b t tt : Nat} {P : Program} {own : Bool} {τ : Stamp→Stamp} {α : Type} {dt : Dt α} {h : H} {σ : Stamp} {xs : List α} {x : V}
    (entry : ∀ (x : V) (h : H),cvBody G (ev G X) (cvL G X) f σ [x] h = (binV P (List.replicate n []::h) .eql t x (.p (.slice .none 0 0))).bind fun t1 => (asB t1).bind fun b2 => bif b2 then (fin false σ (List.replicate n []::h) [(.p (.slice .none 0 0))]) else ((bSV P t 0 []).bind fun t3 => (apO own e b (τ σ) d (List.replicate n []::h) t3 x).bind fun q4 => fin false σ q4.2 [q4.1]))
    (hx : SlH h dt xs x) (he : dt.sz = e) (hk : e ≠ 0) (hd : d < n) (hdd : d < 1000000) (hu : P.underlying t = some (.slice tt)) (hb : bSV P t 0 [] = some (.fz [] 0 e true)) (hX : X f σ [x] h = none) :
    Sim (p_clone b xs) (ev G X f σ [x] h) (fun r s => ∃ (c : C) (a : List V),OwnS c dt.sz r.length a∧dt.L r a∧s = ([c],h)):=by
  intro r hr
  have S0 : Fm n h [] [] [] (List.replicate n []::h):=Fm.start0
  have hn : ∀ (y : V),isSl y = true→y ≠ .p (.slice none 0 0)→binV P (List.replicate n []::h) .eql t y (.p (.slice none 0 0)) = some (.p (.bool false)):=fun y hy hne => by
    unfold isSl at hy
    split at hy
    · exact absurd rfl hne
    · simp [binV,eqlV,hu]
    · simp [binV,eqlV,hu]
    · cases hy
  have hnil : binV P (List.replicate n []::h) .eql t (.p (.slice none 0 0)) (.p (.slice none 0 0)) = some (.p (.bool true)):=by simp [binV,eqlV,hu]
  obtain ⟨⟨b1,b2⟩,hrr⟩:=ap_some hr
  obtain rfl : xs = r:=hrr.symm
  by_cases hnl : x = .p (.slice none 0 0)
  · subst hnl
    obtain ⟨cs,q1,q2⟩:=hx
    have hlen:=q1.len
    simp only [lenOf,Option.some.injEq] at hlen
    have : xs = []:=List.length_eq_zero_iff.1 hlen.symm
    subst this
    refine ⟨_,ev_cv hX ?_,.v (.p (.slice none 0 0)),[],⟨by simp,.inl ⟨rfl,rfl,.inl rfl⟩⟩,rfl,rfl⟩
    rw [entry,hnil]
    simp only [Option.bind_some,asB_p,cond_true]
    exact fin_1 still_nilS
  · have S1:=S0.nil' dt [] he
    have hsl : isSl x = true:=by obtain ⟨cs,q1,q2⟩:=hx; exact q1.sl
    obtain ⟨v,H1,e1,S2⟩:=S1.app (i:=0) (d:=d) (b:=b) (own:=own) (σ:=τ σ) (e:=e) rfl (S1.low hx).y hr he hk hd (by simp [freeL,freeG,freeD])
    obtain ⟨c,a,f1,f2,f3⟩:=S2.finOwn (i:=0) (σ:=σ) rfl (by simp [noLit]; omega)
    refine ⟨_,ev_cv hX ?_,c,a,f2,f3,rfl⟩
    rw [entry,hn x hsl hnl]
    simp only [Option.bind_some,asB_p,cond_false,hb]
    rw [e1]
    exact f1
end Go.Ev
namespace Go.Ev
set_option linter.unusedVariables false
set_option linter.unusedSimpArgs false
def SoC {α : Type} (d : Dt α) (xs : List α) (c : C) : Prop:=(∃ v,c = .v v∧SlF d xs v) ∨ ∃ s ws,c = .arr s xs.length d.sz (ws.map .v)∧d.L xs ws
theorem SoC.frz {α : Type} {d : Dt α} {xs : List α} {v : V} (h : SlF d xs v) : SoC d xs (.v v):=.inl ⟨v,rfl,h⟩
theorem SoC.own {α : Type} {d : Dt α} {xs : List α} {c : C} {ws : List V} (h : OwnS c d.sz xs.length ws) (hl : d.L xs ws) : SoC d xs c:=by
  obtain ⟨h1,⟨h2,h3,rfl | rfl⟩ | ⟨s,rfl⟩⟩:=h
  · exact .inl ⟨_,rfl,ws,by rw [h2,h3]; exact .nil _,hl⟩
  · exact .inl ⟨_,rfl,ws,by rw [h2,h3]; exact .fz (by simp) _,hl⟩
  · exact .inr ⟨s,ws,rfl,hl⟩
def cellV (l : Loc) (o : Nat) (c : C) : V:=(toV l o c).getD udf
section
variable {α : Type} {h : H} {l : Loc} {off j : Nat} {cs : List C} {c : C} {d : Dt α} {xs : List α}
theorem SoC.ld (hc : SoC d xs c) (ha : AtC h l off cs) (hj : cs[j]? = some c) : ldO false 1 h (.ref l (off + j)) = some (cellV l (off + j) c):=by
  rcases hc with ⟨v,rfl,_⟩ | ⟨s,ws,rfl,_⟩
  · exact ha.ldC hj rfl
  · exact ha.ldC hj rfl
theorem SoC.sl (hc : SoC d xs c) (ha : AtC h l off cs) (hj : cs[j]? = some c) : SlH h d xs (cellV l (off + j) c):=by
  rcases hc with ⟨v,rfl,hv⟩ | ⟨s,ws,rfl,hl⟩
  · exact hv.h h
  · have hlen:=RL.length (fun h => d.len h) hl
    refine ⟨ws,.mk_sl (l:=l.hop (off + j) s) (ds:=ws.map .v) ?_ (by simp [hlen]) ?_ (Nat.le_refl _),hl⟩
    · obtain ⟨p,q,hn,hp⟩:=ha.hop hj (s:=s) (ds:=ws.map .v) (by simp [C.node])
      have : p = []:=List.length_eq_zero_iff.1 hp
      subst this
      have hq:=ha.hop hj (s:=s) (ds:=ws.map .v) (by simp [C.node])
      obtain ⟨p,q,hn,hp⟩:=ha
      have hlt:=(List.getElem?_eq_some_iff.1 hj).1
      rw [nd_in hn (c:=.arr s xs.length d.sz (ws.map .v)) (ds:=ws.map .v)]
      · rw [List.append_assoc,List.getElem?_append_right (by omega),show off + j - p.length = j by omega,List.getElem?_append_left hlt,hj]
      · simp [C.node]
    · rw [List.drop_zero,List.take_of_length_le (by simp [hlen]),toVs_plain]
end
section
variable {N : Nat} {h0 Hp : H} {B : List Rt} {Γ : List (Nat × Stamp × List C)} {Δ : List Gw}
theorem getElem_app {p cs q : List C} {off j : Nat} (hp : p.length = off) (hj : j < cs.length) : (p ++ cs ++ q)[off + j]? = cs[j]?:=by
  rw [List.append_assoc,List.getElem?_append_right (by omega),show off + j - p.length = j by omega,List.getElem?_append_left hj]
theorem at_killed {l : Loc} {off j : Nat} {cs : List C} {c : C} {s : Stamp} (ha : AtC Hp l off cs) (hj : cs[j]? = some c) (hc : (c.node s).isSome) : setAt Hp (l.hop (off + j) s) .dead = ptC Hp l off (cs.set j .dead):=by
  obtain ⟨p,q,hn,hp⟩:=ha
  have hlt:=(List.getElem?_eq_some_iff.1 hj).1
  have hcell : (p ++ cs ++ q)[off + j]? = some c:=by rw [getElem_app hp hlt,hj]
  rw [setAt_hop hn hcell,ptC_eq hn hp (by simp)]
  congr 1
  rw [List.append_assoc,List.set_append_right _ _ (by omega),List.set_append_left _ _ (by omega),← List.append_assoc]
  congr 3
  omega
structure Spot (N : Nat) (h0 : H) (Hp : H) (l : Loc) (off : Nat) (cs : List C) (T : List C→H→Prop) : Prop where
  at_ : AtC Hp l off cs
  put : ∀ cs',cs'.length = cs.length→T cs' (ptC Hp l off cs')
theorem app_cell {l : Loc} {off j d b e : Nat} {cs : List C} {c : C} {α : Type} {dt : Dt α} {xs ys zs : List α} {own : Bool} {σ : Stamp} {y : V}
    (ha : AtC Hp l off cs) (hj : cs[j]? = some c) (hc : SoC dt xs c) (hy : YsH Hp dt ys y) (hz : ap b xs ys = some zs) (hn : ys.length ≠ 0) (he : dt.sz = e) (hk : e ≠ 0) (hnt : ∀ v,c = .v v→v = .p (.slice none 0 0) ∨ v = .fz [] 0 e true) :
    ∃ ws s,dt.L zs ws∧∃ c',(c' = c ∨ c' = .dead)∧apO own e b σ d Hp (cellV l (off + j) c) y = some (.sl (newLoc Hp d s) 0 zs.length zs.length e,setSlot (ptC Hp l off (cs.set j c')) d [.arr s zs.length e (ws.map .v)]):=by
  subst he
  obtain ⟨⟨hb1,hb2⟩,rfl⟩:=ap_some hz
  obtain ⟨us,hu,hul⟩:=hy
  have hlt:=(List.getElem?_eq_some_iff.1 hj).1
  have same : ptC Hp l off (cs.set j c) = Hp:=by
    rw [show cs.set j c = cs from by rw [← (List.getElem?_eq_some_iff.1 hj).2]; exact List.set_getElem_self ..]
    exact ha.same
  have base : ∀ x,apO own dt.sz b σ d Hp x y = apTo dt.sz b σ d Hp ys.length (us.map .v) x:=fun x => by
    unfold apO
    rw [hu.len,hu.cells]
    simp only [Option.bind_some]
    rw [if_neg (by simp [hu.clen,hk]),if_neg hn,layCs_still own _ (RL.stills hul)]
    rfl
  rcases hc with ⟨v,rfl,hv⟩ | ⟨s,ws,rfl,hl⟩
  · obtain ⟨vs,q1,q2⟩:=hv
    have hx0 : xs = []∧vs = []:=by
      rcases hnt v rfl with rfl | rfl
      · have h1:=(q1 []).len
        simp only [lenOf,Option.some.injEq] at h1
        have h1 : xs = []:=List.length_eq_zero_iff.1 h1.symm
        subst h1
        exact ⟨rfl,by have:=(q1 []).clen; simpa using this⟩
      · have h1:=(q1 []).len
        simp only [lenOf,Option.some.injEq] at h1
        have h1 : xs = []:=List.length_eq_zero_iff.1 h1.symm
        subst h1
        exact ⟨rfl,by have:=(q1 []).clen; simpa using this⟩
    obtain ⟨rfl,rfl⟩:=hx0
    refine ⟨us,σ,by simpa using hul,_,.inl rfl,?_⟩
    rw [base,same]
    rcases hnt v rfl with rfl | rfl
    · simp only [cellV,toV,Option.getD_some,apTo]
      rw [if_pos ⟨by simpa using hb1,by simpa using hb2⟩]; simp
    · simp only [cellV,toV,Option.getD_some,apTo]
      rw [if_pos ⟨trivial,trivial,by simp,by simpa using hb1,by simpa using hb2,by simp⟩]; simp
  · refine ⟨ws ++ us,σ,hl.append hul,_,.inr rfl,?_⟩
    have hlen:=RL.length (fun h => dt.len h) hl
    have hnode : nd Hp (l.hop (off + j) s) = some (ws.map .v):=by
      obtain ⟨p,q,hn2,hp⟩:=ha
      exact nd_in hn2 (c:=.arr s xs.length dt.sz (ws.map .v)) (by rw [getElem_app hp hlt,hj]) (by simp [C.node])
    rw [base]
    simp only [cellV,toV,Option.getD_some,apTo]
    rw [if_neg (by simp),hnode]
    simp only [Option.bind_some]
    rw [if_neg (by omega),if_pos ⟨trivial,by simpa using hlen,hb1,hb2⟩,at_killed ha hj (by simp [C.node])]
    simp [newLoc,top,ptC_length]
theorem Fm.addArr (S : Fm N h0 B Γ Δ Hp) {α : Type} {dt : Dt α} {d e : Nat} {s : Stamp} {ws : List V} {xs : List α} (hl : dt.L xs ws) (he : dt.sz = e) (hd : d < N) (hf : (freeG Γ d && freeD Δ d) = true) :
    Fm N h0 B Γ (⟨[d],.sl ⟨h0.length,d,0,s,[]⟩ 0 xs.length xs.length e,dt,xs⟩::Δ) (setSlot Hp d [.arr s xs.length e (ws.map .v)]):=by
  subst he
  obtain ⟨L,rfl,h2,h3,h4,h5⟩:=S
  simp only [Bool.and_eq_true] at hf
  refine ⟨L.set d [.arr s xs.length dt.sz (ws.map .v)],rfl,by simpa using h2,h3,fun e he => ?_,fun g hg => ?_⟩
  · rw [List.getElem?_set_ne (Ne.symm (freeG_ne hf.1 he))]; exact h4 e he
  · rcases List.mem_cons.1 hg with rfl | hg
    · exact ⟨ws,hl,.inr (.inl ⟨RL.length (fun h => dt.len h) hl,d,List.mem_singleton.2 rfl,s,[],rfl,by rw [List.getElem?_set_self (by omega)]⟩)⟩
    · exact (h5 g hg).frame fun x hx => by rw [List.getElem?_set_ne (fun e => freeD_ne hf.2 hg (by rw [e]; exact hx))]
theorem Fm.appG (S : Fm N h0 B Γ Δ Hp) {i j d d0 b e : Nat} {s0 σ : Stamp} {cs : List C} {c : C} {α : Type} {dt : Dt α} {xs ys zs : List α} {own : Bool} {y : V}
    (hi : Γ[i]? = some (d0,s0,cs)) (hj : cs[j]? = some c) (hc : SoC dt xs c) (hnt : ∀ v,c = .v v→v = .p (.slice none 0 0) ∨ v = .fz [] 0 e true) (hy : YsH Hp dt ys y) (hz : ap b xs ys = some zs) (hn : ys.length ≠ 0) (he : dt.sz = e) (hk : e ≠ 0) (hd : d < N)
    (hf : (freeG (Γ.eraseIdx i) d0 && freeD Δ d0) = true) (hf2 : (freeG Γ d && freeD Δ d) = true) :
    ∃ v c' H',apO own e b σ d Hp (cellV ⟨h0.length,d0,0,s0,[]⟩ j c) y = some (v,H')∧Fm N h0 B (Γ.set i (d0,s0,cs.set j c')) (⟨[d],v,dt,zs⟩::Δ) H':=by
  obtain ⟨ws,s,hl,c',_,e1⟩:=app_cell (own:=own) (σ:=σ) (d:=d) (S.atG hi) hj hc hy hz hn he hk hnt
  rw [Nat.zero_add] at e1
  refine ⟨_,c',_,e1,?_⟩
  rw [S.newLoc]
  refine (S.setG (cs':=cs.set j c') hi hf (by simp)).addArr hl he hd ?_
  simp only [Bool.and_eq_true] at hf2 ⊢
  refine ⟨List.all_eq_true.2 fun x hx => ?_,hf2.2⟩
  rcases mem_set hx (List.getElem?_eq_some_iff.1 hi).1 with rfl | hx
  · have:=List.all_eq_true.1 hf2.1 (d0,s0,cs) (List.mem_of_getElem? hi)
    simpa using this
  · exact List.all_eq_true.1 hf2.1 _ (mem_erase hx)
theorem Fm.appB (S : Fm N h0 B Γ Δ Hp) {i j d b e off : Nat} {l : Loc} {σ : Stamp} {cs : List C} {c : C} {α : Type} {dt : Dt α} {xs ys zs : List α} {own : Bool} {y : V}
    (hi : B[i]? = some ⟨l,off,cs⟩) (hj : cs[j]? = some c) (hc : SoC dt xs c) (hnt : ∀ v,c = .v v→v = .p (.slice none 0 0) ∨ v = .fz [] 0 e true) (hy : YsH Hp dt ys y) (hz : ap b xs ys = some zs) (hn : ys.length ≠ 0) (he : dt.sz = e) (hk : e ≠ 0) (hd : d < N)
    (hf2 : (freeG Γ d && freeD Δ d) = true) :
    ∃ v c' H',apO own e b σ d Hp (cellV l (off + j) c) y = some (v,H')∧Fm N h0 (B.set i ⟨l,off,cs.set j c'⟩) Γ (⟨[d],v,dt,zs⟩::Δ) H':=by
  obtain ⟨ws,s,hl,c',_,e1⟩:=app_cell (own:=own) (σ:=σ) (d:=d) (S.atB hi) hj hc hy hz hn he hk hnt
  refine ⟨_,c',_,e1,?_⟩
  rw [S.newLoc]
  exact (S.setB (cs:=cs.set j c') hi (by simp)).addArr hl he hd hf2
theorem mv_cell {l : Loc} {off j k : Nat} {cs : List C} {g : Gw} {σ : Stamp} (S : Fm N h0 B Γ Δ Hp) (hk : Δ[k]? = some g) (hD : noLit g.D = true) (hf : freeL g.D Γ (Δ.eraseIdx k) = true) (hloc : ∀ d ∈ g.D,∀ s,l.key ≠ (⟨h0.length,d,0,s,[]⟩ : Loc).key) (ha : AtC Hp l off cs) (hj : j < cs.length) :
    ∃ c ws H1,layC true Hp g.v = some (c,H1)∧stO true 1 σ Hp (.ref l (off + j)) g.v = some (ptC H1 l off (cs.set j c))∧OwnS c g.d.sz g.xs.length ws∧g.d.L g.xs ws∧AtC H1 l off cs∧Fm N h0 B Γ (Δ.eraseIdx k) H1:=by
  have S' : Fm N h0 B Γ (Δ.eraseIdx k) Hp:=S.wk (fun _ h => h) (fun _ h => mem_erase h)
  obtain ⟨L,rfl,h2,h3,h4,h5⟩:=S
  obtain ⟨ws,q1,q2⟩:=h5 g (List.mem_of_getElem? hk)
  have key : ∀ (v : V) (c : C) (H1 : H),v.cells = [v]→(∀ s n e ds,sameArr l (off + j) (some (.arr s n e ds)) v = false)→layC true (L::pts h0 B) v = some (c,H1)→AtC H1 l off cs→stO true 1 σ (L::pts h0 B) (.ref l (off + j)) v = some (ptC H1 l off (cs.set j c)):=fun v c H1 hv hs hl ha1 => by
    obtain ⟨p,q,hn,hp⟩:=ha
    obtain ⟨p1,q1',hn1,hp1⟩:=ha1
    have hsm : sameArr l (off + j) (p ++ cs ++ q)[off + j]? v = false:=by
      cases hx : (p ++ cs ++ q)[off + j]? with
      | none => rfl
      | some x =>
        cases x with
        | arr s n e ds => exact hs s n e ds
        | _ => rfl
    unfold stO
    simp only [hv,hn,hsm,Option.bind_some,layCs,hl]
    simp only [List.length_cons,List.length_nil,Bool.not_true,Bool.false_or,Nat.zero_add,bne_self_eq_false,Bool.false_eq_true,if_false,hn1,Option.bind_some]
    rw [if_pos (by simp; omega),set_take_drop _ _ _ (by simp; omega),ptC_eq hn1 hp1 (by simp)]
    congr 2
    rw [List.append_assoc,List.set_append_right _ _ (by omega),List.set_append_left _ _ (by omega),← List.append_assoc]
    congr 3
    omega
  rcases q2 with ⟨e1,e2,e3⟩ | ⟨q2,d',hd',s,tl,hv,h6⟩ | ⟨_,_,_,hd⟩
  · refine ⟨.v g.v,ws,_,?_,key _ _ _ ?_ ?_ ?_ ha,⟨by rw [e1,e2]; simp,.inl ⟨e1,e2,?_⟩⟩,q1,ha,S'⟩
    all_goals rcases e3 with e | e <;> rw [e]
    all_goals first
      | rfl
      | (intro s n e' ds; rfl)
      | (exact .inl rfl)
      | (exact .inr rfl)
  · have hr : rootC (L::pts h0 B) ⟨h0.length,d',0,s,[]⟩ = some (.arr s g.xs.length g.d.sz (ws.map .v)):=by simp [rootC,pts_length,h6]
    have hs : setRoot (L::pts h0 B) ⟨h0.length,d',0,s,[]⟩ .dead = L.set d' (.dead::tl)::pts h0 B:=by simp [setRoot,pts_length,h6]
    have hlay : layC true (L::pts h0 B) g.v = some (.arr s g.xs.length g.d.sz (ws.map .v),L.set d' (.dead::tl)::pts h0 B):=by
      rw [hv]; simp [layC,pts_length,hr,hs]
    have ha1 : AtC (L.set d' (.dead::tl)::pts h0 B) l off cs:=by
      obtain ⟨p,q,hn,hp⟩:=ha
      refine ⟨p,q,?_,hp⟩
      rw [← hs]
      have : (⟨h0.length,d',0,s,[]⟩ : Loc).key ≠ l.key:=Ne.symm (hloc d' hd' s)
      have e:=root_setRoot_ne (h:=L::pts h0 B) (l:=⟨h0.length,d',0,s,[]⟩) (l':=l) (c:=.dead) this
      rw [← hn]
      simp only [nd,at_,e]
    refine ⟨_,ws,_,hlay,key _ _ _ (by rw [hv]; rfl) ?_ hlay ha1,⟨q2,.inr ⟨s,rfl⟩⟩,q1,ha1,dead_ok S' (mem_one hf hd') (.dead::tl)⟩
    intro s' n' e' ds
    rw [hv]
    simp [sameArr,Loc.hop]
  · exact (noLit_no hD hd).elim
theorem Fm.mvG (S : Fm N h0 B Γ Δ Hp) {i j k d0 : Nat} {s0 σ : Stamp} {cs : List C} {g : Gw} (hk : Δ[k]? = some g) (hD : noLit g.D = true) (hf : freeL g.D Γ (Δ.eraseIdx k) = true) (hi : Γ[i]? = some (d0,s0,cs)) (hf0 : (freeG (Γ.eraseIdx i) d0 && freeD (Δ.eraseIdx k) d0) = true) (hj : (cs[j]?).isSome = true) :
    ∃ c H',stO true 1 σ Hp (.ref ⟨h0.length,d0,0,s0,[]⟩ j) g.v = some H'∧SoC g.d g.xs c∧(∀ v,c = .v v→v = .p (.slice none 0 0) ∨ v = .fz [] 0 g.d.sz true)∧Fm N h0 B (Γ.set i (d0,s0,cs.set j c)) (Δ.eraseIdx k) H':=by
  have hlt : j < cs.length:=by
    obtain ⟨y,hy⟩:=Option.isSome_iff_exists.1 hj
    exact (List.getElem?_eq_some_iff.1 hy).1
  obtain ⟨c,ws,H1,_,e1,o1,o2,a1,S1⟩:=mv_cell (σ:=σ) S hk hD hf (fun d hd s he => by
    have:=mem_one hf hd
    simp only [Bool.and_eq_true] at this
    have:=freeG_ne this.1 (List.mem_of_getElem? hi)
    simp only [Loc.key,Prod.mk.injEq] at he
    exact this he.2.1) (S.atG hi) hlt
  rw [Nat.zero_add] at e1
  refine ⟨c,_,e1,SoC.own o1 o2,fun v hv => ?_,S1.setG hi hf0 (by simp)⟩
  obtain ⟨_,⟨_,_,h | h⟩ | ⟨s,h⟩⟩:=o1 <;> rw [hv] at h <;> cases h <;> simp
theorem Fm.mvB (S : Fm N h0 B Γ Δ Hp) {i j k off : Nat} {l : Loc} {σ : Stamp} {cs : List C} {g : Gw} (hk : Δ[k]? = some g) (hD : noLit g.D = true) (hf : freeL g.D Γ (Δ.eraseIdx k) = true) (hi : B[i]? = some ⟨l,off,cs⟩) (hj : (cs[j]?).isSome = true) :
    ∃ c H',stO true 1 σ Hp (.ref l (off + j)) g.v = some H'∧SoC g.d g.xs c∧(∀ v,c = .v v→v = .p (.slice none 0 0) ∨ v = .fz [] 0 g.d.sz true)∧Fm N h0 (B.set i ⟨l,off,cs.set j c⟩) Γ (Δ.eraseIdx k) H':=by
  have hlt : j < cs.length:=by
    obtain ⟨y,hy⟩:=Option.isSome_iff_exists.1 hj
    exact (List.getElem?_eq_some_iff.1 hy).1
  have hlow : l.lvl < h0.length:=by
    obtain ⟨L,rfl,h2,h3,h4,h5⟩:=S
    have:=(h3.at hi).lt
    rwa [pts_length] at this
  obtain ⟨c,ws,H1,_,e1,o1,o2,a1,S1⟩:=mv_cell (σ:=σ) S hk hD hf (fun d hd s he => by
    simp only [Loc.key,Prod.mk.injEq] at he
    omega) (S.atB hi) hlt
  refine ⟨c,_,e1,SoC.own o1 o2,fun v hv => ?_,S1.setB hi (by simp)⟩
  obtain ⟨_,⟨_,_,h | h⟩ | ⟨s,h⟩⟩:=o1 <;> rw [hv] at h <;> cases h <;> simp
end
end Go.Ev
namespace Go.Ev
def FrC (c : C) (y : V) : Prop:=(c = .v y∧Still y) ∨ ∃ s n k ws,c = .arr s n k (ws.map .v)∧ws.length = n * k∧y = .fz ws n k false
def FrCs : List C→List V→Prop
  | [],[] => True
  | c::cs,y::ys => FrC c y∧FrCs cs ys
  | _,_ => False
theorem FrC.v {x : V} (h : Still x) : FrC (.v x) x:=.inl ⟨rfl,h⟩
theorem SoC.fr {α : Type} {d : Dt α} {xs : List α} {c : C} (h : SoC d xs c) : ∃ y,FrC c y∧SlF d xs y:=by
  rcases h with ⟨v,rfl,hv⟩ | ⟨s,ws,rfl,hl⟩
  · exact ⟨v,.inl ⟨rfl,hv.still⟩,hv⟩
  · have hlen:=RL.length (fun h => d.len h) hl
    exact ⟨_,.inr ⟨s,_,_,ws,rfl,hlen,rfl⟩,ws,.fz hlen _,hl⟩
theorem FrC.still {c : C} {y : V} (h : FrC c y) : Still y:=by
  rcases h with ⟨_,h⟩ | ⟨s,n,k,ws,_,_,rfl⟩
  · exact h
  · exact still_fz ..
theorem FrCs.len : ∀ {cs : List C} {ys : List V},FrCs cs ys→ys.length = cs.length
  | [],[],_ => rfl
  | c::cs,y::ys,⟨_,h⟩ => by simp [FrCs.len h]
  | [],_::_,h => by cases h
  | _::_,[],h => by cases h
theorem FrCs.stills : ∀ {cs : List C} {ys : List V},FrCs cs ys→Stills ys
  | [],[],_ => sN
  | c::cs,y::ys,⟨h1,h⟩ => sC h1.still (FrCs.stills h)
  | [],_::_,h => by cases h
  | _::_,[],h => by cases h
theorem lay_fr {H : Ev.H} {l : Loc} {pre post : List C} {c : C} {y : V} (hl : l.lvl = top H) (ha : AtC H l 0 (pre ++ c::post)) (hf : FrC c y) : ∃ x,toV l pre.length c = some x∧layC false H x = some (.v y,ptC H l 0 (pre ++ .v y::post)):=by
  have hj : (pre ++ c::post)[pre.length]? = some c:=by simp
  rcases hf with ⟨rfl,hs⟩ | ⟨s,n,k,ws,rfl,hlen,rfl⟩
  · exact ⟨y,rfl,by rw [ha.same]; exact hs.lay false H⟩
  · refine ⟨_,rfl,?_⟩
    have h1 : (l.hop pre.length s).lvl = top H:=hl
    have ha0:=ha
    obtain ⟨p,q,hn,hp⟩:=ha
    have hp0 : p = []:=List.length_eq_zero_iff.1 hp
    subst hp0
    rw [List.nil_append] at hn
    have hcell : ((pre ++ C.arr s n k (ws.map C.v)::post) ++ q)[pre.length]? = some (.arr s n k (ws.map .v)):=by simp
    have h2 : at_ H (l.hop pre.length s) = some (.arr s n k (ws.map .v)):=by rw [at_hop,hn]; simp [C.node]
    have h3 : rng ws 0 (n * k) = some ws:=by unfold rng; rw [if_pos (by omega)]; simp [← hlen]
    simp only [layC,h1,h2,Bool.false_eq_true,if_false,if_true,hop_last,true_and,List.length_map,hlen,plainCells_map,Option.bind_some,h3]
    rw [if_neg (by simp [Loc.hop]),setAt_hop hn hcell,ptC_eq (off:=0) (p:=[]) (q:=q) (cs:=pre ++ C.arr s n k (ws.map C.v)::post) hn rfl (by simp)]
    simp
theorem top_pt {H : Ev.H} (l : Loc) (off : Nat) (cs : List C) : top (ptC H l off cs) = top H:=by simp [top,ptC_length]
theorem frz_all {l : Loc} : ∀ {cs : List C} {ys : List V} {H : Ev.H} {pre : List C},l.lvl = top H→AtC H l 0 (pre ++ cs)→FrCs cs ys →
    ∃ xs,toVs l pre.length cs = some xs∧frzCs H xs = some (ys,ptC H l 0 (pre ++ ys.map .v))∧layCs false H xs = some (ys.map .v,ptC H l 0 (pre ++ ys.map .v))
  | [],[],H,pre,hl,ha,_ => ⟨[],rfl,by rw [show pre ++ [].map C.v = pre ++ [] from rfl,ha.same]; rfl,by rw [show pre ++ [].map C.v = pre ++ [] from rfl,ha.same]; rfl⟩
  | c::cs,y::ys,H,pre,hl,ha,⟨h1,h2⟩ => by
    obtain ⟨x,e1,e2⟩:=lay_fr hl ha h1
    have ha2 : AtC (ptC H l 0 (pre ++ .v y::cs)) l 0 ((pre ++ [.v y]) ++ cs):=by
      have:=ha.put (cs':=pre ++ .v y::cs) (by simp)
      simpa using this
    obtain ⟨xs,q1,q2,q3⟩:=frz_all (pre:=pre ++ [.v y]) (by rw [top_pt]; exact hl) ha2 h2
    have hp : ptC (ptC H l 0 (pre ++ .v y::cs)) l 0 (pre ++ [C.v y] ++ ys.map .v) = ptC H l 0 (pre ++ (y::ys).map .v):=by
      rw [ha.put_put (by simp) (by have:=h2.len; simp; omega)]
      simp
    refine ⟨x::xs,?_,?_,?_⟩
    · simp only [List.length_append,List.length_cons,List.length_nil] at q1
      simp only [toVs,e1,Option.bind_some,q1]
    · simp only [frzCs,e2,Option.bind_some,q2,Option.map_some]
      rw [hp]
    · simp only [layCs,e2,Option.bind_some,q3]
      rw [hp]; rfl
  | [],_::_,_,_,_,_,h => by cases h
  | _::_,[],_,_,_,_,h => by cases h
section
variable {N : Nat} {h0 Hp : H} {B : List Rt} {Γ : List (Nat × Stamp × List C)} {Δ : List Gw}
theorem Fm.frzV (S : Fm N h0 B Γ Δ Hp) {i d n : Nat} {s : Stamp} {cs : List C} {ys : List V} (hi : Γ[i]? = some (d,s,cs)) (hf : (freeG (Γ.eraseIdx i) d && freeD Δ d) = true) (hy : FrCs cs ys) (hn : ys.length = n) (_ : 0 < n) :
    ∃ xs H',xs.length = ys.length∧ldO true n Hp (.ref ⟨h0.length,d,0,s,[]⟩ 0) = some (.agg xs)∧(∀ frz τ,expF frz τ Hp (.agg xs) = some (.v (.agg ys),H'))∧layCs false Hp xs = some (ys.map .v,H')∧Fm N h0 B (Γ.set i (d,s,ys.map .v)) Δ H':=by
  have ha:=S.atG hi
  have hl : (⟨h0.length,d,0,s,[]⟩ : Loc).lvl = top Hp:=by simp [top,S.len]
  have hlen:=hy.len
  obtain ⟨xs,e1,e2,e3⟩:=frz_all (pre:=[]) hl (by simpa using ha) hy
  refine ⟨xs,_,by rw [toVs_length e1,hlen],?_,?_,e3,by simpa using S.setG (cs':=ys.map .v) hi hf (by simp [hlen])⟩
  · have:=ha.ldAgg (j:=0) (n:=n) (agg:=true) (xs:=xs) (by omega) (by rw [List.drop_zero,List.take_of_length_le (by omega)]; exact e1)
    simpa [mkV] using this
  · intro frz τ
    cases frz <;> simp [expF,expC,e2]
end
end Go.Ev
namespace Go.Ev
section
variable {N : Nat} {h0 Hp : H} {B : List Rt} {Γ : List (Nat × Stamp × List C)} {Δ : List Gw}
end
end Go.Ev
namespace Go.Ev
section
variable {N : Nat} {h0 Hp : H} {B : List Rt} {Γ : List (Nat × Stamp × List C)} {Δ : List Gw}
theorem Fm.stFrz {H : Ev.H} (S : Fm N h0 B Γ Δ Hp) {i d j n : Nat} {s σ : Stamp} {cs cs0 : List C} {B0 : List Rt} {Γ0 : List (Nat × Stamp × List C)} {Δ0 : List Gw} {i0 : Nat} {xs ys : List V} (S0 : Fm N h0 B0 Γ0 Δ0 H) (hi0 : Γ0[i0]? = some (d,s,cs0)) (hl : layCs false H xs = some (ys.map .v,Hp)) (hi : Γ[i]? = some (d,s,cs)) (hf : (freeG (Γ.eraseIdx i) d && freeD Δ d) = true) (hx : xs.length = ys.length) (hn : ys.length = n) (hj : decide (j + n ≤ cs.length) = true) :
    ∃ H',stO false n σ H (.ref ⟨h0.length,d,0,s,[]⟩ j) (.agg xs) = some H'∧Fm N h0 B (Γ.set i (d,s,cs.take j ++ ys.map .v ++ cs.drop (j + n))) Δ H':=by
  have hj:=of_decide_eq_true hj
  obtain ⟨p0,q0,hn0,hp0⟩:=S0.atG hi0
  have ha:=S.atG hi
  have h00 : p0 = []:=List.length_eq_zero_iff.1 hp0
  subst h00
  obtain ⟨p,q,hn1,hp⟩:=ha
  have h01 : p = []:=List.length_eq_zero_iff.1 hp
  subst h01
  refine ⟨_,?_,S.setG (cs':=cs.take j ++ ys.map .v ++ cs.drop (j + n)) hi hf (by simp; omega)⟩
  unfold stO
  have hsm : sameArr ⟨h0.length,d,0,s,[]⟩ j ([] ++ cs0 ++ q0)[j]? (.agg xs) = false:=same_no (by simp)
  have hc : (V.agg xs).cells = xs:=rfl
  simp only [hc,hx,hn,hn0,hsm,hl,Option.bind_some,hn1,List.length_map]
  simp only [Bool.not_true,Bool.false_or,bne_self_eq_false,Bool.false_eq_true,if_false]
  rw [if_pos (by simp; omega),ptC_eq (off:=0) hn1 rfl (by simp; omega)]
  simp only [List.nil_append]
  rw [List.take_append_of_le_length (by omega),List.drop_append_of_le_length (by omega)]
  simp
end
end Go.Ev
namespace Go.Ev
def andL : List Bool→Option Bool
  | [] => some true
  | b::bs => (some b).bind fun r => if r = true then andL bs else some false
def andB : List Bool→Bool
  | [] => true
  | b::bs => b && andB bs
theorem andL_ok : ∀ bs : List Bool,andL bs = some (andB bs)
  | [] => rfl
  | b::bs => by cases b <;> simp [andL,andB,andL_ok bs]
theorem eqS_v {P : Program} {h : H} {t : TypeId} {xs ys : List V} {b : Bool} (hb : flatE P t xs ys = some b) : eqlV P h t (.agg xs) (.agg ys) = some b:=by
  have hb0:=hb
  unfold flatE at hb
  split at hb
  · rename_i fs hu
    simp only [eqlV,hu,hb0]
  · rename_i n e hu
    simp only [eqlV,hu,hb0]
  · cases hb
theorem nqS_ok {P : Program} {h : H} {t : TypeId} {xs ys : List V} {bs : List Bool} (hb : flatE P t xs ys = andL bs) : binV P h .neq t (.agg xs) (.agg ys) = some (.p (.bool !(andB bs))):=by
  show (eqlV P h t (.agg xs) (.agg ys)).map _ = _
  rw [eqS_v (hb.trans (andL_ok bs))]; rfl
end Go.Ev
namespace Go.Ev
theorem lc_nil {H : Ev.H} : layCs false H [] = some (([] : List V).map C.v,H):=rfl
theorem lc_pl {H H' : Ev.H} {x : V} {xs ys : List V} (hx : Still x) (t : layCs false H xs = some (ys.map C.v,H')) : layCs false H (x::xs) = some ((x::ys).map C.v,H'):=by
  simp only [layCs,hx.lay,Option.bind_some,t,List.map_cons]
theorem lc_st {H H1 H' : Ev.H} {x y : V} {xs ys : List V} (hx : layC false H x = some (.v y,H1)) (t : layCs false H1 xs = some (ys.map C.v,H')) : layCs false H (x::xs) = some ((y::ys).map C.v,H'):=by
  simp only [layCs,hx,Option.bind_some,t,List.map_cons]
section
variable {N : Nat} {h0 Hp : H} {B : List Rt} {Γ : List (Nat × Stamp × List C)} {Δ : List Gw}
theorem Fm.cellsD (S : Fm N h0 B Γ Δ Hp) {i : Nat} {g : Gw} (hi : Δ[i]? = some g) : g.v.cells = [g.v]:=by
  obtain ⟨L,rfl,h2,h3,h4,h5⟩:=S
  obtain ⟨cs,q1,q2⟩:=h5 g (List.mem_of_getElem? hi)
  rcases q2 with ⟨e1,e2,e3⟩ | ⟨q2,d',hd',s,tl,hv,h6⟩ | ⟨hv,q2,_⟩
  · rcases e3 with e | e <;> rw [e] <;> rfl
  · rw [hv]; rfl
  · rw [hv]; rfl
theorem Fm.layD (S : Fm N h0 B Γ Δ Hp) {i : Nat} {g : Gw} (hi : Δ[i]? = some g) (hf : freeL g.D Γ (Δ.eraseIdx i) = true) : ∃ y H',layC false Hp g.v = some (.v y,H')∧SlF g.d g.xs y∧Fm N h0 B Γ (Δ.eraseIdx i) H':=by
  have S' : Fm N h0 B Γ (Δ.eraseIdx i) Hp:=S.wk (fun _ h => h) (fun _ h => mem_erase h)
  obtain ⟨L,rfl,h2,h3,h4,h5⟩:=S
  obtain ⟨cs,q1,q2⟩:=h5 g (List.mem_of_getElem? hi)
  rw [← pts_length B] at q2
  rcases q2 with ⟨e1,e2,e3⟩ | ⟨q2,d',hd',s,tl,hv,h6⟩ | ⟨hv,q2,_⟩
  · refine ⟨g.v,_,?_,⟨cs,?_,q1⟩,S'⟩
    · rcases e3 with e | e <;> rw [e]
      · exact still_nilS.lay ..
      · exact (still_fz ..).lay ..
    · rw [e1,e2]
      rcases e3 with e | e <;> rw [e]
      · exact .nil _
      · exact .fz (by simp) _
  · refine ⟨.fz cs g.xs.length g.d.sz false,_,?_,⟨cs,.fz q2 _,q1⟩,dead_ok S' (mem_one hf hd') (.dead::tl)⟩
    have h1 : at_ (L::pts h0 B) ⟨(pts h0 B).length,d',0,s,[]⟩ = some (.arr s g.xs.length g.d.sz (cs.map .v)):=at_root h6 (by simp [C.node])
    have h7:=setAt_root (h:=pts h0 B) (s:=s) h6 .dead
    have h8 : rng cs 0 (g.xs.length * g.d.sz) = some cs:=by unfold rng; rw [if_pos (by omega)]; simp [← q2]
    rw [hv]
    simp [layC,h1,h7,h8,plainCells_map,Loc.last,q2]
  · exact ⟨g.v,_,by rw [hv]; exact (still_fz ..).lay ..,⟨cs,by rw [hv]; exact .fz q2 _,q1⟩,S'⟩
end
end Go.Ev
namespace Go.Ev
section
variable {h : H} {l : Loc} {off j n : Nat} {cs : List C} {α : Type} {xs : List α} {f : α→V}
end
section
variable {N : Nat} {h0 Hp : H} {B : List Rt} {Γ : List (Nat × Stamp × List C)} {Δ : List Gw}
end
end Go.Ev
namespace Go.Ev
theorem frzA_still {x : V} (hx : Still x) (hr : ∀ l o,x ≠ .ref l o) (hz : ∀ cs n e t,x = .fz cs n e t→Stills cs) (h : H) : frzA h x = some (x,h):=by
  unfold frzA
  split
  · exact absurd rfl (hr _ _)
  · have:=hx.lay false h; simp [layC] at this
  · rw [frzCs_still h (hz _ _ _ _ rfl)]; rfl
  · rw [hx.lay false h]; rfl
theorem SlH.fzs {α : Type} {d : Dt α} {xs : List α} {v : V} {h : H} (hx : SlH h d xs v) : ∀ cs n e t,v = .fz cs n e t→Stills cs:=by
  intro cs n e t he
  obtain ⟨cs',h1,h2⟩:=hx
  have:=h1.cells
  subst he
  simp only [cellsOf,Option.some.injEq] at this
  rw [this]
  exact RL.stills h2
theorem frzA_F {α : Type} {d : Dt α} {xs : List α} {v : V} (hx : SlF d xs v) {h : H} : frzA h v = some (v,h):=by
  refine frzA_still hx.still (fun l o he => ?_) (hx.h []).fzs h
  obtain ⟨cs,h1,_⟩:=hx
  have:=(h1 []).sl
  subst he
  simp [isSl] at this
theorem frzA_D {α : Type} {d : Dt α} {xs : List α} {h h' : H} {v y : V} (hv : SlH h d xs v) (e : layC false h v = some (.v y,h')) : frzA h v = some (y,h'):=by
  have hs : isSl v = true:=by obtain ⟨cs,h1,_⟩:=hv; exact h1.sl
  unfold frzA
  split
  · simp [isSl] at hs
  · simp [isSl] at hs
  · rw [frzCs_still h (hv.fzs _ _ _ _ rfl)]
    simp only [layC,Option.some.injEq,Prod.mk.injEq,C.v.injEq] at e
    obtain ⟨rfl,rfl⟩:=e
    rfl
  · rw [e]; rfl
theorem frzAs_nil {h : H} : frzAs h [] = some ([],h):=rfl
theorem frzAs_cons {h h1 h2 : H} {x y : V} {xs ys : List V} (a : frzA h x = some (y,h1)) (b : frzAs h1 xs = some (ys,h2)) : frzAs h (x::xs) = some (y::ys,h2):=by
  simp only [frzAs,a,Option.bind_some,b,Option.map_some]
theorem callFO_eq {rec : CallF} {f : FuncId} {σ : Stamp} {args args' : List V} {H H' : Go.Ev.H} {d : Option Nat} (e : frzAs H args = some (args',H')) : callFO rec f σ args H d = callO rec f σ args' H' d:=by
  unfold callFO callO; rw [e]; rfl
theorem Fm.layF {N : Nat} {h0 Hp : H} {B : List Rt} {Γ : List (Nat × Stamp × List C)} {Δ : List Gw} (S : Fm N h0 B Γ Δ Hp) {i : Nat} {g : Gw} (hi : Δ[i]? = some g) (hf : freeL g.D Γ (Δ.eraseIdx i) = true) : ∃ y H',frzA Hp g.v = some (y,H')∧SlF g.d g.xs y∧Fm N h0 B Γ (Δ.eraseIdx i) H':=by
  have hs:=(S.sl hi)
  obtain ⟨y,H',e,hy,S'⟩:=S.layD hi hf
  exact ⟨y,H',frzA_D hs e,hy,S'⟩
def zB (n : Int) : Option (List Int):=if 0 ≤ n∧n < 2 ^ 40 then some (List.replicate n.toNat 0) else none
theorem bytesS_zeros (n : Nat) : bytesS (zerosB n) = List.replicate n 0:=by
  unfold bytesS zerosB
  simp
theorem Fm.appZ {N : Nat} {h0 Hp : H} {B : List Rt} {Γ : List (Nat × Stamp × List C)} {Δ : List Gw} (S : Fm N h0 B Γ Δ Hp) {i d : Nat} {D : List Nat} {v0 : V} {xs : List Int} {own : Bool} {σ : Stamp} {n : Int} {ys zs : List Int} (hi : Δ[i]? = some ⟨D,v0,dI .u8,xs⟩) (hn : zB n = some ys) (hz : ap 1 xs ys = some zs) (hd : d < N) (hf : freeL (d::D) Γ (Δ.eraseIdx i) = true) :
    ∃ v H',apZ own 1 1 σ d Hp v0 n = some (v,H')∧Fm N h0 B Γ (Δ.set i ⟨d::D,v,dI .u8,zs⟩) H':=by
  unfold zB at hn
  split at hn
  · rename_i hc
    cases hn
    rw [← bytesS_zeros] at hz
    obtain ⟨v,H',e,S'⟩:=S.app (own:=own) (σ:=σ) (e:=1) hi (ysS Hp (zerosB n.toNat)) hz rfl (by decide) hd hf
    refine ⟨v,H',?_,S'⟩
    have hl : (lenOf v0).getD 0 < 2 ^ 60:=by
      obtain ⟨cs,h1,_⟩:=(S.sl hi)
      have h2 : lenOf v0 = some xs.length:=h1.ys.len
      have:=(ap_some hz).1.1
      rw [h2]
      show xs.length < 2 ^ 60
      omega
    unfold apZ
    rw [if_pos ⟨hc.1,hc.2,hl⟩]
    exact e
  · cases hn
end Go.Ev
namespace Go.Ev
def OwnA {α : Type} (D : List Nat) (h : H) (dt : Dt α) (xs : List α) (v : V) : Prop:=∃ cs L h1,h = L::h1∧dt.L xs cs∧GrowS D L h1.length v dt.sz xs.length cs
def KillA (D : List Nat) (h h' : H) : Prop:=∃ L L' h1,h = L::h1∧h' = L'::h1∧L'.length = L.length∧∀ j,j ∉ D→L'[j]? = L[j]?
theorem OwnA.h {α : Type} {D : List Nat} {h : H} {dt : Dt α} {xs : List α} {v : V} (ho : OwnA D h dt xs v) : SlH h dt xs v:=by
  obtain ⟨cs,L,h1,rfl,hl,hg⟩:=ho
  exact ⟨cs,hg.sl,hl⟩
theorem OwnA.refl {α : Type} {D : List Nat} {h : H} {dt : Dt α} {xs : List α} {v : V} (ho : OwnA D h dt xs v) : KillA D h h:=by
  obtain ⟨cs,L,h1,rfl,_,_⟩:=ho
  exact ⟨L,L,h1,rfl,rfl,rfl,fun _ _ => rfl⟩
def cpP {α : Type} (xs : List α) (a n : Nat) (ys : List α) : List α:=xs.take a ++ ys.take n ++ xs.drop (a + n)
def cpS {α : Type} (xs : List α) (a : Int) (sb ys : List α) : Option (List α):=some (cpP xs a.toNat (min ys.length sb.length) ys)
theorem GrowS.copy {D : List Nat} {L : Layer} {h : H} {v : V} {k n : Nat} {xs : List V} (ha : GrowS D L h.length v k n xs) (hD : noLit D = true) {a b m : Nat} (hab : a ≤ b) (hb : b ≤ n) {y : V} {ys : List V} (hy : IsSl (L::h) y k m ys) (hs : Stills ys) :
    ∃ L',cpO k (L::h) (subV k v a b) y = some (.p (.int .i64 ((min m (b - a) : Nat) : Int)),L'::h)∧GrowS D L' h.length v k n (xs.take (a * k) ++ ys.take (min m (b - a) * k) ++ xs.drop (a * k + min m (b - a) * k))∧L'.length = L.length∧∀ j,j ∉ D→L'[j]? = L[j]?:=by
  have hyl:=hy.clen
  by_cases h0 : min m (b - a) = 0
  · refine ⟨L,?_,?_,rfl,fun j _ => rfl⟩
    · have h1:=(ha.sl.sub hab hb).len
      have hsl : isSl (subV k v a b) = true:=by
        rcases ha with ⟨_,_,rfl | rfl⟩ | ⟨_,_,_,_,_,rfl,_⟩ | ⟨rfl,_⟩ <;> rfl
      unfold cpO
      rw [h1,Option.bind_some,hy.len,Option.bind_some,hy.cells,Option.bind_some,if_neg (by rw [hyl]; simp),if_neg (by rw [hsl]; simp),if_pos h0,h0]
      rfl
    · rw [h0,Nat.zero_mul,List.take_zero,List.append_nil,Nat.add_zero,List.take_append_drop]
      exact ha
  · rcases ha with ⟨rfl,_,_⟩ | ⟨h2,d',hd',s,tl,rfl,h3⟩ | ⟨_,_,_,hd⟩
    · omega
    · generalize hq : min m (b - a) = q at h0 ⊢
      have hlt:=(List.getElem?_eq_some_iff.1 h3).1
      have hqk : q * k ≤ m * k:=Nat.mul_le_mul_right _ (by omega)
      have hqb : a * k + q * k ≤ n * k:=by rw [← Nat.add_mul]; exact Nat.mul_le_mul_right _ (by omega)
      have hyt : (ys.take (q * k)).length = q * k:=by rw [List.length_take,hyl]; omega
      have hst : Stills (ys.take (q * k)):=fun x hx => hs x (List.mem_of_mem_take hx)
      have hlen : (xs.take (a * k) ++ ys.take (q * k) ++ xs.drop (a * k + q * k)).length = n * k:=by
        rw [List.length_append,List.length_append,hyt,List.length_take,List.length_drop]; omega
      refine ⟨L.set d' (.arr s n k ((xs.take (a * k) ++ ys.take (q * k) ++ xs.drop (a * k + q * k)).map .v)::tl),?_,.inr (.inl ⟨hlen,d',hd',s,tl,rfl,by simp [hlt]⟩),by simp,fun j hj => ?_⟩
      · unfold cpO
        rw [subV,hy.len,hy.cells]
        simp only [lenOf,Option.bind_some]
        rw [if_neg (by rw [hyl]; simp),if_neg (by simp [isSl]),if_neg (by rw [hq]; exact h0),if_pos (by simp [eszIs]),hq]
        simp only [cpO.ovO]
        rw [if_neg (by rw [hyt]; omega),layCs_still true (L::h) hst,Option.bind_some,nd_arr h3,Option.bind_some]
        simp only [List.length_map,hyt]
        rw [if_pos (by omega),setNd_arr h3,Option.map_some]
        simp [List.map_take,List.map_drop]
      · rw [List.getElem?_set_ne (fun e => hj (by rw [← e]; exact hd'))]
    · exact (noLit_no hD hd).elim
theorem Fm.copyD {N : Nat} {h0 Hp : H} {B : List Rt} {Γ : List (Nat × Stamp × List C)} {Δ : List Gw} (S : Fm N h0 B Γ Δ Hp) {i e : Nat} {g : Gw} {a b : Int} {sb ys zs : List g.α} {yv : V} (hi : Δ[i]? = some g) (hs : Ev.sub g.xs a b = some sb) (hz : cpS g.xs a sb ys = some zs) (hy : SlH Hp g.d ys yv) (he : g.d.sz = e) (hD : noLit g.D = true) (hf : freeL g.D Γ (Δ.eraseIdx i) = true) :
    ∃ H',cpO e Hp (subV e g.v a.toNat b.toNat) yv = some (.p (.int .i64 ((min ys.length sb.length : Nat) : Int)),H')∧Fm N h0 B Γ (Δ.set i ⟨g.D,g.v,g.d,zs⟩) H':=by
  subst he
  obtain rfl:=Option.some.inj hz
  obtain ⟨⟨q0,q1,q2⟩,rfl⟩:=sub_some hs
  obtain ⟨L,rfl,h2,h3,h4,h5⟩:=S
  obtain ⟨cs,r1,r2⟩:=h5 g (List.mem_of_getElem? hi)
  obtain ⟨ds,y1,y2⟩:=hy
  rw [← pts_length B] at r2
  have hlt:=(List.getElem?_eq_some_iff.1 hi).1
  have hsl : ((g.xs.drop a.toNat).take (b - a).toNat).length = b.toNat - a.toNat:=by rw [List.length_take,List.length_drop]; omega
  rw [hsl]
  obtain ⟨L',e1,e2,e3,e4⟩:=r2.copy hD (a:=a.toNat) (b:=b.toNat) (by omega) (by omega) y1 (RL.stills y2)
  have hfr:=List.all_eq_true.1 hf
  refine ⟨_,e1,L',rfl,by omega,h3,fun e he => by
    rw [e4 _ fun hm => ?_]
    · exact h4 e he
    · have:=hfr _ hm
      simp only [Bool.and_eq_true] at this
      exact freeG_ne this.1 he rfl,fun g' hg' => ?_⟩
  rcases mem_set hg' hlt with rfl | hg'
  · have hpl : (cpP g.xs a.toNat (min ys.length (b.toNat - a.toNat)) ys).length = g.xs.length:=by
      unfold cpP
      rw [List.length_append,List.length_append,List.length_take,List.length_take,List.length_drop]; omega
    refine ⟨_,?_,by rw [← pts_length B]; simp only [hpl]; exact e2⟩
    have t1:=RL.take (fun h => g.d.len h) a.toNat r1
    have t2:=RL.take (fun h => g.d.len h) (min ys.length (b.toNat - a.toNat)) y2
    have t3:=RL.drop (fun h => g.d.len h) (a.toNat + min ys.length (b.toNat - a.toNat)) r1
    rw [Nat.add_mul] at t3
    exact (t1.append t2).append t3
  · exact (h5 g' (mem_erase hg')).frame fun x hx => e4 x fun hm => by
      have:=hfr _ hm
      simp only [Bool.and_eq_true] at this
      exact freeD_ne this.2 hg' hx
theorem SlF.int1 (k : IntKind) (n : Int) : SlF (dI k) [n] (.fz [.p (.int k n)] 1 1 true):=SlF.lit (cs:=[.p (.int k n)]) (RL.cons (show (dI k).R n [.p (.int k n)] from rfl) RL.nil) rfl rfl true
abbrev vOf {α : Type} {d : Dt α} {xs : List α} {v : V} (_ : SlF d xs v) : V:=v
section
variable {β α γ δ : Type} {Q : β→α→Prop} {x : Option β} {K : δ→Option α}
theorem Sim.ci {k : IntKind} {n : Int} {f : Int→Option δ} (s : Sim x ((f n).bind K) Q) : Sim x (((castI k (.p (.int k n))).bind f).bind K) Q:=Sim.op (castI_p _ _) s
theorem Sim.ab {b : Bool} {f : Bool→Option δ} (s : Sim x ((f b).bind K) Q) : Sim x (((asB (.p (.bool b))).bind f).bind K) Q:=Sim.op (asB_p _) s
theorem Sim.nc {l : Loc} {o : Nat} {f : V→Option δ} (s : Sim x ((f (.ref l o)).bind K) Q) : Sim x (((nilChk (.ref l o)).bind f).bind K) Q:=Sim.op (nilChk_ref _ _) s
theorem Sim.fa {l : Loc} {o k : Nat} {f : V→Option δ} (s : Sim x ((f (.ref l (o + k))).bind K) Q) : Sim x (((fA (.ref l o) k).bind f).bind K) Q:=Sim.op (fA_ref _ _ _) s
theorem Sim.or {v : γ} {g : γ→Option δ} (s : Sim x ((g v).bind K) Q) : Sim x (((some v).bind g).bind K) Q:=s
theorem Sim.cq {c : Bool} {a b : Option β} {A B : Option δ} (s : Sim a (A.bind K) Q) (t : Sim b (B.bind K) Q) : Sim (bif c then a else b) ((bif c then A else B).bind K) Q:=Sim.cd (fun _ => s) (fun _ => t)
theorem Sim.cqk {c : Bool} {a b : Option β} {A B : Option γ} {g : γ→Option δ} (s : Sim a ((A.bind g).bind K) Q) (t : Sim b ((B.bind g).bind K) Q) : Sim (bif c then a else b) (((bif c then A else B).bind g).bind K) Q:=Sim.cdk (fun _ => s) (fun _ => t)
end
end Go.Ev
namespace Go.Ev
set_option linter.unusedVariables false
structure TzTape where
  f_L : (List Int)
  f_At : Int
def TzTape.tp (x : TzTape) : ((List Int) × (Int × Unit)):=(x.f_L,(x.f_At,()))
structure TaiTuple where
  Owner : Int
  Rate : Int
  Over : Int
def TaiTuple.tp (x : TaiTuple) : (Int × (Int × (Int × Unit))):=(x.Owner,(x.Rate,(x.Over,())))
def dTaiTuple : Dt TaiTuple:=(dP (dI .u32) (dP (dI .u64) (dP (dI .i64) dU))).via TaiTuple.tp
theorem dTaiTuple.inv {x : TaiTuple} {vs : List V} (h : dTaiTuple.R x vs) : vs = [.p (.int .u32 x.Owner),.p (.int .u64 x.Rate),.p (.int .i64 x.Over)]:=by
  obtain ⟨u0,w0,e0,h0,u1,w1,e1,h1,u2,w2,e2,h2,hend⟩:=h
  obtain rfl : u0 = [.p (.int .u32 x.Owner)]:=h0
  obtain rfl : u1 = [.p (.int .u64 x.Rate)]:=h1
  obtain rfl : u2 = [.p (.int .i64 x.Over)]:=h2
  obtain rfl:=(show _ = [] from hend)
  subst e2
  subst e1
  subst e0
  rfl
theorem dTaiTuple.mk {y_Owner : Int} {y_Rate : Int} {y_Over : Int}  : dTaiTuple.R (⟨y_Owner,y_Rate,y_Over⟩ : TaiTuple) [.p (.int .u32 y_Owner),.p (.int .u64 y_Rate),.p (.int .i64 y_Over)]:=⟨[.p (.int .u32 y_Owner)],[.p (.int .u64 y_Rate),.p (.int .i64 y_Over)],rfl,rfl,⟨[.p (.int .u64 y_Rate)],[.p (.int .i64 y_Over)],rfl,rfl,⟨[.p (.int .i64 y_Over)],[],rfl,rfl,rfl⟩⟩⟩
structure TaiReport where
  Kind : Int
  From : Int
  About : Int
  Tuples : (List TaiTuple)
  Abouts : (List Int)
  Numbers : (List Int)
  Rate : Int
  f_Type : Int
  Count : Int
  Body : (List Int)
def TaiReport.tp (x : TaiReport) : (Int × (Int × (Int × ((List TaiTuple) × ((List Int) × ((List Int) × (Int × (Int × (Int × ((List Int) × Unit)))))))))):=(x.Kind,(x.From,(x.About,(x.Tuples,(x.Abouts,(x.Numbers,(x.Rate,(x.f_Type,(x.Count,(x.Body,()))))))))))
def dTaiReport : Dt TaiReport:=(dP (dI .i64) (dP (dI .u32) (dP (dI .u32) (dP (dSl dTaiTuple) (dP (dSl (dI .u32)) (dP (dSl (dI .i64)) (dP (dI .u64) (dP (dI .i64) (dP (dI .i64) (dP (dSl (dI .u8)) dU)))))))))).via TaiReport.tp
theorem dTaiReport.inv {x : TaiReport} {vs : List V} (h : dTaiReport.R x vs) : ∃ v3 v4 v5 v9,vs = [.p (.int .i64 x.Kind),.p (.int .u32 x.From),.p (.int .u32 x.About),v3,v4,v5,.p (.int .u64 x.Rate),.p (.int .i64 x.f_Type),.p (.int .i64 x.Count),v9]∧SlF dTaiTuple x.Tuples v3∧SlF (dI .u32) x.Abouts v4∧SlF (dI .i64) x.Numbers v5∧SlF (dI .u8) x.Body v9:=by
  obtain ⟨u0,w0,e0,h0,u1,w1,e1,h1,u2,w2,e2,h2,u3,w3,e3,h3,u4,w4,e4,h4,u5,w5,e5,h5,u6,w6,e6,h6,u7,w7,e7,h7,u8,w8,e8,h8,u9,w9,e9,h9,hend⟩:=h
  obtain rfl : u0 = [.p (.int .i64 x.Kind)]:=h0
  obtain rfl : u1 = [.p (.int .u32 x.From)]:=h1
  obtain rfl : u2 = [.p (.int .u32 x.About)]:=h2
  obtain ⟨v3,rfl,s3⟩:=h3
  obtain ⟨v4,rfl,s4⟩:=h4
  obtain ⟨v5,rfl,s5⟩:=h5
  obtain rfl : u6 = [.p (.int .u64 x.Rate)]:=h6
  obtain rfl : u7 = [.p (.int .i64 x.f_Type)]:=h7
  obtain rfl : u8 = [.p (.int .i64 x.Count)]:=h8
  obtain ⟨v9,rfl,s9⟩:=h9
  obtain rfl:=(show _ = [] from hend)
  subst e9
  subst e8
  subst e7
  subst e6
  subst e5
  subst e4
  subst e3
  subst e2
  subst e1
  subst e0
  exact ⟨v3,v4,v5,v9,rfl,s3,s4,s5,s9⟩
theorem dTaiReport.mk {y_Kind : Int} {y_From : Int} {y_About : Int} {y_Tuples : (List TaiTuple)} {y_Abouts : (List Int)} {y_Numbers : (List Int)} {y_Rate : Int} {y_f_Type : Int} {y_Count : Int} {y_Body : (List Int)} {v3 : V} {v4 : V} {v5 : V} {v9 : V} (s3 : SlF dTaiTuple y_Tuples v3) (s4 : SlF (dI .u32) y_Abouts v4) (s5 : SlF (dI .i64) y_Numbers v5) (s9 : SlF (dI .u8) y_Body v9) : dTaiReport.R (⟨y_Kind,y_From,y_About,y_Tuples,y_Abouts,y_Numbers,y_Rate,y_f_Type,y_Count,y_Body⟩ : TaiReport) [.p (.int .i64 y_Kind),.p (.int .u32 y_From),.p (.int .u32 y_About),v3,v4,v5,.p (.int .u64 y_Rate),.p (.int .i64 y_f_Type),.p (.int .i64 y_Count),v9]:=⟨[.p (.int .i64 y_Kind)],[.p (.int .u32 y_From),.p (.int .u32 y_About),v3,v4,v5,.p (.int .u64 y_Rate),.p (.int .i64 y_f_Type),.p (.int .i64 y_Count),v9],rfl,rfl,⟨[.p (.int .u32 y_From)],[.p (.int .u32 y_About),v3,v4,v5,.p (.int .u64 y_Rate),.p (.int .i64 y_f_Type),.p (.int .i64 y_Count),v9],rfl,rfl,⟨[.p (.int .u32 y_About)],[v3,v4,v5,.p (.int .u64 y_Rate),.p (.int .i64 y_f_Type),.p (.int .i64 y_Count),v9],rfl,rfl,⟨[v3],[v4,v5,.p (.int .u64 y_Rate),.p (.int .i64 y_f_Type),.p (.int .i64 y_Count),v9],rfl,⟨v3,rfl,s3⟩,⟨[v4],[v5,.p (.int .u64 y_Rate),.p (.int .i64 y_f_Type),.p (.int .i64 y_Count),v9],rfl,⟨v4,rfl,s4⟩,⟨[v5],[.p (.int .u64 y_Rate),.p (.int .i64 y_f_Type),.p (.int .i64 y_Count),v9],rfl,⟨v5,rfl,s5⟩,⟨[.p (.int .u64 y_Rate)],[.p (.int .i64 y_f_Type),.p (.int .i64 y_Count),v9],rfl,rfl,⟨[.p (.int .i64 y_f_Type)],[.p (.int .i64 y_Count),v9],rfl,rfl,⟨[.p (.int .i64 y_Count)],[v9],rfl,rfl,⟨[v9],[],rfl,⟨v9,rfl,s9⟩,rfl⟩⟩⟩⟩⟩⟩⟩⟩⟩⟩
structure T_rtcp_reader where
  b : (List Int)
  f_at : Int
  bad : Bool
def T_rtcp_reader.tp (x : T_rtcp_reader) : ((List Int) × (Int × (Bool × Unit))):=(x.b,(x.f_at,(x.bad,())))
end Go.Ev
namespace Go.Ev
open Go.Proofs
def ownT : TypeId→Bool:=fun t => [].contains t
def frzF : FuncId→Bool:=fun f => [24,25,49,56,88,91,129,45,55,14,18].contains f
def frzIn : FuncId→Bool:=fun f => [25,24,19,16].contains f
def frzMk : TypeId→Bool:=fun t => [].contains t
noncomputable def G : Cfg:=⟨Try.prog,ownT,frzF,frzIn,frzMk⟩
noncomputable def X0 : CallF:=fun _ _ _ _ => none
theorem x_ok (B : Nat) : CallOk G B X0:=no_ext B
theorem mixed : G.P.follows .mixedOrders = true:=by kernel_rfl
end Go.Ev
namespace Go.Ev
open Go.Proofs
set_option linter.unusedVariables false
set_option linter.unusedSimpArgs false
set_option maxRecDepth 100000
noncomputable section
abbrev KT1:=Exit→Env→H→Option (List C × H)
variable (rec : CallF) (loop : LoopV) (σ : Stamp)
def zl6_RtcpNumbers_c0 : Code:=(codeAt (bodyOf Try.f3) [1,0,1,0,0])
def zl6_RtcpNumbers_l0 : Lv:=⟨0,1,[(0,0)]⟩
def zl6_RtcpNumbers_k0 : KT1:=(kBlock 0 (kSeq G rec loop (codeAt (bodyOf Try.f3) [1,1]) ⟨1,1,[]⟩ (1::0::σ) (finC G false Try.f3 (1::σ))))
def zl6_RtcpNumbers_c1 : Code:=(codeAt (bodyOf Try.f3) [1,0,1,0,0,1,0,0,1,1,1,0,1,0,0])
def zl6_RtcpNumbers_l1 : Lv:=⟨26,1,[(2,26),(1,2),(0,0)]⟩
def zl6_RtcpNumbers_k1 : Exit→Env→H→Option (Exit × Env × H):=(kBlock 2 (kSeq G rec loop (codeAt (bodyOf Try.f3) [1,0,1,0,0,1,0,0,1,1,1,1]) ⟨2,1,[(1,2),(0,0)]⟩ (1::1::1::0::1::0::σ) (kBlock 1 (kSeq G rec loop (codeAt (bodyOf Try.f3) [1,0,1,0,0,1,1]) ⟨2,1,[(0,0)]⟩ (1::0::σ) (kRound loop (codeAt (bodyOf Try.f3) [1,0,1,0,0]) ⟨0,1,[(0,0)]⟩ σ)))))
def zl6_RtcpNumbers_c2 : Code:=(codeAt (bodyOf Try.f3) [1,1,0,1,0,0])
def zl6_RtcpNumbers_l2 : Lv:=⟨0,1,[(8,0)]⟩
def zl6_RtcpNumbers_k2 : KT1:=(kBlock 8 (kSeq G rec loop (codeAt (bodyOf Try.f3) [1,1,1]) ⟨1,1,[]⟩ (1::1::0::σ) (finC G false Try.f3 (1::σ))))
def zl6_RtcpNumbers_c3 : Code:=(codeAt (bodyOf Try.f3) [1,0,1,0,0,1,0,0,1,1,1,0,1,0,0,1,0,0,1,0,0])
def zl6_RtcpNumbers_l3 : Lv:=⟨58,1,[(4,58),(3,58),(2,26),(1,2),(0,0)]⟩
def zl6_RtcpNumbers_k3 : Exit→Env→H→Option (Exit × Env × H):=(kBlock 4 (kBlock 3 (kSeq G rec loop (codeAt (bodyOf Try.f3) [1,0,1,0,0,1,0,0,1,1,1,0,1,0,0,1,1]) ⟨58,1,[(2,26),(1,2),(0,0)]⟩ (1::0::σ) (kRound loop (codeAt (bodyOf Try.f3) [1,0,1,0,0,1,0,0,1,1,1,0,1,0,0]) ⟨26,1,[(2,26),(1,2),(0,0)]⟩ σ))))
def zl6_RtcpNumbers_c4 : Code:=(codeAt (bodyOf Try.f3) [1,0,1,0,0,1,0,0,1,1,1,1,1,1,0,0])
def zl6_RtcpNumbers_l4 : Lv:=⟨2,1,[(6,2),(1,2),(0,0)]⟩
def zl6_RtcpNumbers_k4 : Exit→Env→H→Option (Exit × Env × H):=(kBlock 6 (kBlock 1 (kSeq G rec loop (codeAt (bodyOf Try.f3) [1,0,1,0,0,1,1]) ⟨2,1,[(0,0)]⟩ (1::0::σ) (kRound loop (codeAt (bodyOf Try.f3) [1,0,1,0,0]) ⟨0,1,[(0,0)]⟩ σ))))
def zl6_RtcpNumbers_c5 : Code:=(codeAt (bodyOf Try.f3) [1,1,0,1,0,0,1,0,0,1,0,0])
def zl6_RtcpNumbers_l5 : Lv:=⟨4096,1,[(10,4096),(9,4096),(8,0)]⟩
def zl6_RtcpNumbers_k5 : Exit→Env→H→Option (Exit × Env × H):=(kBlock 10 (kBlock 9 (kSeq G rec loop (codeAt (bodyOf Try.f3) [1,1,0,1,0,0,1,1]) ⟨4096,1,[(8,0)]⟩ (1::0::σ) (kRound loop (codeAt (bodyOf Try.f3) [1,1,0,1,0,0]) ⟨0,1,[(8,0)]⟩ σ))))
def zl6_RtcpNumbers_c6 : Code:=(codeAt (bodyOf Try.f3) [1,1,0,1,0,0,1,0,0,1,0,0,1,0,0,1,0,0])
def zl6_RtcpNumbers_l6 : Lv:=⟨12288,1,[(12,12288),(11,12288),(10,4096),(9,4096),(8,0)]⟩
def zl6_RtcpNumbers_k6 : Exit→Env→H→Option (Exit × Env × H):=(kBlock 12 (kBlock 11 (kSeq G rec loop (codeAt (bodyOf Try.f3) [1,1,0,1,0,0,1,0,0,1,0,0,1,1]) ⟨12288,1,[(10,4096),(9,4096),(8,0)]⟩ (1::0::σ) (kRound loop (codeAt (bodyOf Try.f3) [1,1,0,1,0,0,1,0,0,1,0,0]) ⟨4096,1,[(10,4096),(9,4096),(8,0)]⟩ σ))))
theorem zl6_RtcpNumbers_entry  (h : H) : cvBody G rec loop 3 σ [] h =
(loop zl6_RtcpNumbers_c0 zl6_RtcpNumbers_l0 (1::0::1::0::σ) (envL [(1,(.p (.int .i64 0)))]) (List.replicate 138 []::h)).bind fun r1 => zl6_RtcpNumbers_k0 rec loop σ r1.1 r1.2.1 r1.2.2:=by kernel_rfl
theorem zl6_RtcpNumbers_r0 (x1 : Int) (h : H) : cvRound G rec loop zl6_RtcpNumbers_c0 zl6_RtcpNumbers_l0 σ (envL [(1,(.p (.int .i64 x1)))]) h =
bif decide (x1 < 60) then (
(callO rec 14 (1::0::0::1::0::σ) [(.p (.int .i64 x1))] h (some 20)).bind fun q2 =>
(buildV Try.prog 26 [(0,q2.1)]).bind fun t3 =>
(boxO false (3::0::0::1::0::σ) 22 q2.2 t3).bind fun q4 =>
(callO rec 15 (1::0::1::0::1::0::σ) [q4.1] q4.2 (some 24)).bind fun q5 =>
(callO rec 15 (3::0::1::0::1::0::σ) [q4.1] q5.2 (some 26)).bind fun q6 =>
(some (alO [.p (.int .i64 0),.p (.int .u32 0),.p (.int .u32 0),.p (.slice none 0 0),.p (.slice none 0 0),.p (.slice none 0 0),.p (.int .u64 0),.p (.int .i64 0),.p (.int .i64 0),.p (.slice none 0 0)] (4::0::1::0::1::0::σ) 3 q6.2)).bind fun q7 =>
(some (alO [.p (.int .i64 0),.p (.int .u32 0),.p (.int .u32 0),.p (.slice none 0 0),.p (.slice none 0 0),.p (.slice none 0 0),.p (.int .u64 0),.p (.int .i64 0),.p (.int .i64 0),.p (.slice none 0 0)] (5::0::1::0::1::0::σ) 4 q7.2)).bind fun q8 =>
((stO false 10 (6::0::1::0::1::0::σ) q8.2 q7.1 q5.1).map fun h => (udf,h)).bind fun q9 =>
((stO false 10 (7::0::1::0::1::0::σ) q9.2 q8.1 q6.1).map fun h => (udf,h)).bind fun q10 =>
(ldO true 10 q10.2 q7.1).bind fun t11 =>
(ldO true 10 q10.2 q8.1).bind fun t12 =>
(bSV Try.prog 36 2 [(0,t11),(1,t12)]).bind fun t13 =>
(callFO rec 16 (3::0::0::1::1::0::1::0::σ) [t13] q10.2 (some 30)).bind fun q14 =>
(asB q14.1).bind fun b15 =>
(bif !b15 then (some ((.p (.bool true)),q14.2)) else ((ldO true 10 q14.2 q7.1).bind fun t16 =>
(bSV Try.prog 36 1 [(0,t16)]).bind fun t17 =>
(callFO rec 16 (8::0::0::1::1::0::1::0::σ) [t17] q14.2 (some 35)).bind fun q18 =>
(asB q18.1).bind fun b19 =>
some ((.p (.bool (!b19))),q18.2))).bind fun q20 =>
(asB q20.1).bind fun b21 =>
bif b21 then (
some (.ret,(envL [(0,(.p (.bool false)))]),q20.2))
else (
(loop zl6_RtcpNumbers_c1 zl6_RtcpNumbers_l1 (1::0::1::1::1::0::1::0::σ) (envL [(1,(.p (.int .i64 x1))),(3,q7.1),(4,q8.1),(5,(.p (.int .i64 0)))]) q20.2).bind fun r22 => zl6_RtcpNumbers_k1 rec loop σ r22.1 r22.2.1 r22.2.2))
else (
some ((.exit 0),(envL []),h)):=by kernel_rfl
theorem zl6_RtcpNumbers_a0_0  (h : H) : zl6_RtcpNumbers_k0 rec loop σ (.exit 0) (envL []) h =
(loop zl6_RtcpNumbers_c2 zl6_RtcpNumbers_l2 (1::0::1::1::0::σ) (envL [(12,(.p (.int .i64 190)))]) h).bind fun r23 => zl6_RtcpNumbers_k2 rec loop σ r23.1 r23.2.1 r23.2.2:=by kernel_rfl
theorem zl6_RtcpNumbers_a0_ret (x0 : Bool) (h : H) : zl6_RtcpNumbers_k0 rec loop σ .ret (envL [(0,(.p (.bool x0)))]) h =
fin false σ h [(.p (.bool x0))]:=by kernel_rfl
theorem zl6_RtcpNumbers_r1 (x1 : Int) (x3 : V) (x4 : V) (x5 : Int) (h : H) : cvRound G rec loop zl6_RtcpNumbers_c1 zl6_RtcpNumbers_l1 σ (envL [(1,(.p (.int .i64 x1))),(3,x3),(4,x4),(5,(.p (.int .i64 x5)))]) h =
bif decide (x5 < 11) then (
(bSV Try.prog 37 21 [(0,(.p (.int .i64 (-1)))),(1,(.p (.int .i64 0))),(2,(.p (.int .i64 1))),(3,(.p (.int .i64 3))),(4,(.p (.int .i64 6))),(5,(.p (.int .i64 7))),(6,(.p (.int .i64 31))),(7,(.p (.int .i64 32))),(8,(.p (.int .i64 191))),(9,(.p (.int .i64 192))),(10,(.p (.int .i64 205))),(11,(.p (.int .i64 206))),(12,(.p (.int .i64 223))),(13,(.p (.int .i64 224))),(14,(.p (.int .i64 255))),(15,(.p (.int .i64 256))),(16,(.p (.int .i64 511))),(17,(.p (.int .i64 512))),(18,(.p (.int .i64 131072))),(19,(.p (.int .i64 131073))),(20,(.p (.int .i64 1099511627776)))]).bind fun t24 =>
(lenO t24).bind fun t25 =>
(castI .i64 t25).bind fun n26 =>
(loop zl6_RtcpNumbers_c3 zl6_RtcpNumbers_l3 (1::0::1::0::σ) (envL [(1,(.p (.int .i64 x1))),(3,x3),(4,x4),(5,(.p (.int .i64 x5))),(42,t24),(43,(.p (.int .i64 n26))),(44,(.p (.int .i64 0)))]) h).bind fun r27 => zl6_RtcpNumbers_k3 rec loop σ r27.1 r27.2.1 r27.2.2)
else (
some ((.exit 2),(envL [(1,(.p (.int .i64 x1))),(3,x3),(4,x4)]),h)):=by kernel_rfl
theorem zl6_RtcpNumbers_a1_2 (x1 : Int) (x3 : V) (x4 : V) (h : H) : zl6_RtcpNumbers_k1 rec loop σ (.exit 2) (envL [(1,(.p (.int .i64 x1))),(3,x3),(4,x4)]) h =
(ldO true 10 h x3).bind fun t28 =>
(ldO true 10 h x4).bind fun t29 =>
(bSV Try.prog 36 2 [(0,t28),(1,t29)]).bind fun t30 =>
(callO rec 18 (3::0::1::1::1::1::0::1::0::σ) [t30] h (some 60)).bind fun q31 =>
(extV q31.1 0).bind fun t32 =>
(extV q31.1 1).bind fun t33 =>
(castI .i64 t33).bind fun n34 =>
(loop zl6_RtcpNumbers_c4 zl6_RtcpNumbers_l4 (1::1::1::1::1::1::0::1::0::σ) (envL [(1,(.p (.int .i64 x1))),(8,t32),(10,(.p (.int .i64 0)))]) q31.2).bind fun r35 => zl6_RtcpNumbers_k4 rec loop σ r35.1 r35.2.1 r35.2.2:=by kernel_rfl
theorem zl6_RtcpNumbers_a1_ret (x0 : Bool) (h : H) : zl6_RtcpNumbers_k1 rec loop σ .ret (envL [(0,(.p (.bool x0)))]) h =
some (.ret,(envL [(0,(.p (.bool x0)))]),h):=by kernel_rfl
theorem zl6_RtcpNumbers_r2 (x12 : Int) (h : H) : cvRound G rec loop zl6_RtcpNumbers_c2 zl6_RtcpNumbers_l2 σ (envL [(12,(.p (.int .i64 x12)))]) h =
bif decide (x12 < 226) then (
(loop zl6_RtcpNumbers_c5 zl6_RtcpNumbers_l5 (1::0::1::0::σ) (envL [(12,(.p (.int .i64 x12))),(13,(.p (.int .i64 0)))]) h).bind fun r36 => zl6_RtcpNumbers_k5 rec loop σ r36.1 r36.2.1 r36.2.2)
else (
some ((.exit 8),(envL []),h)):=by kernel_rfl
theorem zl6_RtcpNumbers_a2_8  (h : H) : zl6_RtcpNumbers_k2 rec loop σ (.exit 8) (envL []) h =
(mkO 1 1 [.p (.int .u8 0)] (0::0::1::1::1::0::σ) 130 h 1504 1504).bind fun q37 =>
(callFO rec 19 (1::0::1::1::1::0::σ) [q37.1] q37.2 (some 131)).bind fun q38 =>
(asB q38.1).bind fun b39 =>
(bif b39 then ((callFO rec 16 (3::0::1::1::1::0::σ) [(.p (.slice .none 0 0))] q38.2 (some 133)).bind fun q40 =>
(asB q40.1).bind fun b41 =>
some ((.p (.bool b41)),q40.2)) else (some ((.p (.bool false)),q38.2))).bind fun q42 =>
(asB q42.1).bind fun b43 =>
(bif b43 then ((callO rec 20 (6::0::1::1::1::0::σ) [] q42.2 (some 136)).bind fun q44 =>
(asB q44.1).bind fun b45 =>
some ((.p (.bool b45)),q44.2)) else (some ((.p (.bool false)),q42.2))).bind fun q46 =>
(asB q46.1).bind fun b47 =>
fin false σ q46.2 [(.p (.bool b47))]:=by kernel_rfl
theorem zl6_RtcpNumbers_a2_ret (x0 : Bool) (h : H) : zl6_RtcpNumbers_k2 rec loop σ .ret (envL [(0,(.p (.bool x0)))]) h =
fin false σ h [(.p (.bool x0))]:=by kernel_rfl
theorem zl6_RtcpNumbers_r3 (x1 : Int) (x3 : V) (x4 : V) (x5 : Int) (x42 : V) (x43 : Int) (x44 : Int) (h : H) : cvRound G rec loop zl6_RtcpNumbers_c3 zl6_RtcpNumbers_l3 σ (envL [(1,(.p (.int .i64 x1))),(3,x3),(4,x4),(5,(.p (.int .i64 x5))),(42,x42),(43,(.p (.int .i64 x43))),(44,(.p (.int .i64 x44)))]) h =
bif decide (x44 < x43) then (
(iS 1 x42 x44).bind fun t48 =>
(ldO false 1 h t48).bind fun t49 =>
(castI .i64 t49).bind fun n50 =>
(ldO true 10 h x3).bind fun t51 =>
(callO rec 17 (3::0::1::0::1::1::0::σ) [t51,(.p (.int .i64 x5)),(.p (.int .i64 n50))] h (some 51)).bind fun q52 =>
(bSV Try.prog 36 1 [(0,q52.1)]).bind fun t53 =>
(callFO rec 16 (5::0::1::0::1::1::0::σ) [t53] q52.2 (some 53)).bind fun q54 =>
(asB q54.1).bind fun b55 =>
bif !b55 then (
some (.ret,(envL [(0,(.p (.bool false)))]),q54.2))
else (
loop zl6_RtcpNumbers_c3 zl6_RtcpNumbers_l3 (1::σ) (envL [(1,(.p (.int .i64 x1))),(3,x3),(4,x4),(5,(.p (.int .i64 x5))),(42,x42),(43,(.p (.int .i64 x43))),(44,(.p (.int .i64 (IntKind.wrap .i64 (x44 + 1)))))]) q54.2))
else (
some ((.exit 4),(envL [(1,(.p (.int .i64 x1))),(3,x3),(4,x4),(5,(.p (.int .i64 x5)))]),h)):=by kernel_rfl
theorem zl6_RtcpNumbers_a3_4 (x1 : Int) (x3 : V) (x4 : V) (x5 : Int) (h : H) : zl6_RtcpNumbers_k3 rec loop σ (.exit 4) (envL [(1,(.p (.int .i64 x1))),(3,x3),(4,x4),(5,(.p (.int .i64 x5)))]) h =
loop zl6_RtcpNumbers_c1 zl6_RtcpNumbers_l1 (1::σ) (envL [(1,(.p (.int .i64 x1))),(3,x3),(4,x4),(5,(.p (.int .i64 (IntKind.wrap .i64 (x5 + 1)))))]) h:=by kernel_rfl
theorem zl6_RtcpNumbers_a3_ret (x0 : Bool) (h : H) : zl6_RtcpNumbers_k3 rec loop σ .ret (envL [(0,(.p (.bool x0)))]) h =
some (.ret,(envL [(0,(.p (.bool x0)))]),h):=by kernel_rfl
theorem zl6_RtcpNumbers_r4 (x1 : Int) (x8 : V) (x10 : Int) (h : H) : cvRound G rec loop zl6_RtcpNumbers_c4 zl6_RtcpNumbers_l4 σ (envL [(1,(.p (.int .i64 x1))),(8,x8),(10,(.p (.int .i64 x10)))]) h =
(lenO x8).bind fun t56 =>
(castI .i64 t56).bind fun n57 =>
(bif decide (x10 < n57) then (some (decide (x1 < 25))) else (some false)).bind fun b58 =>
bif b58 then (
(bSV Try.prog 31 0 []).bind fun t59 =>
(apO true 1 1 (2::0::0::1::0::σ) 75 h t59 x8).bind fun q60 =>
(iS 1 q60.1 x10).bind fun t61 =>
(ldO false 1 q60.2 t61).bind fun t62 =>
(castI .u8 t62).bind fun n63 =>
(shiftV .shl .u8 1 (IntKind.wrap .u64 (Int.tmod (IntKind.wrap .i64 (x10 + x1)) 8))).bind fun t64 =>
(castI .u8 t64).bind fun n65 =>
(iS 1 q60.1 x10).bind fun t66 =>
((stO true 1 (12::0::1::0::1::0::σ) q60.2 t66 (.p (.int .u8 (intBits .xor .u8 n63 n65)))).map fun h => (udf,h)).bind fun q67 =>
(slS 1 x8 none (some x10) none).bind fun t68 =>
(callFO rec 19 (3::0::1::1::0::1::0::σ) [t68] q67.2 (some 91)).bind fun q69 =>
(asB q69.1).bind fun b70 =>
(bif !b70 then (some ((.p (.bool true)),q69.2)) else ((callFO rec 19 (7::0::1::1::0::1::0::σ) [q60.1] q69.2 (some 95)).bind fun q71 =>
(asB q71.1).bind fun b72 =>
some ((.p (.bool (!b72))),q71.2))).bind fun q73 =>
(asB q73.1).bind fun b74 =>
(bif b74 then (some ((.p (.bool true)),q73.2)) else ((slS 1 x8 (some x10) none none).bind fun t75 =>
(callFO rec 19 (14::0::1::1::0::1::0::σ) [t75] q73.2 (some 102)).bind fun q76 =>
(asB q76.1).bind fun b77 =>
some ((.p (.bool (!b77))),q76.2))).bind fun q78 =>
(asB q78.1).bind fun b79 =>
bif b79 then (
some (.ret,(envL [(0,(.p (.bool false)))]),q78.2))
else (
loop zl6_RtcpNumbers_c4 zl6_RtcpNumbers_l4 (1::σ) (envL [(1,(.p (.int .i64 x1))),(8,x8),(10,(.p (.int .i64 (IntKind.wrap .i64 (x10 + 1)))))]) q78.2))
else (
some ((.exit 6),(envL [(1,(.p (.int .i64 x1)))]),h)):=by kernel_rfl
theorem zl6_RtcpNumbers_a4_6 (x1 : Int) (h : H) : zl6_RtcpNumbers_k4 rec loop σ (.exit 6) (envL [(1,(.p (.int .i64 x1)))]) h =
loop zl6_RtcpNumbers_c0 zl6_RtcpNumbers_l0 (1::σ) (envL [(1,(.p (.int .i64 (IntKind.wrap .i64 (x1 + 1)))))]) h:=by kernel_rfl
theorem zl6_RtcpNumbers_a4_ret (x0 : Bool) (h : H) : zl6_RtcpNumbers_k4 rec loop σ .ret (envL [(0,(.p (.bool x0)))]) h =
some (.ret,(envL [(0,(.p (.bool x0)))]),h):=by kernel_rfl
theorem zl6_RtcpNumbers_r5 (x12 : Int) (x13 : Int) (h : H) : cvRound G rec loop zl6_RtcpNumbers_c5 zl6_RtcpNumbers_l5 σ (envL [(12,(.p (.int .i64 x12))),(13,(.p (.int .i64 x13)))]) h =
bif decide (x13 < 32) then (
(loop zl6_RtcpNumbers_c6 zl6_RtcpNumbers_l6 (1::0::1::0::σ) (envL [(12,(.p (.int .i64 x12))),(13,(.p (.int .i64 x13))),(14,(.p (.int .i64 0)))]) h).bind fun r80 => zl6_RtcpNumbers_k6 rec loop σ r80.1 r80.2.1 r80.2.2)
else (
some ((.exit 10),(envL [(12,(.p (.int .i64 x12)))]),h)):=by kernel_rfl
theorem zl6_RtcpNumbers_a5_10 (x12 : Int) (h : H) : zl6_RtcpNumbers_k5 rec loop σ (.exit 10) (envL [(12,(.p (.int .i64 x12)))]) h =
loop zl6_RtcpNumbers_c2 zl6_RtcpNumbers_l2 (1::σ) (envL [(12,(.p (.int .i64 (IntKind.wrap .i64 (x12 + 1)))))]) h:=by kernel_rfl
theorem zl6_RtcpNumbers_a5_ret (x0 : Bool) (h : H) : zl6_RtcpNumbers_k5 rec loop σ .ret (envL [(0,(.p (.bool x0)))]) h =
some (.ret,(envL [(0,(.p (.bool x0)))]),h):=by kernel_rfl
theorem zl6_RtcpNumbers_r6 (x12 : Int) (x13 : Int) (x14 : Int) (h : H) : cvRound G rec loop zl6_RtcpNumbers_c6 zl6_RtcpNumbers_l6 σ (envL [(12,(.p (.int .i64 x12))),(13,(.p (.int .i64 x13))),(14,(.p (.int .i64 x14)))]) h =
bif decide (x14 < 6) then (
(bSV Try.prog 31 4 [(0,(.p (.int .u8 (IntKind.wrap .u8 (intBits .or .i64 128 x13))))),(1,(.p (.int .u8 (IntKind.wrap .u8 x12)))),(2,(.p (.int .u8 0))),(3,(.p (.int .u8 (IntKind.wrap .u8 x14))))]).bind fun t81 =>
(apZ true 1 1 (10::0::0::1::0::σ) 127 h t81 (IntKind.wrap .i64 (4 * x14))).bind fun q82 =>
(callFO rec 19 (11::0::0::1::0::σ) [q82.1] q82.2 (some 128)).bind fun q83 =>
(asB q83.1).bind fun b84 =>
bif !b84 then (
some (.ret,(envL [(0,(.p (.bool false)))]),q83.2))
else (
loop zl6_RtcpNumbers_c6 zl6_RtcpNumbers_l6 (1::σ) (envL [(12,(.p (.int .i64 x12))),(13,(.p (.int .i64 x13))),(14,(.p (.int .i64 (IntKind.wrap .i64 (x14 + 1)))))]) q83.2))
else (
some ((.exit 12),(envL [(12,(.p (.int .i64 x12))),(13,(.p (.int .i64 x13)))]),h)):=by kernel_rfl
theorem zl6_RtcpNumbers_a6_12 (x12 : Int) (x13 : Int) (h : H) : zl6_RtcpNumbers_k6 rec loop σ (.exit 12) (envL [(12,(.p (.int .i64 x12))),(13,(.p (.int .i64 x13)))]) h =
loop zl6_RtcpNumbers_c5 zl6_RtcpNumbers_l5 (1::σ) (envL [(12,(.p (.int .i64 x12))),(13,(.p (.int .i64 (IntKind.wrap .i64 (x13 + 1)))))]) h:=by kernel_rfl
theorem zl6_RtcpNumbers_a6_ret (x0 : Bool) (h : H) : zl6_RtcpNumbers_k6 rec loop σ .ret (envL [(0,(.p (.bool x0)))]) h =
some (.ret,(envL [(0,(.p (.bool x0)))]),h):=by kernel_rfl
def zk_Tape_Report_c0 : Code:=(codeAt (bodyOf Try.f15) [1,1,0,1,0,1,0,1,0,0])
def zk_Tape_Report_l0 : Lv:=⟨12,4,[(1,12),(0,12)]⟩
def zk_Tape_Report_k0 : KT1:=(kBlock 1 (kBlock 0 (kSeq G rec loop (codeAt (bodyOf Try.f15) [1,1,1]) ⟨4,4,[]⟩ (1::1::0::σ) (finC G false Try.f15 (1::σ)))))
def zk_Tape_Report_c1 : Code:=(codeAt (bodyOf Try.f15) [1,1,0,1,0,1,1,1,1,1,0,1,0,0])
def zk_Tape_Report_l1 : Lv:=⟨12,4,[(3,12),(0,12)]⟩
def zk_Tape_Report_k1 : KT1:=(kBlock 3 (kBlock 0 (kSeq G rec loop (codeAt (bodyOf Try.f15) [1,1,1]) ⟨4,4,[]⟩ (1::1::0::σ) (finC G false Try.f15 (1::σ)))))
def zk_Tape_Report_c2 : Code:=(codeAt (bodyOf Try.f15) [1,1,0,1,0,1,1,1,1,1,1,1,0,1,1,0,0])
def zk_Tape_Report_l2 : Lv:=⟨12,4,[(5,12),(0,12)]⟩
def zk_Tape_Report_k2 : KT1:=(kBlock 5 (kBlock 0 (kSeq G rec loop (codeAt (bodyOf Try.f15) [1,1,1]) ⟨4,4,[]⟩ (1::1::0::σ) (finC G false Try.f15 (1::σ)))))
theorem zk_Tape_Report_entry (x0 : V) (h : H) : cvBody G rec loop 15 σ [x0] h =
(some (alO [.p (.int .i64 0),.p (.int .u32 0),.p (.int .u32 0),.p (.slice none 0 0),.p (.slice none 0 0),.p (.slice none 0 0),.p (.int .u64 0),.p (.int .i64 0),.p (.int .i64 0),.p (.slice none 0 0)] (0::0::0::σ) 2 (List.replicate 93 []::h))).bind fun q1 =>
(callO rec 42 (1::0::1::0::σ) [x0,(.p (.int .i64 6))] q1.2 (some 8)).bind fun q2 =>
(castI .i64 q2.1).bind fun n3 =>
(callO rec 43 (4::0::1::0::σ) [x0] q2.2 (some 11)).bind fun q4 =>
(castI .u32 q4.1).bind fun n5 =>
(buildV Try.prog 33 [(0,(.p (.int .i64 (IntKind.wrap .i64 (1 + n3))))),(1,(.p (.int .u32 n5)))]).bind fun t6 =>
(some (alO [.p (.int .i64 0),.p (.int .u32 0),.p (.int .u32 0),.p (.slice none 0 0),.p (.slice none 0 0),.p (.slice none 0 0),.p (.int .u64 0),.p (.int .i64 0),.p (.int .i64 0),.p (.slice none 0 0)] (6::0::1::0::σ) 3 q4.2)).bind fun q7 =>
((stO false 10 (7::0::1::0::σ) q7.2 q7.1 t6).map fun h => (udf,h)).bind fun q8 =>
(fA q7.1 0).bind fun t9 =>
(ldO false 1 q8.2 t9).bind fun t10 =>
(castI .i64 t10).bind fun n11 =>
bif n11 == 1 then (
bif n11 == 1 then (
(callO rec 42 (1::0::1::1::0::1::1::0::σ) [x0,(.p (.int .i64 5))] q8.2 (some 28)).bind fun q12 =>
(castI .i64 q12.1).bind fun n13 =>
(loop zk_Tape_Report_c0 zk_Tape_Report_l0 (1::1::1::0::1::1::0::σ) (envL [(0,x0),(2,q1.1),(3,q7.1),(4,(.p (.int .i64 n13)))]) q12.2).bind fun r14 => zk_Tape_Report_k0 rec loop σ r14.1 r14.2.1 r14.2.2)
else (
bif n11 == 3 then (
(callO rec 43 (1::1::1::1::0::1::1::0::σ) [x0] q8.2 (some 43)).bind fun q15 =>
(castI .u32 q15.1).bind fun n16 =>
(fA q7.1 2).bind fun t17 =>
((stO true 1 (3::1::1::1::0::1::1::0::σ) q15.2 t17 (.p (.int .u32 n16))).map fun h => (udf,h)).bind fun q18 =>
(ldO true 10 q18.2 q7.1).bind fun t19 =>
((stO false 10 (1::0::1::1::1::0::σ) q18.2 q1.1 t19).map fun h => (udf,h)).bind fun q20 =>
((ldO true 10 q20.2 q1.1).bind fun t21 => (some []).map (t21::·)).bind fun t22 => fin false σ q20.2 t22)
else (
bif n11 == 4 then (
(callO rec 42 (1::0::1::1::1::1::0::1::1::0::σ) [x0,(.p (.int .i64 3))] q8.2 (some 48)).bind fun q23 =>
(castI .i64 q23.1).bind fun n24 =>
(loop zk_Tape_Report_c1 zk_Tape_Report_l1 (1::1::1::1::1::0::1::1::0::σ) (envL [(0,x0),(2,q1.1),(3,q7.1),(5,(.p (.int .i64 n24)))]) q23.2).bind fun r25 => zk_Tape_Report_k1 rec loop σ r25.1 r25.2.1 r25.2.2)
else (
bif n11 == 5 then (
(callO rec 42 (1::0::1::1::1::1::1::0::1::1::0::σ) [x0,(.p (.int .i64 1048576))] q8.2 (some 70)).bind fun q26 =>
(castI .i64 q26.1).bind fun n27 =>
(callO rec 42 (4::0::1::1::1::1::1::0::1::1::0::σ) [x0,(.p (.int .i64 900))] q26.2 (some 73)).bind fun q28 =>
(castI .i64 q28.1).bind fun n29 =>
(callO rec 44 (8::0::1::1::1::1::1::0::1::1::0::σ) [(.p (.int .u64 (IntKind.wrap .u64 ((IntKind.wrap .u64 n27) * (IntKind.wrap .u64 (IntKind.wrap .i64 (1 + n29))))))),(.p (.int .i64 18))] q28.2 (some 77)).bind fun q30 =>
(castI .u64 q30.1).bind fun n31 =>
(fA q7.1 6).bind fun t32 =>
((stO true 1 (10::0::1::1::1::1::1::0::1::1::0::σ) q30.2 t32 (.p (.int .u64 n31))).map fun h => (udf,h)).bind fun q33 =>
(callO rec 42 (1::0::1::1::1::1::1::1::0::1::1::0::σ) [x0,(.p (.int .i64 4))] q33.2 (some 80)).bind fun q34 =>
(castI .i64 q34.1).bind fun n35 =>
(loop zk_Tape_Report_c2 zk_Tape_Report_l2 (1::1::1::1::1::1::1::0::1::1::0::σ) (envL [(0,x0),(2,q1.1),(3,q7.1),(6,(.p (.int .i64 n35)))]) q34.2).bind fun r36 => zk_Tape_Report_k2 rec loop σ r36.1 r36.2.1 r36.2.2)
else (
(callO rec 42 (1::0::1::1::1::1::1::0::1::1::0::σ) [x0,(.p (.int .i64 12))] q8.2 (some 16)).bind fun q37 =>
(castI .i64 q37.1).bind fun n38 =>
(callO rec 42 (4::0::1::1::1::1::1::0::1::1::0::σ) [x0,(.p (.int .i64 32))] q37.2 (some 19)).bind fun q39 =>
(castI .i64 q39.1).bind fun n40 =>
(callO rec 46 (6::0::1::1::1::1::1::0::1::1::0::σ) [x0,(.p (.int .i64 12))] q39.2 (some 21)).bind fun q41 =>
(callO rec 45 (7::0::1::1::1::1::1::0::1::1::0::σ) [q41.1,(.p (.int .i64 4))] q41.2 (some 22)).bind fun q42 =>
(buildV Try.prog 33 [(0,(.p (.int .i64 6))),(7,(.p (.int .i64 (IntKind.wrap .i64 (192 + n38))))),(8,(.p (.int .i64 n40))),(9,q42.1)]).bind fun t43 =>
((stO false 10 (9::0::1::1::1::1::1::0::1::1::0::σ) q42.2 q1.1 t43).map fun h => (udf,h)).bind fun q44 =>
((ldO true 10 q44.2 q1.1).bind fun t45 => (some []).map (t45::·)).bind fun t46 => fin false σ q44.2 t46)))))
else (
bif n11 == 2 then (
(callO rec 42 (1::0::1::1::0::1::1::0::σ) [x0,(.p (.int .i64 5))] q8.2 (some 28)).bind fun q47 =>
(castI .i64 q47.1).bind fun n48 =>
(loop zk_Tape_Report_c0 zk_Tape_Report_l0 (1::1::1::0::1::1::0::σ) (envL [(0,x0),(2,q1.1),(3,q7.1),(4,(.p (.int .i64 n48)))]) q47.2).bind fun r49 => zk_Tape_Report_k0 rec loop σ r49.1 r49.2.1 r49.2.2)
else (
bif n11 == 3 then (
(callO rec 43 (1::1::1::1::0::1::1::0::σ) [x0] q8.2 (some 43)).bind fun q50 =>
(castI .u32 q50.1).bind fun n51 =>
(fA q7.1 2).bind fun t52 =>
((stO true 1 (3::1::1::1::0::1::1::0::σ) q50.2 t52 (.p (.int .u32 n51))).map fun h => (udf,h)).bind fun q53 =>
(ldO true 10 q53.2 q7.1).bind fun t54 =>
((stO false 10 (1::0::1::1::1::0::σ) q53.2 q1.1 t54).map fun h => (udf,h)).bind fun q55 =>
((ldO true 10 q55.2 q1.1).bind fun t56 => (some []).map (t56::·)).bind fun t57 => fin false σ q55.2 t57)
else (
bif n11 == 4 then (
(callO rec 42 (1::0::1::1::1::1::0::1::1::0::σ) [x0,(.p (.int .i64 3))] q8.2 (some 48)).bind fun q58 =>
(castI .i64 q58.1).bind fun n59 =>
(loop zk_Tape_Report_c1 zk_Tape_Report_l1 (1::1::1::1::1::0::1::1::0::σ) (envL [(0,x0),(2,q1.1),(3,q7.1),(5,(.p (.int .i64 n59)))]) q58.2).bind fun r60 => zk_Tape_Report_k1 rec loop σ r60.1 r60.2.1 r60.2.2)
else (
bif n11 == 5 then (
(callO rec 42 (1::0::1::1::1::1::1::0::1::1::0::σ) [x0,(.p (.int .i64 1048576))] q8.2 (some 70)).bind fun q61 =>
(castI .i64 q61.1).bind fun n62 =>
(callO rec 42 (4::0::1::1::1::1::1::0::1::1::0::σ) [x0,(.p (.int .i64 900))] q61.2 (some 73)).bind fun q63 =>
(castI .i64 q63.1).bind fun n64 =>
(callO rec 44 (8::0::1::1::1::1::1::0::1::1::0::σ) [(.p (.int .u64 (IntKind.wrap .u64 ((IntKind.wrap .u64 n62) * (IntKind.wrap .u64 (IntKind.wrap .i64 (1 + n64))))))),(.p (.int .i64 18))] q63.2 (some 77)).bind fun q65 =>
(castI .u64 q65.1).bind fun n66 =>
(fA q7.1 6).bind fun t67 =>
((stO true 1 (10::0::1::1::1::1::1::0::1::1::0::σ) q65.2 t67 (.p (.int .u64 n66))).map fun h => (udf,h)).bind fun q68 =>
(callO rec 42 (1::0::1::1::1::1::1::1::0::1::1::0::σ) [x0,(.p (.int .i64 4))] q68.2 (some 80)).bind fun q69 =>
(castI .i64 q69.1).bind fun n70 =>
(loop zk_Tape_Report_c2 zk_Tape_Report_l2 (1::1::1::1::1::1::1::0::1::1::0::σ) (envL [(0,x0),(2,q1.1),(3,q7.1),(6,(.p (.int .i64 n70)))]) q69.2).bind fun r71 => zk_Tape_Report_k2 rec loop σ r71.1 r71.2.1 r71.2.2)
else (
(callO rec 42 (1::0::1::1::1::1::1::0::1::1::0::σ) [x0,(.p (.int .i64 12))] q8.2 (some 16)).bind fun q72 =>
(castI .i64 q72.1).bind fun n73 =>
(callO rec 42 (4::0::1::1::1::1::1::0::1::1::0::σ) [x0,(.p (.int .i64 32))] q72.2 (some 19)).bind fun q74 =>
(castI .i64 q74.1).bind fun n75 =>
(callO rec 46 (6::0::1::1::1::1::1::0::1::1::0::σ) [x0,(.p (.int .i64 12))] q74.2 (some 21)).bind fun q76 =>
(callO rec 45 (7::0::1::1::1::1::1::0::1::1::0::σ) [q76.1,(.p (.int .i64 4))] q76.2 (some 22)).bind fun q77 =>
(buildV Try.prog 33 [(0,(.p (.int .i64 6))),(7,(.p (.int .i64 (IntKind.wrap .i64 (192 + n73))))),(8,(.p (.int .i64 n75))),(9,q77.1)]).bind fun t78 =>
((stO false 10 (9::0::1::1::1::1::1::0::1::1::0::σ) q77.2 q1.1 t78).map fun h => (udf,h)).bind fun q79 =>
((ldO true 10 q79.2 q1.1).bind fun t80 => (some []).map (t80::·)).bind fun t81 => fin false σ q79.2 t81))))):=by kernel_rfl
theorem zk_Tape_Report_r0 (x0 : V) (x2 : V) (x3 : V) (x4 : Int) (h : H) : cvRound G rec loop zk_Tape_Report_c0 zk_Tape_Report_l0 σ (envL [(0,x0),(2,x2),(3,x3),(4,(.p (.int .i64 x4)))]) h =
bif decide (x4 > 0) then (
(fA x3 3).bind fun t82 =>
(ldO false 1 h t82).bind fun t83 =>
(callO rec 30 (3::0::1::0::σ) [x0] h (some 36)).bind fun q84 =>
need (ldO false 1 q84.2 t82 = some t83) (
(bSV Try.prog 28 1 [(0,q84.1)]).bind fun t85 =>
(apO false 3 24 (5::0::1::0::σ) 38 q84.2 t83 t85).bind fun q86 =>
(fA x3 3).bind fun t87 =>
((stO true 1 (7::0::1::0::σ) q86.2 t87 q86.1).map fun h => (udf,h)).bind fun q88 =>
loop zk_Tape_Report_c0 zk_Tape_Report_l0 (1::σ) (envL [(0,x0),(2,x2),(3,x3),(4,(.p (.int .i64 (IntKind.wrap .i64 (x4 - 1)))))]) q88.2))
else (
some ((.exit 1),(envL [(2,x2),(3,x3)]),h)):=by kernel_rfl
theorem zk_Tape_Report_a0_1 (x2 : V) (x3 : V) (h : H) : zk_Tape_Report_k0 rec loop σ (.exit 1) (envL [(2,x2),(3,x3)]) h =
(ldO true 10 h x3).bind fun t89 =>
((stO false 10 (1::0::1::1::1::0::σ) h x2 t89).map fun h => (udf,h)).bind fun q90 =>
((ldO true 10 q90.2 x2).bind fun t91 => (some []).map (t91::·)).bind fun t92 => fin false σ q90.2 t92:=by kernel_rfl
theorem zk_Tape_Report_r1 (x0 : V) (x2 : V) (x3 : V) (x5 : Int) (h : H) : cvRound G rec loop zk_Tape_Report_c1 zk_Tape_Report_l1 σ (envL [(0,x0),(2,x2),(3,x3),(5,(.p (.int .i64 x5)))]) h =
bif decide (x5 ≥ 0) then (
(fA x3 4).bind fun t93 =>
(ldO false 1 h t93).bind fun t94 =>
(fA x3 5).bind fun t95 =>
(ldO false 1 h t95).bind fun t96 =>
(callO rec 43 (3::0::1::0::σ) [x0] h (some 56)).bind fun q97 =>
(castI .u32 q97.1).bind fun n98 =>
need (ldO false 1 q97.2 t95 = some t96) (
need (ldO false 1 q97.2 t93 = some t94) (
(bSV Try.prog 29 1 [(0,(.p (.int .u32 n98)))]).bind fun t99 =>
(apO true 1 4 (5::0::1::0::σ) 58 q97.2 t94 t99).bind fun q100 =>
need (ldO false 1 q100.2 t95 = some t96) (
(fA x3 4).bind fun t101 =>
(callO rec 42 (9::0::1::0::σ) [x0,(.p (.int .i64 256))] q100.2 (some 62)).bind fun q102 =>
(castI .i64 q102.1).bind fun n103 =>
need (ldO false 1 q102.2 t95 = some t96) (
(bSV Try.prog 23 1 [(0,(.p (.int .i64 n103)))]).bind fun t104 =>
(apO true 1 8 (11::0::1::0::σ) 64 q102.2 t96 t104).bind fun q105 =>
((stO true 1 (13::0::1::0::σ) q105.2 t101 q100.1).map fun h => (udf,h)).bind fun q106 =>
(fA x3 5).bind fun t107 =>
((stO true 1 (15::0::1::0::σ) q106.2 t107 q105.1).map fun h => (udf,h)).bind fun q108 =>
loop zk_Tape_Report_c1 zk_Tape_Report_l1 (1::σ) (envL [(0,x0),(2,x2),(3,x3),(5,(.p (.int .i64 (IntKind.wrap .i64 (x5 - 1)))))]) q108.2)))))
else (
some ((.exit 3),(envL [(2,x2),(3,x3)]),h)):=by kernel_rfl
theorem zk_Tape_Report_a1_3 (x2 : V) (x3 : V) (h : H) : zk_Tape_Report_k1 rec loop σ (.exit 3) (envL [(2,x2),(3,x3)]) h =
(ldO true 10 h x3).bind fun t109 =>
((stO false 10 (1::0::1::1::1::0::σ) h x2 t109).map fun h => (udf,h)).bind fun q110 =>
((ldO true 10 q110.2 x2).bind fun t111 => (some []).map (t111::·)).bind fun t112 => fin false σ q110.2 t112:=by kernel_rfl
theorem zk_Tape_Report_r2 (x0 : V) (x2 : V) (x3 : V) (x6 : Int) (h : H) : cvRound G rec loop zk_Tape_Report_c2 zk_Tape_Report_l2 σ (envL [(0,x0),(2,x2),(3,x3),(6,(.p (.int .i64 x6)))]) h =
bif decide (x6 > 0) then (
(fA x3 4).bind fun t113 =>
(ldO false 1 h t113).bind fun t114 =>
(callO rec 43 (3::0::1::0::σ) [x0] h (some 88)).bind fun q115 =>
(castI .u32 q115.1).bind fun n116 =>
need (ldO false 1 q115.2 t113 = some t114) (
(bSV Try.prog 29 1 [(0,(.p (.int .u32 n116)))]).bind fun t117 =>
(apO true 1 4 (5::0::1::0::σ) 90 q115.2 t114 t117).bind fun q118 =>
(fA x3 4).bind fun t119 =>
((stO true 1 (7::0::1::0::σ) q118.2 t119 q118.1).map fun h => (udf,h)).bind fun q120 =>
loop zk_Tape_Report_c2 zk_Tape_Report_l2 (1::σ) (envL [(0,x0),(2,x2),(3,x3),(6,(.p (.int .i64 (IntKind.wrap .i64 (x6 - 1)))))]) q120.2))
else (
some ((.exit 5),(envL [(2,x2),(3,x3)]),h)):=by kernel_rfl
theorem zk_Tape_Report_a2_5 (x2 : V) (x3 : V) (h : H) : zk_Tape_Report_k2 rec loop σ (.exit 5) (envL [(2,x2),(3,x3)]) h =
(ldO true 10 h x3).bind fun t121 =>
((stO false 10 (1::0::1::1::1::0::σ) h x2 t121).map fun h => (udf,h)).bind fun q122 =>
((ldO true 10 q122.2 x2).bind fun t123 => (some []).map (t123::·)).bind fun t124 => fin false σ q122.2 t124:=by kernel_rfl
def zk_Tape_Bytes_c0 : Code:=(codeAt (bodyOf Try.f46) [1,1,0,1,0,0])
def zk_Tape_Bytes_l0 : Lv:=⟨32,16,[(0,32)]⟩
def zk_Tape_Bytes_k0 : KT1:=(kBlock 0 (kSeq G rec loop (codeAt (bodyOf Try.f46) [1,1,1]) ⟨16,16,[]⟩ (1::1::0::σ) (finC G false Try.f46 (1::σ))))
theorem zk_Tape_Bytes_entry (x0 : V) (x1 : Int) (h : H) : cvBody G rec loop 46 σ [x0,(.p (.int .i64 x1))] h =
(callO rec 42 (3::0::0::1::1::0::σ) [x0,(.p (.int .i64 (IntKind.wrap .i64 (x1 + 1))))] (List.replicate 22 []::h) (some 10)).bind fun q1 =>
(castI .i64 q1.1).bind fun n2 =>
(loop zk_Tape_Bytes_c0 zk_Tape_Bytes_l0 (1::0::1::1::0::σ) (envL [(0,x0),(5,(.p (.slice .none 0 0))),(6,(.p (.int .i64 n2)))]) q1.2).bind fun r3 => zk_Tape_Bytes_k0 rec loop σ r3.1 r3.2.1 r3.2.2:=by kernel_rfl
theorem zk_Tape_Bytes_r0 (x0 : V) (x5 : V) (x6 : Int) (h : H) : cvRound G rec loop zk_Tape_Bytes_c0 zk_Tape_Bytes_l0 σ (envL [(0,x0),(5,x5),(6,(.p (.int .i64 x6)))]) h =
bif decide (x6 > 0) then (
(callO rec 42 (2::0::1::0::σ) [x0,(.p (.int .i64 256))] h (some 17)).bind fun q4 =>
(castI .i64 q4.1).bind fun n5 =>
(bSV Try.prog 31 1 [(0,(.p (.int .u8 (IntKind.wrap .u8 n5))))]).bind fun t6 =>
(apO true 1 1 (5::0::1::0::σ) 20 q4.2 x5 t6).bind fun q7 =>
loop zk_Tape_Bytes_c0 zk_Tape_Bytes_l0 (1::σ) (envL [(0,x0),(5,q7.1),(6,(.p (.int .i64 (IntKind.wrap .i64 (x6 - 1)))))]) q7.2)
else (
some ((.exit 0),(envL [(5,x5)]),h)):=by kernel_rfl
theorem zk_Tape_Bytes_a0_0 (x5 : V) (h : H) : zk_Tape_Bytes_k0 rec loop σ (.exit 0) (envL [(5,x5)]) h =
fin false σ h [x5]:=by kernel_rfl
theorem zk_Tape_Next_entry (x0 : V) (x1 : Int) (h : H) : cvBody G rec loop 42 σ [x0,(.p (.int .i64 x1))] h =
(nilChk x0).bind fun t1 =>
(fA t1 1).bind fun t2 =>
(ldO false 1 (List.replicate 40 []::h) t2).bind fun t3 =>
(castI .i64 t3).bind fun n4 =>
(nilChk x0).bind fun t5 =>
(fA t5 0).bind fun t6 =>
(ldO false 1 (List.replicate 40 []::h) t6).bind fun t7 =>
(lenO t7).bind fun t8 =>
(castI .i64 t8).bind fun n9 =>
(bif decide (n4 ≥ n9) then (some true) else (some (decide (x1 < 1)))).bind fun b10 =>
bif b10 then (
fin false σ (List.replicate 40 []::h) [(.p (.int .i64 0))])
else (
(nilChk x0).bind fun t11 =>
(fA t11 1).bind fun t12 =>
(ldO false 1 (List.replicate 40 []::h) t12).bind fun t13 =>
(castI .i64 t13).bind fun n14 =>
(nilChk x0).bind fun t15 =>
(fA t15 1).bind fun t16 =>
((stO true 1 (7::0::1::1::0::σ) (List.replicate 40 []::h) t16 (.p (.int .i64 (IntKind.wrap .i64 (n14 + 1))))).map fun h => (udf,h)).bind fun q17 =>
(nilChk x0).bind fun t18 =>
(fA t18 0).bind fun t19 =>
(ldO false 1 q17.2 t19).bind fun t20 =>
(nilChk x0).bind fun t21 =>
(fA t21 1).bind fun t22 =>
(ldO false 1 q17.2 t22).bind fun t23 =>
(castI .i64 t23).bind fun n24 =>
(iS 1 t20 (IntKind.wrap .i64 (n24 - 1))).bind fun t25 =>
(ldO false 1 q17.2 t25).bind fun t26 =>
(castI .i64 t26).bind fun n27 =>
(callO rec 21 (11::0::1::1::1::0::σ) [(.p (.int .i64 n27)),(.p (.int .i64 0)),(.p (.int .i64 1073741824))] q17.2 (some 37)).bind fun q28 =>
(castI .i64 q28.1).bind fun n29 =>
(remI .i64 n29 x1).bind fun t30 =>
(castI .i64 t30).bind fun n31 =>
fin false σ q28.2 [(.p (.int .i64 n31))]):=by kernel_rfl
theorem zb_Within_entry (x0 : Int) (x1 : Int) (x2 : Int) (h : H) : cvBody G rec loop 21 σ [(.p (.int .i64 x0)),(.p (.int .i64 x1)),(.p (.int .i64 x2))] h =
(bif decide (x0 ≥ x1) then (some (decide (x0 ≤ x2))) else (some false)).bind fun b1 =>
bif b1 then (
fin false σ (List.replicate 33 []::h) [(.p (.int .i64 x0))])
else (
(remI .i64 x0 (IntKind.wrap .i64 ((IntKind.wrap .i64 (x2 - x1)) + 1))).bind fun t2 =>
(castI .i64 t2).bind fun n3 =>
bif decide (n3 < 0) then (
fin false σ (List.replicate 33 []::h) [(.p (.int .i64 (IntKind.wrap .i64 (x1 + (IntKind.wrap .i64 ((IntKind.wrap .i64 ((IntKind.wrap .i64 (n3 + x2)) - x1)) + 1))))))])
else (
fin false σ (List.replicate 33 []::h) [(.p (.int .i64 (IntKind.wrap .i64 (x1 + n3))))])):=by kernel_rfl
end
end Go.Ev
namespace Go.Ev
open Go.Proofs
set_option linter.unusedVariables false
set_option linter.unusedSimpArgs false
set_option maxRecDepth 100000
def p_zb_Within (x0 : Int) (x1 : Int) (x2 : Int) : Option (Int) :=
(bif decide (x0 ≥ x1) then (some (decide (x0 ≤ x2))) else (some false)).bind fun b1 =>
bif b1 then (
some (x0))
else (
(remP x0 (IntKind.wrap .i64 ((IntKind.wrap .i64 (x2 - x1)) + 1))).bind fun n6 =>
bif decide (n6 < 0) then (
some ((IntKind.wrap .i64 (x1 + (IntKind.wrap .i64 ((IntKind.wrap .i64 ((IntKind.wrap .i64 (n6 + x2)) - x1)) + 1))))))
else (
some ((IntKind.wrap .i64 (x1 + n6)))))
theorem zb_Within_ok {h : H} {σ : Stamp} (x0 : Int) (x1 : Int) (x2 : Int) : Sim (p_zb_Within x0 x1 x2) (ev G X0 21 σ [(.p (.int .i64 x0)),(.p (.int .i64 x1)),(.p (.int .i64 x2))] h) (fun r s => s = ([.v (.p (.int .i64 r))],h)):=by
  refine Sim.ev rfl (Sim.ext (zb_Within_entry _ _ _ _ _ _ _) ?_)
  rw [p_zb_Within]
  have S0 : Fm 33 h [] [] [] (List.replicate 33 []::h):=Fm.start0
  refine Sim.ch (P:=fun r y => r = y) ?_ (fun b1 y2 h3 h4 => ?_)
  · refine Sim.cq ?_ ?_
    · exact Sim.ret rfl rfl
    · exact Sim.ret rfl rfl
  subst h4
  refine Sim.cq ?_ ?_
  · exact Sim.fin (S0.finN (lC (sI _ _).lv lN)) rfl
  refine Sim.bd fun n6 h7 => ?_
  refine Sim.op (remP_ok h7) ?_
  refine Sim.ci ?_
  refine Sim.cq ?_ ?_
  · exact Sim.fin (S0.finN (lC (sI _ _).lv lN)) rfl
  exact Sim.fin (S0.finN (lC (sI _ _).lv lN)) rfl
def p_zk_Tape_Next (x0 : TzTape) (x1 : Int) : Option (Int × TzTape) :=
(bif decide (x0.f_At ≥ ((x0.f_L.length : Int))) then (some true) else (some (decide (x1 < 1)))).bind fun b1 =>
bif b1 then (
some (0,x0))
else (
(ix x0.f_L (IntKind.wrap .i64 ((IntKind.wrap .i64 (x0.f_At + 1)) - 1))).bind fun a9 =>
(p_zb_Within a9 0 1073741824).bind fun r12 =>
(remP r12 x1).bind fun n17 =>
some (n17,(⟨x0.f_L,(IntKind.wrap .i64 (x0.f_At + 1))⟩ : TzTape)))
theorem zk_Tape_Next_ok {h : H} {σ : Stamp} (x0 : TzTape) {u0_0 : V} (hu0_0 : SlF (dI .i64) x0.f_L u0_0) {l0 : Loc} {o0 : Nat} (ha0 : AtC h l0 o0 (List.map C.v [u0_0,(.p (.int .i64 x0.f_At))])) (x1 : Int) : Sim (p_zk_Tape_Next x0 x1) (ev G X0 42 σ [(.ref l0 o0),(.p (.int .i64 x1))] h) (fun r s => ∃ (vb0_0 : V),SlF (dI .i64) r.2.f_L vb0_0∧s = ([.v (.p (.int .i64 r.1))],pts h [⟨l0,o0,[.v vb0_0,.v (.p (.int .i64 r.2.f_At))]⟩])):=by
  refine Sim.ev rfl (Sim.ext (zk_Tape_Next_entry _ _ _ _ _ _) ?_)
  rw [p_zk_Tape_Next]
  have S0 : Fm 40 h [⟨l0,o0,List.map C.v [u0_0,(.p (.int .i64 x0.f_At))]⟩] [] [] (List.replicate 40 []::h):=Fm.start1 ha0
  refine Sim.nc ?_
  refine Sim.fa ?_
  refine Sim.op ((S0.atB (i:=0) rfl).ld (j:=1) rfl) ?_
  refine Sim.ci ?_
  refine Sim.nc ?_
  refine Sim.fa ?_
  refine Sim.op ((S0.atB (i:=0) rfl).ld (j:=0) rfl) ?_
  refine Sim.op ((hu0_0.h (List.replicate 40 []::h)).len) ?_
  refine Sim.ci ?_
  refine Sim.ch (P:=fun r y => r = y) ?_ (fun b1 y2 h3 h4 => ?_)
  · refine Sim.cq ?_ ?_
    · exact Sim.ret rfl rfl
    · exact Sim.ret rfl rfl
  subst h4
  refine Sim.cq ?_ ?_
  · exact Sim.fin (S0.finN (lC (sI _ _).lv lN)) ⟨u0_0,hu0_0,rfl⟩
  refine Sim.nc ?_
  refine Sim.fa ?_
  refine Sim.op ((S0.atB (i:=0) rfl).ld (j:=1) rfl) ?_
  refine Sim.ci ?_
  refine Sim.nc ?_
  refine Sim.fa ?_
  obtain ⟨H6,e7,S8⟩:=S0.stB (i:=0) (j:=1) (own:=true) (σ:=(7::0::1::1::0::σ)) (x:=(.p (.int .i64 (IntKind.wrap .i64 (x0.f_At + 1))))) rfl (sI _ _) rfl
  refine Sim.op (sM e7) ?_
  refine Sim.nc ?_
  refine Sim.fa ?_
  refine Sim.op ((S8.atB (i:=0) rfl).ld (j:=0) rfl) ?_
  refine Sim.nc ?_
  refine Sim.fa ?_
  refine Sim.op ((S8.atB (i:=0) rfl).ld (j:=1) rfl) ?_
  refine Sim.ci ?_
  refine Sim.bd fun a9 h10 => ?_
  refine Sim.op ((hu0_0.h H6).iS h10 rfl) ?_
  obtain ⟨_,rfl,hE11⟩:=(hu0_0.h H6).el h10 rfl
  refine Sim.op (hE11.ld (j:=0) rfl) ?_
  refine Sim.ci ?_
  refine Sim.call (zb_Within_ok a9 0 1073741824) fun r12 cs13 H14 h15 q16 => ?_
  cases q16
  refine Sim.ci ?_
  refine Sim.bd fun n17 h18 => ?_
  refine Sim.op (remP_ok h18) ?_
  refine Sim.ci ?_
  exact Sim.fin (S8.finN (lC (sI _ _).lv lN)) ⟨u0_0,hu0_0,rfl⟩
def p_zk_Tape_Bytes_l0 {β : Type} (k : Nat) (kE0 : (List Int)→TzTape→Option β) (x5 : (List Int)) (x6 : Int) (zp0 : TzTape) : Option β:=match k with
| 0 => none
| k + 1 =>
bif decide (x6 > 0) then (
(p_zk_Tape_Next zp0 256).bind fun r18 =>
(ap 1 x5 ([(IntKind.wrap .u8 r18.1)])).bind fun a27 =>
p_zk_Tape_Bytes_l0 k kE0 a27 (IntKind.wrap .i64 (x6 - 1)) r18.2)
else (
kE0 x5 zp0)
def p_zk_Tape_Bytes (k : Nat) (x0 : TzTape) (x1 : Int) : Option ((List Int) × TzTape) :=
(p_zk_Tape_Next x0 (IntKind.wrap .i64 (x1 + 1))).bind fun r1 =>
p_zk_Tape_Bytes_l0 k (fun r41_5 zp0 =>
some (r41_5,zp0)) (([] : List Int)) r1.1 r1.2
theorem zk_Tape_Bytes_l0_ok {h : H} {l0 : Loc} {o0 : Nat} {β α : Type} {Q : β→α→Prop} {K : Exit × Env × H→Option α} {kE0 : (List Int)→TzTape→Option β} (hE0 : ∀ (q5 : (List Int)) (zp0 : TzTape) (v35 : V) (v37 : V) (h38 : SlF (dI .i64) zp0.f_L v37) (H33 : Go.Ev.H) (_ : Fm 22 h [⟨l0,o0,List.map C.v [v37,(.p (.int .i64 zp0.f_At))]⟩] [] [⟨[20],v35,(dI .u8),q5⟩] H33),Sim (kE0 q5 zp0) (K ((.exit 0),(envL [(5,v35)]),H33)) Q) (k : Nat) : ∀ (x5 : (List Int)) (x6 : Int) (zp0 : TzTape) (v13 : V) (v15 : V) (h16 : SlF (dI .i64) zp0.f_L v15) (H11 : Go.Ev.H) (_ : Fm 22 h [⟨l0,o0,List.map C.v [v15,(.p (.int .i64 zp0.f_At))]⟩] [] [⟨[20],v13,(dI .u8),x5⟩] H11) {σ : Stamp},Sim (p_zk_Tape_Bytes_l0 k kE0 x5 x6 zp0) ((cvL G X0 zk_Tape_Bytes_c0 zk_Tape_Bytes_l0 σ (envL [(0,(.ref l0 o0)),(5,v13),(6,(.p (.int .i64 x6)))]) H11).bind K) Q:=by
  induction k with
  | zero => intros; exact Sim.no
  | succ k ih =>
    intro x5 x6 zp0 v13 v15 h16 H11 S12 σ
    rw [p_zk_Tape_Bytes_l0]
    refine Sim.round (Sim.ext (zk_Tape_Bytes_r0 _ _ _ _ _ _ _) ?_)
    refine Sim.cq ?_ ?_
    · refine Sim.call (zk_Tape_Next_ok zp0 h16 (S12.atB (i:=0) rfl) 256) fun r18 cs19 H20 h21 q22 => ?_
      obtain ⟨v23,h24,q22⟩:=q22
      cases q22
      have S25:=S12.setB (i:=0) (cs:=List.map C.v [v23,(.p (.int .i64 r18.2.f_At))]) rfl rfl
      refine Sim.ci ?_
      have h26:=SlF.int1 .u8 (IntKind.wrap .u8 r18.1)
      refine Sim.op (bldS (pC rfl pN) (by kernel_rfl : _ = some (vOf h26))) ?_
      refine Sim.bd fun a27 h28 => ?_
      obtain ⟨v29,H30,e31,S32⟩:=S25.app (i:=0) (d:=20) (e:=1) (own:=true) (σ:=(5::0::1::0::σ)) rfl (h26.h (ptC H11 l0 o0 (List.map C.v [v23,(.p (.int .i64 r18.2.f_At))]))).y h28 rfl (by decide) (by decide) rfl
      refine Sim.op (e31) ?_
      exact ih a27 (IntKind.wrap .i64 (x6 - 1)) r18.2 v29 v23 h24 H30 (S32.wk2 aN (aC ⟨[20,20],by simp,aM 0 rfl⟩ aN))
    exact hE0 x5 zp0 v13 v15 h16 H11 (S12.wk2 aN (aC ⟨[20],by simp,aM 0 rfl⟩ aN))
theorem zk_Tape_Bytes_ok (k : Nat) {h : H} {σ : Stamp} (x0 : TzTape) {u0_0 : V} (hu0_0 : SlF (dI .i64) x0.f_L u0_0) {l0 : Loc} {o0 : Nat} (ha0 : AtC h l0 o0 (List.map C.v [u0_0,(.p (.int .i64 x0.f_At))])) (x1 : Int) : Sim (p_zk_Tape_Bytes k x0 x1) (ev G X0 46 σ [(.ref l0 o0),(.p (.int .i64 x1))] h) (fun r s => ∃ (c0 : C),∃ (a0 : List V),∃ (vb0_0 : V),OwnS c0 (dI .u8).sz r.1.length a0∧(dI .u8).L r.1 a0∧SlF (dI .i64) r.2.f_L vb0_0∧s = ([c0],pts h [⟨l0,o0,[.v vb0_0,.v (.p (.int .i64 r.2.f_At))]⟩])):=by
  refine Sim.ev rfl (Sim.ext (zk_Tape_Bytes_entry _ _ _ _ _ _) ?_)
  rw [p_zk_Tape_Bytes]
  have S0 : Fm 22 h [⟨l0,o0,List.map C.v [u0_0,(.p (.int .i64 x0.f_At))]⟩] [] [] (List.replicate 22 []::h):=Fm.start1 ha0
  refine Sim.call (zk_Tape_Next_ok x0 hu0_0 (S0.atB (i:=0) rfl) (IntKind.wrap .i64 (x1 + 1))) fun r1 cs2 H3 h4 q5 => ?_
  obtain ⟨v6,h7,q5⟩:=q5
  cases q5
  have S8:=S0.setB (i:=0) (cs:=List.map C.v [v6,(.p (.int .i64 r1.2.f_At))]) rfl rfl
  refine Sim.ci ?_
  have S40:=S8.nil (dI .u8) []
  refine Sim.as (zk_Tape_Bytes_l0_ok ?_ k (([] : List Int)) r1.1 r1.2 (.p (.slice none 0 0)) v6 h7 (ptC (List.replicate 22 []::h) l0 o0 (List.map C.v [v6,(.p (.int .i64 r1.2.f_At))])) (S40.wk2 aN (aC ⟨[],by simp,aM 0 rfl⟩ aN)))
  · intro r41_5 zp0 v44 v46 h47 H42 S43
    refine Sim.ext (zk_Tape_Bytes_a0_0 _ _ _ _ _) ?_
    obtain ⟨c53,cs54,H48,e49,h51,h52,S50⟩:=S43.expOwn (i:=0) (τ:=0::1::σ) rfl rfl rfl
    exact Sim.fin (S50.finE (Ex.st e49 Ex.nil)) ⟨c53,cs54,v46,h51,h52,h47,rfl⟩
end Go.Ev
namespace Go.Ev
open Go.Proofs
set_option linter.unusedVariables false
set_option linter.unusedSimpArgs false
set_option maxRecDepth 100000
noncomputable section
abbrev KT2:=Exit→Env→H→Option (List C × H)
variable (rec : CallF) (loop : LoopV) (σ : Stamp)
theorem zk_Tape_Tuple_entry (x0 : V) (h : H) : cvBody G rec loop 30 σ [x0] h =
(some (alO [.p (.int .u32 0),.p (.int .u64 0),.p (.int .i64 0)] (0::0::0::σ) 2 (List.replicate 21 []::h))).bind fun q1 =>
(callO rec 42 (1::0::1::0::σ) [x0,(.p (.int .i64 9))] q1.2 (some 4)).bind fun q2 =>
(castI .i64 q2.1).bind fun n3 =>
(callO rec 42 (4::0::1::0::σ) [x0,(.p (.int .i64 2000))] q2.2 (some 7)).bind fun q4 =>
(castI .i64 q4.1).bind fun n5 =>
(bSV Try.prog 23 3 [(0,(.p (.int .i64 1))),(1,(.p (.int .i64 100))),(2,(.p (.int .i64 8000)))]).bind fun t6 =>
(callO rec 42 (9::0::1::0::σ) [x0,(.p (.int .i64 3))] q4.2 (some 12)).bind fun q7 =>
(castI .i64 q7.1).bind fun n8 =>
(iS 1 t6 n8).bind fun t9 =>
(ldO false 1 q7.2 t9).bind fun t10 =>
(castI .i64 t10).bind fun n11 =>
(callO rec 44 (14::0::1::0::σ) [(.p (.int .u64 (IntKind.wrap .u64 ((IntKind.wrap .u64 (IntKind.wrap .i64 (1 + n5))) * (IntKind.wrap .u64 n11))))),(.p (.int .i64 17))] q7.2 (some 17)).bind fun q12 =>
(castI .u64 q12.1).bind fun n13 =>
(callO rec 42 (16::0::1::0::σ) [x0,(.p (.int .i64 120))] q12.2 (some 19)).bind fun q14 =>
(castI .i64 q14.1).bind fun n15 =>
(buildV Try.prog 57 [(0,(.p (.int .u32 (IntKind.wrap .u32 n3)))),(1,(.p (.int .u64 n13))),(2,(.p (.int .i64 n15)))]).bind fun t16 =>
((stO false 3 (18::0::1::0::σ) q14.2 q1.1 t16).map fun h => (udf,h)).bind fun q17 =>
((ldO true 3 q17.2 q1.1).bind fun t18 => (some []).map (t18::·)).bind fun t19 => fin false σ q17.2 t19:=by kernel_rfl
theorem zr1_Down_entry (x0 : Int) (x1 : Int) (h : H) : cvBody G rec loop 44 σ [(.p (.int .u64 x0)),(.p (.int .i64 x1))] h =
(callO rec 84 (2::0::1::0::σ) [(.p (.int .u64 x0)),(.p (.int .i64 x1))] (List.replicate 17 []::h) (some 10)).bind fun q1 =>
(extV q1.1 0).bind fun t2 =>
(castI .i64 t2).bind fun n3 =>
(extV q1.1 1).bind fun t4 =>
(castI .u32 t4).bind fun n5 =>
(callO rec 27 (3::0::1::1::0::σ) [(.p (.int .i64 n3)),(.p (.int .u32 n5)),(.p (.int .i64 x1))] q1.2 (some 16)).bind fun q6 =>
(castI .u64 q6.1).bind fun n7 =>
fin false σ q6.2 [(.p (.int .u64 n7))]:=by kernel_rfl
theorem zr1_Open_entry (x0 : Int) (x1 : Int) (x2 : Int) (h : H) : cvBody G rec loop 27 σ [(.p (.int .i64 x0)),(.p (.int .u32 x1)),(.p (.int .i64 x2))] h =
(bif decide (x2 < 1) then (some true) else (some (decide (x2 > 24)))).bind fun b1 =>
(bif b1 then (some true) else (some (decide (x0 < 0)))).bind fun b2 =>
(bif b2 then (some true) else (some (decide (x0 > 63)))).bind fun b3 =>
(bif b3 then (some true) else ((shiftV .shl .u32 1 (IntKind.wrap .u64 x2)).bind fun t4 =>
(castI .u32 t4).bind fun n5 =>
some (decide (x1 ≥ n5)))).bind fun b6 =>
bif b6 then (
fin false σ (List.replicate 42 []::h) [(.p (.int .u64 0))])
else (
(shiftV .shl .u64 (IntKind.wrap .u64 x1) (IntKind.wrap .u64 x0)).bind fun t7 =>
(castI .u64 t7).bind fun n8 =>
(shiftV .shr .u64 n8 (IntKind.wrap .u64 x0)).bind fun t9 =>
(castI .u64 t9).bind fun n10 =>
bif n10 != (IntKind.wrap .u64 x1) then (
fin false σ (List.replicate 42 []::h) [(.p (.int .u64 18446744073709551615))])
else (
fin false σ (List.replicate 42 []::h) [(.p (.int .u64 n8))])):=by kernel_rfl
end
end Go.Ev
namespace Go.Ev
open Go.Proofs
set_option linter.unusedVariables false
set_option linter.unusedSimpArgs false
set_option maxRecDepth 100000
def p_zr1_Open (x0 : Int) (x1 : Int) (x2 : Int) : Option (Int) :=
(bif decide (x2 < 1) then (some true) else (some (decide (x2 > 24)))).bind fun b1 =>
(bif b1 then (some true) else (some (decide (x0 < 0)))).bind fun b5 =>
(bif b5 then (some true) else (some (decide (x0 > 63)))).bind fun b9 =>
(bif b9 then (some true) else ((shP .shl .u32 1 (IntKind.wrap .u64 x2)).bind fun n13 =>
some (decide (x1 ≥ n13)))).bind fun b15 =>
bif b15 then (
some (0))
else (
(shP .shl .u64 (IntKind.wrap .u64 x1) (IntKind.wrap .u64 x0)).bind fun n20 =>
(shP .shr .u64 n20 (IntKind.wrap .u64 x0)).bind fun n22 =>
bif n22 != (IntKind.wrap .u64 x1) then (
some (18446744073709551615))
else (
some (n20)))
theorem zr1_Open_ok {h : H} {σ : Stamp} (x0 : Int) (x1 : Int) (x2 : Int) : Sim (p_zr1_Open x0 x1 x2) (ev G X0 27 σ [(.p (.int .i64 x0)),(.p (.int .u32 x1)),(.p (.int .i64 x2))] h) (fun r s => s = ([.v (.p (.int .u64 r))],h)):=by
  refine Sim.ev rfl (Sim.ext (zr1_Open_entry _ _ _ _ _ _ _) ?_)
  rw [p_zr1_Open]
  have S0 : Fm 42 h [] [] [] (List.replicate 42 []::h):=Fm.start0
  refine Sim.ch (P:=fun r y => r = y) ?_ (fun b1 y2 h3 h4 => ?_)
  · refine Sim.cq ?_ ?_
    · exact Sim.ret rfl rfl
    · exact Sim.ret rfl rfl
  subst h4
  refine Sim.ch (P:=fun r y => r = y) ?_ (fun b5 y6 h7 h8 => ?_)
  · refine Sim.cq ?_ ?_
    · exact Sim.ret rfl rfl
    · exact Sim.ret rfl rfl
  subst h8
  refine Sim.ch (P:=fun r y => r = y) ?_ (fun b9 y10 h11 h12 => ?_)
  · refine Sim.cq ?_ ?_
    · exact Sim.ret rfl rfl
    · exact Sim.ret rfl rfl
  subst h12
  refine Sim.ch (P:=fun r y => r = y) ?_ (fun b15 y16 h17 h18 => ?_)
  · refine Sim.cq ?_ ?_
    · exact Sim.ret rfl rfl
    · refine Sim.bd fun n13 h14 => ?_
      refine Sim.op (shP_ok h14) ?_
      refine Sim.ci ?_
      exact Sim.ret rfl rfl
  subst h18
  refine Sim.cq ?_ ?_
  · exact Sim.fin (S0.finN (lC (sI _ _).lv lN)) rfl
  refine Sim.bd fun n20 h21 => ?_
  refine Sim.op (shP_ok h21) ?_
  refine Sim.ci ?_
  refine Sim.bd fun n22 h23 => ?_
  refine Sim.op (shP_ok h23) ?_
  refine Sim.ci ?_
  refine Sim.cq ?_ ?_
  · exact Sim.fin (S0.finN (lC (sI _ _).lv lN)) rfl
  exact Sim.fin (S0.finN (lC (sI _ _).lv lN)) rfl
end Go.Ev
namespace Go.Ev
open Go.Proofs
set_option linter.unusedVariables false
set_option linter.unusedSimpArgs false
set_option maxRecDepth 100000
noncomputable section
abbrev KT3:=Exit→Env→H→Option (List C × H)
variable (rec : CallF) (loop : LoopV) (σ : Stamp)
def zr1_Pack_c0 : Code:=(codeAt (bodyOf Try.f84) [1,1,1,0,0,0])
def zr1_Pack_l0 : Lv:=⟨65,48,[(0,65)]⟩
def zr1_Pack_k0 : KT3:=(kBlock 0 (kSeq G rec loop (codeAt (bodyOf Try.f84) [1,1,1,1]) ⟨48,48,[]⟩ (1::1::1::0::σ) (finC G false Try.f84 (1::σ))))
theorem zr1_Pack_entry (x0 : Int) (x1 : Int) (h : H) : cvBody G rec loop 84 σ [(.p (.int .u64 x0)),(.p (.int .i64 x1))] h =
(bif decide (x1 < 1) then (some true) else (some (decide (x1 > 24)))).bind fun b1 =>
bif b1 then (
fin false σ (List.replicate 29 []::h) [(.p (.int .i64 0)),(.p (.int .u32 0))])
else (
(loop zr1_Pack_c0 zr1_Pack_l0 (0::1::1::1::0::σ) (envL [(0,(.p (.int .u64 x0))),(1,(.p (.int .i64 x1))),(6,(.p (.int .i64 0)))]) (List.replicate 29 []::h)).bind fun r2 => zr1_Pack_k0 rec loop σ r2.1 r2.2.1 r2.2.2):=by kernel_rfl
theorem zr1_Pack_r0 (x0 : Int) (x1 : Int) (x6 : Int) (h : H) : cvRound G rec loop zr1_Pack_c0 zr1_Pack_l0 σ (envL [(0,(.p (.int .u64 x0))),(1,(.p (.int .i64 x1))),(6,(.p (.int .i64 x6)))]) h =
(shiftV .shr .u64 x0 (IntKind.wrap .u64 x6)).bind fun t3 =>
(castI .u64 t3).bind fun n4 =>
(shiftV .shl .u64 1 (IntKind.wrap .u64 x1)).bind fun t5 =>
(castI .u64 t5).bind fun n6 =>
bif decide (n4 ≥ n6) then (
loop zr1_Pack_c0 zr1_Pack_l0 (1::σ) (envL [(0,(.p (.int .u64 x0))),(1,(.p (.int .i64 x1))),(6,(.p (.int .i64 (IntKind.wrap .i64 (x6 + 1)))))]) h)
else (
some ((.exit 0),(envL [(0,(.p (.int .u64 x0))),(6,(.p (.int .i64 x6)))]),h)):=by kernel_rfl
theorem zr1_Pack_a0_0 (x0 : Int) (x6 : Int) (h : H) : zr1_Pack_k0 rec loop σ (.exit 0) (envL [(0,(.p (.int .u64 x0))),(6,(.p (.int .i64 x6)))]) h =
(shiftV .shr .u64 x0 (IntKind.wrap .u64 x6)).bind fun t7 =>
(castI .u64 t7).bind fun n8 =>
fin false σ h [(.p (.int .i64 x6)),(.p (.int .u32 (IntKind.wrap .u32 n8)))]:=by kernel_rfl
end
end Go.Ev
namespace Go.Ev
open Go.Proofs
set_option linter.unusedVariables false
set_option linter.unusedSimpArgs false
set_option maxRecDepth 100000
def p_zr1_Pack_l0 {β : Type} (k : Nat) (kE0 : Int→Int→Option β) (x0 : Int) (x1 : Int) (x6 : Int) : Option β:=match k with
| 0 => none
| k + 1 =>
(shP .shr .u64 x0 (IntKind.wrap .u64 x6)).bind fun n8 =>
(shP .shl .u64 1 (IntKind.wrap .u64 x1)).bind fun n10 =>
bif decide (n8 ≥ n10) then (
p_zr1_Pack_l0 k kE0 x0 x1 (IntKind.wrap .i64 (x6 + 1)))
else (
kE0 x0 x6)
def p_zr1_Pack (k : Nat) (x0 : Int) (x1 : Int) : Option (Int × Int) :=
(bif decide (x1 < 1) then (some true) else (some (decide (x1 > 24)))).bind fun b1 =>
bif b1 then (
some (0,0))
else (
p_zr1_Pack_l0 k (fun r15_0 r15_6 =>
(shP .shr .u64 r15_0 (IntKind.wrap .u64 r15_6)).bind fun n18 =>
some (r15_6,(IntKind.wrap .u32 n18))) x0 x1 0)
theorem zr1_Pack_l0_ok {h : H}  {β α : Type} {Q : β→α→Prop} {K : Exit × Env × H→Option α} {kE0 : Int→Int→Option β} (hE0 : ∀ (q0 : Int) (q6 : Int) (H13 : Go.Ev.H) (_ : Fm 29 h [] [] [] H13),Sim (kE0 q0 q6) (K ((.exit 0),(envL [(0,(.p (.int .u64 q0))),(6,(.p (.int .i64 q6)))]),H13)) Q) (k : Nat) : ∀ (x0 : Int) (x1 : Int) (x6 : Int) (H6 : Go.Ev.H) (_ : Fm 29 h [] [] [] H6) {σ : Stamp},Sim (p_zr1_Pack_l0 k kE0 x0 x1 x6) ((cvL G X0 zr1_Pack_c0 zr1_Pack_l0 σ (envL [(0,(.p (.int .u64 x0))),(1,(.p (.int .i64 x1))),(6,(.p (.int .i64 x6)))]) H6).bind K) Q:=by
  induction k with
  | zero => intros; exact Sim.no
  | succ k ih =>
    intro x0 x1 x6 H6 S7 σ
    rw [p_zr1_Pack_l0]
    refine Sim.round (Sim.ext (zr1_Pack_r0 _ _ _ _ _ _ _) ?_)
    refine Sim.bd fun n8 h9 => ?_
    refine Sim.op (shP_ok h9) ?_
    refine Sim.ci ?_
    refine Sim.bd fun n10 h11 => ?_
    refine Sim.op (shP_ok h11) ?_
    refine Sim.ci ?_
    refine Sim.cq ?_ ?_
    · exact ih x0 x1 (IntKind.wrap .i64 (x6 + 1)) H6 (S7.wk2 aN aN)
    exact hE0 x0 x6 H6 (S7.wk2 aN aN)
theorem zr1_Pack_ok (k : Nat) {h : H} {σ : Stamp} (x0 : Int) (x1 : Int) : Sim (p_zr1_Pack k x0 x1) (ev G X0 84 σ [(.p (.int .u64 x0)),(.p (.int .i64 x1))] h) (fun r s => s = ([.v (.p (.int .i64 r.1)),.v (.p (.int .u32 r.2))],h)):=by
  refine Sim.ev rfl (Sim.ext (zr1_Pack_entry _ _ _ _ _ _) ?_)
  rw [p_zr1_Pack]
  have S0 : Fm 29 h [] [] [] (List.replicate 29 []::h):=Fm.start0
  refine Sim.ch (P:=fun r y => r = y) ?_ (fun b1 y2 h3 h4 => ?_)
  · refine Sim.cq ?_ ?_
    · exact Sim.ret rfl rfl
    · exact Sim.ret rfl rfl
  subst h4
  refine Sim.cq ?_ ?_
  · exact Sim.fin (S0.finN (lC (sI _ _).lv (lC (sI _ _).lv lN))) rfl
  refine Sim.as (zr1_Pack_l0_ok ?_ k x0 x1 0 (List.replicate 29 []::h) (S0.wk2 aN aN))
  · intro r15_0 r15_6 H16 S17
    refine Sim.ext (zr1_Pack_a0_0 _ _ _ _ _ _) ?_
    refine Sim.bd fun n18 h19 => ?_
    refine Sim.op (shP_ok h19) ?_
    refine Sim.ci ?_
    exact Sim.fin (S17.finN (lC (sI _ _).lv (lC (sI _ _).lv lN))) rfl
def p_zr1_Down (k : Nat) (x0 : Int) (x1 : Int) : Option (Int) :=
(p_zr1_Pack k x0 x1).bind fun r1 =>
(p_zr1_Open r1.1 r1.2 x1).bind fun r6 =>
some (r6)
theorem zr1_Down_ok (k : Nat) {h : H} {σ : Stamp} (x0 : Int) (x1 : Int) : Sim (p_zr1_Down k x0 x1) (ev G X0 44 σ [(.p (.int .u64 x0)),(.p (.int .i64 x1))] h) (fun r s => s = ([.v (.p (.int .u64 r))],h)):=by
  refine Sim.ev rfl (Sim.ext (zr1_Down_entry _ _ _ _ _ _) ?_)
  rw [p_zr1_Down]
  have S0 : Fm 17 h [] [] [] (List.replicate 17 []::h):=Fm.start0
  refine Sim.call (zr1_Pack_ok k x0 x1) fun r1 cs2 H3 h4 q5 => ?_
  cases q5
  refine Sim.or ?_
  refine Sim.ci ?_
  refine Sim.or ?_
  refine Sim.ci ?_
  refine Sim.call (zr1_Open_ok r1.1 r1.2 x1) fun r6 cs7 H8 h9 q10 => ?_
  cases q10
  refine Sim.ci ?_
  exact Sim.fin (S0.finN (lC (sI _ _).lv lN)) rfl
def p_zk_Tape_Tuple (k : Nat) (x0 : TzTape) : Option (TaiTuple × TzTape) :=
(p_zk_Tape_Next x0 9).bind fun r5 =>
(p_zk_Tape_Next r5.2 2000).bind fun r13 =>
(p_zk_Tape_Next r13.2 3).bind fun r22 =>
(ix ([1,100,8000]) r22.1).bind fun a30 =>
(p_zr1_Down k (IntKind.wrap .u64 ((IntKind.wrap .u64 (IntKind.wrap .i64 (1 + r13.1))) * (IntKind.wrap .u64 a30))) 17).bind fun r33 =>
(p_zk_Tape_Next r22.2 120).bind fun r38 =>
some (((⟨(IntKind.wrap .u32 r5.1),r33,r38.1⟩ : TaiTuple)),r38.2)
theorem zk_Tape_Tuple_ok (k : Nat) {h : H} {σ : Stamp} (x0 : TzTape) {u0_0 : V} (hu0_0 : SlF (dI .i64) x0.f_L u0_0) {l0 : Loc} {o0 : Nat} (ha0 : AtC h l0 o0 (List.map C.v [u0_0,(.p (.int .i64 x0.f_At))])) : Sim (p_zk_Tape_Tuple k x0) (ev G X0 30 σ [(.ref l0 o0)] h) (fun r s => ∃ (w0 : List V),∃ (vb0_0 : V),dTaiTuple.R r.1 w0∧SlF (dI .i64) r.2.f_L vb0_0∧s = ([.v (.agg w0)],pts h [⟨l0,o0,[.v vb0_0,.v (.p (.int .i64 r.2.f_At))]⟩])):=by
  refine Sim.ev rfl (Sim.ext (zk_Tape_Tuple_entry _ _ _ _ _) ?_)
  rw [p_zk_Tape_Tuple]
  have S0 : Fm 21 h [⟨l0,o0,List.map C.v [u0_0,(.p (.int .i64 x0.f_At))]⟩] [] [] (List.replicate 21 []::h):=Fm.start1 ha0
  obtain ⟨H1,e2,S3⟩:=S0.al (d:=2) (s:=(0::0::0::σ)) (z:=[(.p (.int .u32 0)),(.p (.int .u64 0)),(.p (.int .i64 0))]) (by decide) rfl
  refine Sim.op (congrArg some e2) ?_
  refine Sim.call (zk_Tape_Next_ok x0 hu0_0 (S3.atB (i:=0) rfl) 9) fun r5 cs6 H7 h8 q9 => ?_
  obtain ⟨v10,h11,q9⟩:=q9
  cases q9
  have S12:=S3.setB (i:=0) (cs:=List.map C.v [v10,(.p (.int .i64 r5.2.f_At))]) rfl rfl
  refine Sim.ci ?_
  refine Sim.call (zk_Tape_Next_ok r5.2 h11 (S12.atB (i:=0) rfl) 2000) fun r13 cs14 H15 h16 q17 => ?_
  obtain ⟨v18,h19,q17⟩:=q17
  cases q17
  have S20:=S12.setB (i:=0) (cs:=List.map C.v [v18,(.p (.int .i64 r13.2.f_At))]) rfl rfl
  refine Sim.ci ?_
  have h21 : SlF (dI .i64) [1,100,8000] (.fz [(.p (.int .i64 1)),(.p (.int .i64 100)),(.p (.int .i64 8000))] 3 1 true):=SlF.lit (cs:=[(.p (.int .i64 1)),(.p (.int .i64 100)),(.p (.int .i64 8000))]) (RL.cons (show (dI .i64).R 1 [(.p (.int .i64 1))] from rfl) (RL.cons (show (dI .i64).R 100 [(.p (.int .i64 100))] from rfl) (RL.cons (show (dI .i64).R 8000 [(.p (.int .i64 8000))] from rfl) RL.nil))) rfl rfl true
  refine Sim.op (bldS (pC rfl (pC rfl (pC rfl pN))) (by kernel_rfl : _ = some (vOf h21))) ?_
  refine Sim.call (zk_Tape_Next_ok r13.2 h19 (S20.atB (i:=0) rfl) 3) fun r22 cs23 H24 h25 q26 => ?_
  obtain ⟨v27,h28,q26⟩:=q26
  cases q26
  have S29:=S20.setB (i:=0) (cs:=List.map C.v [v27,(.p (.int .i64 r22.2.f_At))]) rfl rfl
  refine Sim.ci ?_
  refine Sim.bd fun a30 h31 => ?_
  refine Sim.op ((h21.h (ptC (ptC (ptC H1 l0 o0 (List.map C.v [v10,(.p (.int .i64 r5.2.f_At))])) l0 o0 (List.map C.v [v18,(.p (.int .i64 r13.2.f_At))])) l0 o0 (List.map C.v [v27,(.p (.int .i64 r22.2.f_At))]))).iS h31 rfl) ?_
  obtain ⟨_,rfl,hE32⟩:=(h21.h (ptC (ptC (ptC H1 l0 o0 (List.map C.v [v10,(.p (.int .i64 r5.2.f_At))])) l0 o0 (List.map C.v [v18,(.p (.int .i64 r13.2.f_At))])) l0 o0 (List.map C.v [v27,(.p (.int .i64 r22.2.f_At))]))).el h31 rfl
  refine Sim.op (hE32.ld (j:=0) rfl) ?_
  refine Sim.ci ?_
  refine Sim.call (zr1_Down_ok k (IntKind.wrap .u64 ((IntKind.wrap .u64 (IntKind.wrap .i64 (1 + r13.1))) * (IntKind.wrap .u64 a30))) 17) fun r33 cs34 H35 h36 q37 => ?_
  cases q37
  refine Sim.ci ?_
  refine Sim.call (zk_Tape_Next_ok r22.2 h28 (S29.atB (i:=0) rfl) 120) fun r38 cs39 H40 h41 q42 => ?_
  obtain ⟨v43,h44,q42⟩:=q42
  cases q42
  have S45:=S29.setB (i:=0) (cs:=List.map C.v [v43,(.p (.int .i64 r38.2.f_At))]) rfl rfl
  refine Sim.ci ?_
  refine Sim.op (bldV (pC rfl (pC rfl (pC rfl pN))) (by kernel_rfl : _ = some (.agg [.p (.int .u32 (IntKind.wrap .u32 r5.1)),.p (.int .u64 r33),.p (.int .i64 r38.1)]))) ?_
  obtain ⟨H46,e47,S48⟩:=S45.stGv (i:=0) (j:=0) (own:=false) (σ:=(18::0::1::0::σ)) (xs:=[.p (.int .u32 (IntKind.wrap .u32 r5.1)),.p (.int .u64 r33),.p (.int .i64 r38.1)]) rfl rfl (sC (sI _ _) (sC (sI _ _) (sC (sI _ _) sN))) rfl rfl
  refine Sim.op (sM e47) ?_
  have e49 : ldO true 3 H46 (.ref ⟨h.length,2,0,(0::0::0::σ),[]⟩ 0) = some (.agg [.p (.int .u32 (IntKind.wrap .u32 r5.1)),.p (.int .u64 r33),.p (.int .i64 r38.1)]):=(S48.atG (i:=0) rfl).ldVs (j:=0) rfl rfl (by decide)
  refine Sim.op (congrArg (Option.bind · _) e49) ?_
  exact Sim.fin (S48.finN (lC (Stills.lv (dTaiTuple.still (dTaiTuple.mk))) lN)) ⟨_,v43,(dTaiTuple.mk),h44,rfl⟩
end Go.Ev
namespace Go.Ev
open Go.Proofs
set_option linter.unusedVariables false
set_option linter.unusedSimpArgs false
set_option maxRecDepth 100000
noncomputable section
abbrev KT4:=Exit→Env→H→Option (List C × H)
variable (rec : CallF) (loop : LoopV) (σ : Stamp)
theorem zk_Tape_Word_entry (x0 : V) (h : H) : cvBody G rec loop 43 σ [x0] h =
(callO rec 42 (1::0::1::0::σ) [x0,(.p (.int .i64 1048576))] (List.replicate 15 []::h) (some 4)).bind fun q1 =>
(castI .i64 q1.1).bind fun n2 =>
(callO rec 42 (4::0::1::0::σ) [x0,(.p (.int .i64 4096))] q1.2 (some 7)).bind fun q3 =>
(castI .i64 q3.1).bind fun n4 =>
(callO rec 42 (9::0::1::0::σ) [x0,(.p (.int .i64 5))] q3.2 (some 12)).bind fun q5 =>
(castI .i64 q5.1).bind fun n6 =>
fin false σ q5.2 [(.p (.int .u32 (IntKind.wrap .u32 ((IntKind.wrap .u32 ((IntKind.wrap .u32 n2) * (IntKind.wrap .u32 (IntKind.wrap .i64 (1 + n4))))) + (IntKind.wrap .u32 n6)))))]:=by kernel_rfl
end
end Go.Ev
namespace Go.Ev
open Go.Proofs
set_option linter.unusedVariables false
set_option linter.unusedSimpArgs false
set_option maxRecDepth 100000
def p_zk_Tape_Word (x0 : TzTape) : Option (Int × TzTape) :=
(p_zk_Tape_Next x0 1048576).bind fun r1 =>
(p_zk_Tape_Next r1.2 4096).bind fun r9 =>
(p_zk_Tape_Next r9.2 5).bind fun r17 =>
some ((IntKind.wrap .u32 ((IntKind.wrap .u32 ((IntKind.wrap .u32 r1.1) * (IntKind.wrap .u32 (IntKind.wrap .i64 (1 + r9.1))))) + (IntKind.wrap .u32 r17.1))),r17.2)
theorem zk_Tape_Word_ok {h : H} {σ : Stamp} (x0 : TzTape) {u0_0 : V} (hu0_0 : SlF (dI .i64) x0.f_L u0_0) {l0 : Loc} {o0 : Nat} (ha0 : AtC h l0 o0 (List.map C.v [u0_0,(.p (.int .i64 x0.f_At))])) : Sim (p_zk_Tape_Word x0) (ev G X0 43 σ [(.ref l0 o0)] h) (fun r s => ∃ (vb0_0 : V),SlF (dI .i64) r.2.f_L vb0_0∧s = ([.v (.p (.int .u32 r.1))],pts h [⟨l0,o0,[.v vb0_0,.v (.p (.int .i64 r.2.f_At))]⟩])):=by
  refine Sim.ev rfl (Sim.ext (zk_Tape_Word_entry _ _ _ _ _) ?_)
  rw [p_zk_Tape_Word]
  have S0 : Fm 15 h [⟨l0,o0,List.map C.v [u0_0,(.p (.int .i64 x0.f_At))]⟩] [] [] (List.replicate 15 []::h):=Fm.start1 ha0
  refine Sim.call (zk_Tape_Next_ok x0 hu0_0 (S0.atB (i:=0) rfl) 1048576) fun r1 cs2 H3 h4 q5 => ?_
  obtain ⟨v6,h7,q5⟩:=q5
  cases q5
  have S8:=S0.setB (i:=0) (cs:=List.map C.v [v6,(.p (.int .i64 r1.2.f_At))]) rfl rfl
  refine Sim.ci ?_
  refine Sim.call (zk_Tape_Next_ok r1.2 h7 (S8.atB (i:=0) rfl) 4096) fun r9 cs10 H11 h12 q13 => ?_
  obtain ⟨v14,h15,q13⟩:=q13
  cases q13
  have S16:=S8.setB (i:=0) (cs:=List.map C.v [v14,(.p (.int .i64 r9.2.f_At))]) rfl rfl
  refine Sim.ci ?_
  refine Sim.call (zk_Tape_Next_ok r9.2 h15 (S16.atB (i:=0) rfl) 5) fun r17 cs18 H19 h20 q21 => ?_
  obtain ⟨v22,h23,q21⟩:=q21
  cases q21
  have S24:=S16.setB (i:=0) (cs:=List.map C.v [v22,(.p (.int .i64 r17.2.f_At))]) rfl rfl
  refine Sim.ci ?_
  exact Sim.fin (S24.finN (lC (sI _ _).lv lN)) ⟨v22,h23,rfl⟩
end Go.Ev
namespace Go.Ev
open Go.Proofs
set_option linter.unusedVariables false
set_option linter.unusedSimpArgs false
set_option maxRecDepth 100000
noncomputable section
abbrev KT5:=Exit→Env→H→Option (List C × H)
variable (rec : CallF) (loop : LoopV) (σ : Stamp)
def zr1_Pad_c0 : Code:=(codeAt (bodyOf Try.f45) [1,1,0,0,0])
def zr1_Pad_l0 : Lv:=⟨32,16,[(0,32)]⟩
def zr1_Pad_k0 : KT5:=(kBlock 0 (kSeq G rec loop (codeAt (bodyOf Try.f45) [1,1,1]) ⟨16,16,[]⟩ (1::1::0::σ) (finC G true Try.f45 (1::σ))))
theorem zr1_Pad_entry (x0 : V) (x1 : Int) (h : H) : cvBody G rec loop 45 σ [x0,(.p (.int .i64 x1))] h =
(bSV Try.prog 31 0 []).bind fun t1 =>
(apO true 1 1 (2::0::1::0::σ) 8 (List.replicate 26 []::h) t1 x0).bind fun q2 =>
(loop zr1_Pad_c0 zr1_Pad_l0 (0::1::1::0::σ) (envL [(1,(.p (.int .i64 x1))),(5,q2.1)]) q2.2).bind fun r3 => zr1_Pad_k0 rec loop σ r3.1 r3.2.1 r3.2.2:=by kernel_rfl
theorem zr1_Pad_r0 (x1 : Int) (x5 : V) (h : H) : cvRound G rec loop zr1_Pad_c0 zr1_Pad_l0 σ (envL [(1,(.p (.int .i64 x1))),(5,x5)]) h =
(bif decide (x1 ≥ 1) then (some (decide (x1 ≤ 64))) else (some false)).bind fun b4 =>
(bif b4 then ((lenO x5).bind fun t5 =>
(castI .i64 t5).bind fun n6 =>
(remI .i64 n6 x1).bind fun t7 =>
(castI .i64 t7).bind fun n8 =>
some (n8 != 0)) else (some false)).bind fun b9 =>
bif b9 then (
(bSV Try.prog 31 1 [(0,(.p (.int .u8 0)))]).bind fun t10 =>
(apO true 1 1 (2::1::0::σ) 24 h x5 t10).bind fun q11 =>
loop zr1_Pad_c0 zr1_Pad_l0 (1::σ) (envL [(1,(.p (.int .i64 x1))),(5,q11.1)]) q11.2)
else (
some ((.exit 0),(envL [(5,x5)]),h)):=by kernel_rfl
theorem zr1_Pad_a0_0 (x5 : V) (h : H) : zr1_Pad_k0 rec loop σ (.exit 0) (envL [(5,x5)]) h =
fin true σ h [x5]:=by kernel_rfl
end
end Go.Ev
namespace Go.Ev
open Go.Proofs
set_option linter.unusedVariables false
set_option linter.unusedSimpArgs false
set_option maxRecDepth 100000
def p_zr1_Pad_l0 {β : Type} (k : Nat) (kE0 : (List Int)→Option β) (x1 : Int) (x5 : (List Int)) : Option β:=match k with
| 0 => none
| k + 1 =>
(bif decide (x1 ≥ 1) then (some (decide (x1 ≤ 64))) else (some false)).bind fun b14 =>
(bif b14 then ((remP ((x5.length : Int)) x1).bind fun n18 =>
some (n18 != 0)) else (some false)).bind fun b20 =>
bif b20 then (
(ap 1 x5 ([0])).bind fun a26 =>
p_zr1_Pad_l0 k kE0 x1 a26)
else (
kE0 x5)
def p_zr1_Pad (k : Nat) (x0 : (List Int)) (x1 : Int) : Option ((List Int)) :=
(ap 1 (([] : List Int)) x0).bind fun a4 =>
p_zr1_Pad_l0 k (fun r36_5 =>
some (r36_5)) x1 a4
theorem zr1_Pad_l0_ok {h : H}  {β α : Type} {Q : β→α→Prop} {K : Exit × Env × H→Option α} {kE0 : (List Int)→Option β} (hE0 : ∀ (q5 : (List Int)) (v34 : V) (H32 : Go.Ev.H) (_ : Fm 26 h [] [] [⟨[8,24],v34,(dI .u8),q5⟩] H32),Sim (kE0 q5) (K ((.exit 0),(envL [(5,v34)]),H32)) Q) (k : Nat) : ∀ (x1 : Int) (x5 : (List Int)) (v12 : V) (H10 : Go.Ev.H) (_ : Fm 26 h [] [] [⟨[8,24],v12,(dI .u8),x5⟩] H10) {σ : Stamp},Sim (p_zr1_Pad_l0 k kE0 x1 x5) ((cvL G X0 zr1_Pad_c0 zr1_Pad_l0 σ (envL [(1,(.p (.int .i64 x1))),(5,v12)]) H10).bind K) Q:=by
  induction k with
  | zero => intros; exact Sim.no
  | succ k ih =>
    intro x1 x5 v12 H10 S11 σ
    rw [p_zr1_Pad_l0]
    refine Sim.round (Sim.ext (zr1_Pad_r0 _ _ _ _ _ _) ?_)
    refine Sim.ch (P:=fun r y => r = y) ?_ (fun b14 y15 h16 h17 => ?_)
    · refine Sim.cq ?_ ?_
      · exact Sim.ret rfl rfl
      · exact Sim.ret rfl rfl
    subst h17
    refine Sim.ch (P:=fun r y => r = y) ?_ (fun b20 y21 h22 h23 => ?_)
    · refine Sim.cq ?_ ?_
      · refine Sim.op ((S11.sl (i:=0) rfl).len) ?_
        refine Sim.ci ?_
        refine Sim.bd fun n18 h19 => ?_
        refine Sim.op (remP_ok h19) ?_
        refine Sim.ci ?_
        exact Sim.ret rfl rfl
      · exact Sim.ret rfl rfl
    subst h23
    refine Sim.cq ?_ ?_
    · have h25:=SlF.int1 .u8 0
      refine Sim.op (bldS (pC rfl pN) (by kernel_rfl : _ = some (vOf h25))) ?_
      refine Sim.bd fun a26 h27 => ?_
      obtain ⟨v28,H29,e30,S31⟩:=S11.app (i:=0) (d:=24) (e:=1) (own:=true) (σ:=(2::1::0::σ)) rfl (h25.h H10).y h27 rfl (by decide) (by decide) rfl
      refine Sim.op (e30) ?_
      exact ih x1 a26 v28 H29 (S31.wk2 aN (aC ⟨[24,8,24],by simp,aM 0 rfl⟩ aN))
    exact hE0 x5 v12 H10 (S11.wk2 aN (aC ⟨[8,24],by simp,aM 0 rfl⟩ aN))
theorem zr1_Pad_ok (k : Nat) {h : H} {σ : Stamp} (x0 : List Int) {u0 : V} (hu0 : SlH h (dI .u8) x0 u0) (x1 : Int) : Sim (p_zr1_Pad k x0 x1) (ev G X0 45 σ [u0,(.p (.int .i64 x1))] h) (fun r s => ∃ (v0 : V),SlF (dI .u8) r v0∧s = ([.v v0],h)):=by
  refine Sim.ev rfl (Sim.ext (zr1_Pad_entry _ _ _ _ _ _) ?_)
  rw [p_zr1_Pad]
  have S0 : Fm 26 h [] [] [] (List.replicate 26 []::h):=Fm.start0
  have h1 : SlF (dI .u8) ([] : List Int) (.fz [] 0 1 true):=SlF.lit (cs:=[]) RL.nil rfl rfl true
  refine Sim.op (bldS pN (by kernel_rfl : _ = some (vOf h1))) ?_
  have S3:=S0.nil' (dI .u8) [] (e:=1) rfl
  refine Sim.bd fun a4 h5 => ?_
  obtain ⟨v6,H7,e8,S9⟩:=S3.app (i:=0) (d:=8) (e:=1) (own:=true) (σ:=(2::0::1::0::σ)) rfl (S3.low hu0).y h5 rfl (by decide) (by decide) rfl
  refine Sim.op (e8) ?_
  refine Sim.as (zr1_Pad_l0_ok ?_ k x1 a4 v6 H7 (S9.wk2 aN (aC ⟨[8],by simp,aM 0 rfl⟩ aN)))
  · intro r36_5 v39 H37 S38
    refine Sim.ext (zr1_Pad_a0_0 _ _ _ _ _) ?_
    obtain ⟨v46,H41,e42,h44,S43⟩:=S38.expFrz (i:=0) (τ:=0::1::σ) rfl rfl
    exact Sim.fin (S43.finE (Ex.st e42 Ex.nil)) ⟨v46,h44,rfl⟩
def p_zk_Tape_Report_l0 {β : Type} (k : Nat) (kE0 : TaiReport→TaiReport→TzTape→Option β) (x4 : Int) (yg4 : TaiReport) (yg24 : TaiReport) (zp0 : TzTape) : Option β:=match k with
| 0 => none
| k + 1 =>
bif decide (x4 > 0) then (
(p_zk_Tape_Tuple k zp0).bind fun r63 =>
(ap 24 yg24.Tuples ([r63.1])).bind fun a74 =>
p_zk_Tape_Report_l0 k kE0 (IntKind.wrap .i64 (x4 - 1)) yg4 ((⟨yg24.Kind,yg24.From,yg24.About,a74,yg24.Abouts,yg24.Numbers,yg24.Rate,yg24.f_Type,yg24.Count,yg24.Body⟩ : TaiReport)) r63.2)
else (
kE0 yg4 yg24 zp0)
def p_zk_Tape_Report_l1 {β : Type} (k : Nat) (kE0 : TaiReport→TaiReport→TzTape→Option β) (x5 : Int) (yg4 : TaiReport) (yg24 : TaiReport) (zp0 : TzTape) : Option β:=match k with
| 0 => none
| k + 1 =>
bif decide (x5 ≥ 0) then (
(p_zk_Tape_Word zp0).bind fun r254 =>
(ap 4 yg24.Abouts ([r254.1])).bind fun a263 =>
(p_zk_Tape_Next r254.2 256).bind fun r271 =>
(ap 8 yg24.Numbers ([r271.1])).bind fun a280 =>
p_zk_Tape_Report_l1 k kE0 (IntKind.wrap .i64 (x5 - 1)) yg4 ((⟨yg24.Kind,yg24.From,yg24.About,yg24.Tuples,a263,a280,yg24.Rate,yg24.f_Type,yg24.Count,yg24.Body⟩ : TaiReport)) r271.2)
else (
kE0 yg4 yg24 zp0)
def p_zk_Tape_Report_l2 {β : Type} (k : Nat) (kE0 : TaiReport→TaiReport→TzTape→Option β) (x6 : Int) (yg4 : TaiReport) (yg24 : TaiReport) (zp0 : TzTape) : Option β:=match k with
| 0 => none
| k + 1 =>
bif decide (x6 > 0) then (
(p_zk_Tape_Word zp0).bind fun r429 =>
(ap 4 yg24.Abouts ([r429.1])).bind fun a438 =>
p_zk_Tape_Report_l2 k kE0 (IntKind.wrap .i64 (x6 - 1)) yg4 ((⟨yg24.Kind,yg24.From,yg24.About,yg24.Tuples,a438,yg24.Numbers,yg24.Rate,yg24.f_Type,yg24.Count,yg24.Body⟩ : TaiReport)) r429.2)
else (
kE0 yg4 yg24 zp0)
def p_zk_Tape_Report (k : Nat) (x0 : TzTape) : Option (TaiReport × TzTape) :=
(p_zk_Tape_Next x0 6).bind fun r5 =>
(p_zk_Tape_Word r5.2).bind fun r13 =>
bif (IntKind.wrap .i64 (1 + r5.1)) == 1 then (
(p_zk_Tape_Next r13.2 5).bind fun r29 =>
p_zk_Tape_Report_l0 k (fun yg48 yg59 zp0 =>
some (yg59,zp0)) r29.1 ((⟨0,0,0,(([] : List TaiTuple)),(([] : List Int)),(([] : List Int)),0,0,0,(([] : List Int))⟩ : TaiReport)) ((⟨(IntKind.wrap .i64 (1 + r5.1)),r13.1,0,(([] : List TaiTuple)),(([] : List Int)),(([] : List Int)),0,0,0,(([] : List Int))⟩ : TaiReport)) r29.2)
else (
bif (IntKind.wrap .i64 (1 + r5.1)) == 2 then (
(p_zk_Tape_Next r13.2 5).bind fun r154 =>
p_zk_Tape_Report_l0 k (fun yg48 yg59 zp0 =>
some (yg59,zp0)) r154.1 ((⟨0,0,0,(([] : List TaiTuple)),(([] : List Int)),(([] : List Int)),0,0,0,(([] : List Int))⟩ : TaiReport)) ((⟨(IntKind.wrap .i64 (1 + r5.1)),r13.1,0,(([] : List TaiTuple)),(([] : List Int)),(([] : List Int)),0,0,0,(([] : List Int))⟩ : TaiReport)) r154.2)
else (
bif (IntKind.wrap .i64 (1 + r5.1)) == 3 then (
(p_zk_Tape_Word r13.2).bind fun r203 =>
some (((⟨(IntKind.wrap .i64 (1 + r5.1)),r13.1,r203.1,(([] : List TaiTuple)),(([] : List Int)),(([] : List Int)),0,0,0,(([] : List Int))⟩ : TaiReport)),r203.2))
else (
bif (IntKind.wrap .i64 (1 + r5.1)) == 4 then (
(p_zk_Tape_Next r13.2 3).bind fun r219 =>
p_zk_Tape_Report_l1 k (fun yg238 yg250 zp0 =>
some (yg250,zp0)) r219.1 ((⟨0,0,0,(([] : List TaiTuple)),(([] : List Int)),(([] : List Int)),0,0,0,(([] : List Int))⟩ : TaiReport)) ((⟨(IntKind.wrap .i64 (1 + r5.1)),r13.1,0,(([] : List TaiTuple)),(([] : List Int)),(([] : List Int)),0,0,0,(([] : List Int))⟩ : TaiReport)) r219.2)
else (
bif (IntKind.wrap .i64 (1 + r5.1)) == 5 then (
(p_zk_Tape_Next r13.2 1048576).bind fun r371 =>
(p_zk_Tape_Next r371.2 900).bind fun r379 =>
(p_zr1_Down k (IntKind.wrap .u64 ((IntKind.wrap .u64 r371.1) * (IntKind.wrap .u64 (IntKind.wrap .i64 (1 + r379.1))))) 18).bind fun r387 =>
(p_zk_Tape_Next r379.2 4).bind fun r395 =>
p_zk_Tape_Report_l2 k (fun yg414 yg425 zp0 =>
some (yg425,zp0)) r395.1 ((⟨0,0,0,(([] : List TaiTuple)),(([] : List Int)),(([] : List Int)),0,0,0,(([] : List Int))⟩ : TaiReport)) ((⟨(IntKind.wrap .i64 (1 + r5.1)),r13.1,0,(([] : List TaiTuple)),(([] : List Int)),(([] : List Int)),r387,0,0,(([] : List Int))⟩ : TaiReport)) r395.2)
else (
(p_zk_Tape_Next r13.2 12).bind fun r517 =>
(p_zk_Tape_Next r517.2 32).bind fun r525 =>
(p_zk_Tape_Bytes k r525.2 12).bind fun r533 =>
(p_zr1_Pad k r533.1 4).bind fun r550 =>
some (((⟨6,0,0,(([] : List TaiTuple)),(([] : List Int)),(([] : List Int)),0,(IntKind.wrap .i64 (192 + r517.1)),r525.1,r550⟩ : TaiReport)),r533.2))))))
theorem zk_Tape_Report_l0_ok {h : H} {l0 : Loc} {o0 : Nat} {β α : Type} {Q : β→α→Prop} {K : Exit × Env × H→Option α} {kE0 : TaiReport→TaiReport→TzTape→Option β} (hE0 : ∀ (yg48 : TaiReport) (yg59 : TaiReport) (zp0 : TzTape) (v90 : V) (h91 : SlF dTaiTuple yg48.Tuples v90) (v92 : V) (h93 : SlF (dI .u32) yg48.Abouts v92) (v94 : V) (h95 : SlF (dI .i64) yg48.Numbers v94) (v96 : V) (h97 : SlF (dI .u8) yg48.Body v96) (s98 : Stamp) (c100 : C) (h101 : SoC dTaiTuple yg59.Tuples c100) (h102 : ∀ v,c100 = .v v→v = .p (.slice none 0 0) ∨ v = .fz [] 0 3 true) (v103 : V) (h104 : SlF (dI .u32) yg59.Abouts v103) (v105 : V) (h106 : SlF (dI .i64) yg59.Numbers v105) (v107 : V) (h108 : SlF (dI .u8) yg59.Body v107) (s109 : Stamp) (v111 : V) (h112 : SlF (dI .i64) zp0.f_L v111) (H88 : Go.Ev.H) (_ : Fm 93 h [⟨l0,o0,List.map C.v [v111,(.p (.int .i64 zp0.f_At))]⟩] [(2,s98,List.map C.v [(.p (.int .i64 yg48.Kind)),(.p (.int .u32 yg48.From)),(.p (.int .u32 yg48.About)),v90,v92,v94,(.p (.int .u64 yg48.Rate)),(.p (.int .i64 yg48.f_Type)),(.p (.int .i64 yg48.Count)),v96]),(3,s109,[.v (.p (.int .i64 yg59.Kind)),.v (.p (.int .u32 yg59.From)),.v (.p (.int .u32 yg59.About)),c100,.v v103,.v v105,.v (.p (.int .u64 yg59.Rate)),.v (.p (.int .i64 yg59.f_Type)),.v (.p (.int .i64 yg59.Count)),.v v107])] [] H88),Sim (kE0 yg48 yg59 zp0) (K ((.exit 1),(envL [(2,(.ref ⟨h.length,2,0,s98,[]⟩ 0)),(3,(.ref ⟨h.length,3,0,s109,[]⟩ 0))]),H88)) Q) (k : Nat) : ∀ (x4 : Int) (yg4 : TaiReport) (yg24 : TaiReport) (zp0 : TzTape) (v39 : V) (h40 : SlF dTaiTuple yg4.Tuples v39) (v41 : V) (h42 : SlF (dI .u32) yg4.Abouts v41) (v43 : V) (h44 : SlF (dI .i64) yg4.Numbers v43) (v45 : V) (h46 : SlF (dI .u8) yg4.Body v45) (s47 : Stamp) (c49 : C) (h50 : SoC dTaiTuple yg24.Tuples c49) (h51 : ∀ v,c49 = .v v→v = .p (.slice none 0 0) ∨ v = .fz [] 0 3 true) (v52 : V) (h53 : SlF (dI .u32) yg24.Abouts v52) (v54 : V) (h55 : SlF (dI .i64) yg24.Numbers v54) (v56 : V) (h57 : SlF (dI .u8) yg24.Body v56) (s58 : Stamp) (v60 : V) (h61 : SlF (dI .i64) zp0.f_L v60) (H37 : Go.Ev.H) (_ : Fm 93 h [⟨l0,o0,List.map C.v [v60,(.p (.int .i64 zp0.f_At))]⟩] [(2,s47,List.map C.v [(.p (.int .i64 yg4.Kind)),(.p (.int .u32 yg4.From)),(.p (.int .u32 yg4.About)),v39,v41,v43,(.p (.int .u64 yg4.Rate)),(.p (.int .i64 yg4.f_Type)),(.p (.int .i64 yg4.Count)),v45]),(3,s58,[.v (.p (.int .i64 yg24.Kind)),.v (.p (.int .u32 yg24.From)),.v (.p (.int .u32 yg24.About)),c49,.v v52,.v v54,.v (.p (.int .u64 yg24.Rate)),.v (.p (.int .i64 yg24.f_Type)),.v (.p (.int .i64 yg24.Count)),.v v56])] [] H37) {σ : Stamp},Sim (p_zk_Tape_Report_l0 k kE0 x4 yg4 yg24 zp0) ((cvL G X0 zk_Tape_Report_c0 zk_Tape_Report_l0 σ (envL [(0,(.ref l0 o0)),(2,(.ref ⟨h.length,2,0,s47,[]⟩ 0)),(3,(.ref ⟨h.length,3,0,s58,[]⟩ 0)),(4,(.p (.int .i64 x4)))]) H37).bind K) Q:=by
  induction k with
  | zero => intros; exact Sim.no
  | succ k ih =>
    intro x4 yg4 yg24 zp0 v39 h40 v41 h42 v43 h44 v45 h46 s47 c49 h50 h51 v52 h53 v54 h55 v56 h57 s58 v60 h61 H37 S38 σ
    rw [p_zk_Tape_Report_l0]
    refine Sim.round (Sim.ext (zk_Tape_Report_r0 _ _ _ _ _ _ _ _) ?_)
    refine Sim.cq ?_ ?_
    · refine Sim.fa ?_
      refine Sim.op (h50.ld (S38.atG (i:=1) rfl) (j:=3) rfl) ?_
      refine Sim.call (zk_Tape_Tuple_ok k zp0 h61 (S38.atB (i:=0) rfl)) fun r63 cs64 H65 h66 q67 => ?_
      obtain ⟨w68,v70,h69,h71,q67⟩:=q67
      cases q67
      obtain rfl:=dTaiTuple.inv h69
      have S72:=S38.setB (i:=0) (cs:=List.map C.v [v70,(.p (.int .i64 r63.2.f_At))]) rfl rfl
      refine Sim.nd (h50.ld (S72.atG (i:=1) rfl) (j:=3) rfl) ?_
      have h73 : SlF dTaiTuple [r63.1] (.fz [(.p (.int .u32 r63.1.Owner)),(.p (.int .u64 r63.1.Rate)),(.p (.int .i64 r63.1.Over))] 1 3 true):=SlF.lit (cs:=[(.p (.int .u32 r63.1.Owner)),(.p (.int .u64 r63.1.Rate)),(.p (.int .i64 r63.1.Over))]) (RL.cons h69 RL.nil) rfl rfl true
      refine Sim.op (bldS (pC (c:=[(.p (.int .u32 r63.1.Owner)),(.p (.int .u64 r63.1.Rate)),(.p (.int .i64 r63.1.Over))]) rfl pN) (by kernel_rfl : _ = some (vOf h73))) ?_
      refine Sim.bd fun a74 h75 => ?_
      obtain ⟨v76,c77,H78,e79,S80⟩:=S72.appG (i:=1) (j:=3) (d:=38) (e:=3) (own:=false) (σ:=(5::0::1::0::σ)) rfl rfl h50 h51 (h73.h (ptC H37 l0 o0 (List.map C.v [v70,(.p (.int .i64 r63.2.f_At))]))).y h75 (by simp) rfl (by decide) (by decide) rfl rfl
      refine Sim.op (e79) ?_
      refine Sim.fa ?_
      obtain ⟨c85,H82,e83,h86,h87,S84⟩:=S80.mvG (i:=1) (j:=3) (k:=0) (σ:=(7::0::1::0::σ)) rfl rfl rfl rfl rfl rfl
      refine Sim.op (sM e83) ?_
      exact ih (IntKind.wrap .i64 (x4 - 1)) yg4 ((⟨yg24.Kind,yg24.From,yg24.About,a74,yg24.Abouts,yg24.Numbers,yg24.Rate,yg24.f_Type,yg24.Count,yg24.Body⟩ : TaiReport)) r63.2 v39 h40 v41 h42 v43 h44 v45 h46 s47 c85 h86 h87 v52 h53 v54 h55 v56 h57 s58 v70 h71 H82 (S84.wk2 (aC (aM 0 rfl) (aC (aM 1 rfl) aN)) aN)
    exact hE0 yg4 yg24 zp0 v39 h40 v41 h42 v43 h44 v45 h46 s47 c49 h50 h51 v52 h53 v54 h55 v56 h57 s58 v60 h61 H37 (S38.wk2 (aC (aM 0 rfl) (aC (aM 1 rfl) aN)) aN)
theorem zk_Tape_Report_l1_ok {h : H} {l0 : Loc} {o0 : Nat} {β α : Type} {Q : β→α→Prop} {K : Exit × Env × H→Option α} {kE0 : TaiReport→TaiReport→TzTape→Option β} (hE0 : ∀ (yg238 : TaiReport) (yg250 : TaiReport) (zp0 : TzTape) (v302 : V) (h303 : SlF dTaiTuple yg238.Tuples v302) (v304 : V) (h305 : SlF (dI .u32) yg238.Abouts v304) (v306 : V) (h307 : SlF (dI .i64) yg238.Numbers v306) (v308 : V) (h309 : SlF (dI .u8) yg238.Body v308) (s310 : Stamp) (v312 : V) (h313 : SlF dTaiTuple yg250.Tuples v312) (c314 : C) (h315 : SoC (dI .u32) yg250.Abouts c314) (h316 : ∀ v,c314 = .v v→v = .p (.slice none 0 0) ∨ v = .fz [] 0 1 true) (c317 : C) (h318 : SoC (dI .i64) yg250.Numbers c317) (h319 : ∀ v,c317 = .v v→v = .p (.slice none 0 0) ∨ v = .fz [] 0 1 true) (v320 : V) (h321 : SlF (dI .u8) yg250.Body v320) (s322 : Stamp) (v324 : V) (h325 : SlF (dI .i64) zp0.f_L v324) (H300 : Go.Ev.H) (_ : Fm 93 h [⟨l0,o0,List.map C.v [v324,(.p (.int .i64 zp0.f_At))]⟩] [(2,s310,List.map C.v [(.p (.int .i64 yg238.Kind)),(.p (.int .u32 yg238.From)),(.p (.int .u32 yg238.About)),v302,v304,v306,(.p (.int .u64 yg238.Rate)),(.p (.int .i64 yg238.f_Type)),(.p (.int .i64 yg238.Count)),v308]),(3,s322,[.v (.p (.int .i64 yg250.Kind)),.v (.p (.int .u32 yg250.From)),.v (.p (.int .u32 yg250.About)),.v v312,c314,c317,.v (.p (.int .u64 yg250.Rate)),.v (.p (.int .i64 yg250.f_Type)),.v (.p (.int .i64 yg250.Count)),.v v320])] [] H300),Sim (kE0 yg238 yg250 zp0) (K ((.exit 3),(envL [(2,(.ref ⟨h.length,2,0,s310,[]⟩ 0)),(3,(.ref ⟨h.length,3,0,s322,[]⟩ 0))]),H300)) Q) (k : Nat) : ∀ (x5 : Int) (yg4 : TaiReport) (yg24 : TaiReport) (zp0 : TzTape) (v229 : V) (h230 : SlF dTaiTuple yg4.Tuples v229) (v231 : V) (h232 : SlF (dI .u32) yg4.Abouts v231) (v233 : V) (h234 : SlF (dI .i64) yg4.Numbers v233) (v235 : V) (h236 : SlF (dI .u8) yg4.Body v235) (s237 : Stamp) (v239 : V) (h240 : SlF dTaiTuple yg24.Tuples v239) (c241 : C) (h242 : SoC (dI .u32) yg24.Abouts c241) (h243 : ∀ v,c241 = .v v→v = .p (.slice none 0 0) ∨ v = .fz [] 0 1 true) (c244 : C) (h245 : SoC (dI .i64) yg24.Numbers c244) (h246 : ∀ v,c244 = .v v→v = .p (.slice none 0 0) ∨ v = .fz [] 0 1 true) (v247 : V) (h248 : SlF (dI .u8) yg24.Body v247) (s249 : Stamp) (v251 : V) (h252 : SlF (dI .i64) zp0.f_L v251) (H227 : Go.Ev.H) (_ : Fm 93 h [⟨l0,o0,List.map C.v [v251,(.p (.int .i64 zp0.f_At))]⟩] [(2,s237,List.map C.v [(.p (.int .i64 yg4.Kind)),(.p (.int .u32 yg4.From)),(.p (.int .u32 yg4.About)),v229,v231,v233,(.p (.int .u64 yg4.Rate)),(.p (.int .i64 yg4.f_Type)),(.p (.int .i64 yg4.Count)),v235]),(3,s249,[.v (.p (.int .i64 yg24.Kind)),.v (.p (.int .u32 yg24.From)),.v (.p (.int .u32 yg24.About)),.v v239,c241,c244,.v (.p (.int .u64 yg24.Rate)),.v (.p (.int .i64 yg24.f_Type)),.v (.p (.int .i64 yg24.Count)),.v v247])] [] H227) {σ : Stamp},Sim (p_zk_Tape_Report_l1 k kE0 x5 yg4 yg24 zp0) ((cvL G X0 zk_Tape_Report_c1 zk_Tape_Report_l1 σ (envL [(0,(.ref l0 o0)),(2,(.ref ⟨h.length,2,0,s237,[]⟩ 0)),(3,(.ref ⟨h.length,3,0,s249,[]⟩ 0)),(5,(.p (.int .i64 x5)))]) H227).bind K) Q:=by
  induction k with
  | zero => intros; exact Sim.no
  | succ k ih =>
    intro x5 yg4 yg24 zp0 v229 h230 v231 h232 v233 h234 v235 h236 s237 v239 h240 c241 h242 h243 c244 h245 h246 v247 h248 s249 v251 h252 H227 S228 σ
    rw [p_zk_Tape_Report_l1]
    refine Sim.round (Sim.ext (zk_Tape_Report_r1 _ _ _ _ _ _ _ _) ?_)
    refine Sim.cq ?_ ?_
    · refine Sim.fa ?_
      refine Sim.op (h242.ld (S228.atG (i:=1) rfl) (j:=4) rfl) ?_
      refine Sim.fa ?_
      refine Sim.op (h245.ld (S228.atG (i:=1) rfl) (j:=5) rfl) ?_
      refine Sim.call (zk_Tape_Word_ok zp0 h252 (S228.atB (i:=0) rfl)) fun r254 cs255 H256 h257 q258 => ?_
      obtain ⟨v259,h260,q258⟩:=q258
      cases q258
      have S261:=S228.setB (i:=0) (cs:=List.map C.v [v259,(.p (.int .i64 r254.2.f_At))]) rfl rfl
      refine Sim.ci ?_
      refine Sim.nd (h245.ld (S261.atG (i:=1) rfl) (j:=5) rfl) ?_
      refine Sim.nd (h242.ld (S261.atG (i:=1) rfl) (j:=4) rfl) ?_
      have h262:=SlF.int1 .u32 r254.1
      refine Sim.op (bldS (pC rfl pN) (by kernel_rfl : _ = some (vOf h262))) ?_
      refine Sim.bd fun a263 h264 => ?_
      obtain ⟨v265,c266,H267,e268,S269⟩:=S261.appG (i:=1) (j:=4) (d:=58) (e:=1) (own:=true) (σ:=(5::0::1::0::σ)) rfl rfl h242 h243 (h262.h (ptC H227 l0 o0 (List.map C.v [v259,(.p (.int .i64 r254.2.f_At))]))).y h264 (by simp) rfl (by decide) (by decide) rfl rfl
      refine Sim.op (e268) ?_
      refine Sim.nd (h245.ld (S269.atG (i:=1) rfl) (j:=5) rfl) ?_
      refine Sim.fa ?_
      refine Sim.call (zk_Tape_Next_ok r254.2 h260 (S269.atB (i:=0) rfl) 256) fun r271 cs272 H273 h274 q275 => ?_
      obtain ⟨v276,h277,q275⟩:=q275
      cases q275
      have S278:=S269.setB (i:=0) (cs:=List.map C.v [v276,(.p (.int .i64 r271.2.f_At))]) rfl rfl
      refine Sim.ci ?_
      refine Sim.nd (h245.ld (S278.atG (i:=1) rfl) (j:=5) rfl) ?_
      have h279:=SlF.int1 .i64 r271.1
      refine Sim.op (bldS (pC rfl pN) (by kernel_rfl : _ = some (vOf h279))) ?_
      refine Sim.bd fun a280 h281 => ?_
      obtain ⟨v282,c283,H284,e285,S286⟩:=S278.appG (i:=1) (j:=5) (d:=64) (e:=1) (own:=true) (σ:=(11::0::1::0::σ)) rfl rfl h245 h246 (h279.h (ptC H267 l0 o0 (List.map C.v [v276,(.p (.int .i64 r271.2.f_At))]))).y h281 (by simp) rfl (by decide) (by decide) rfl rfl
      refine Sim.op (e285) ?_
      obtain ⟨c291,H288,e289,h292,h293,S290⟩:=S286.mvG (i:=1) (j:=4) (k:=1) (σ:=(13::0::1::0::σ)) rfl rfl rfl rfl rfl rfl
      refine Sim.op (sM e289) ?_
      refine Sim.fa ?_
      obtain ⟨c297,H294,e295,h298,h299,S296⟩:=S290.mvG (i:=1) (j:=5) (k:=0) (σ:=(15::0::1::0::σ)) rfl rfl rfl rfl rfl rfl
      refine Sim.op (sM e295) ?_
      exact ih (IntKind.wrap .i64 (x5 - 1)) yg4 ((⟨yg24.Kind,yg24.From,yg24.About,yg24.Tuples,a263,a280,yg24.Rate,yg24.f_Type,yg24.Count,yg24.Body⟩ : TaiReport)) r271.2 v229 h230 v231 h232 v233 h234 v235 h236 s237 v239 h240 c291 h292 h293 c297 h298 h299 v247 h248 s249 v276 h277 H294 (S296.wk2 (aC (aM 0 rfl) (aC (aM 1 rfl) aN)) aN)
    exact hE0 yg4 yg24 zp0 v229 h230 v231 h232 v233 h234 v235 h236 s237 v239 h240 c241 h242 h243 c244 h245 h246 v247 h248 s249 v251 h252 H227 (S228.wk2 (aC (aM 0 rfl) (aC (aM 1 rfl) aN)) aN)
theorem zk_Tape_Report_l2_ok {h : H} {l0 : Loc} {o0 : Nat} {β α : Type} {Q : β→α→Prop} {K : Exit × Env × H→Option α} {kE0 : TaiReport→TaiReport→TzTape→Option β} (hE0 : ∀ (yg414 : TaiReport) (yg425 : TaiReport) (zp0 : TzTape) (v454 : V) (h455 : SlF dTaiTuple yg414.Tuples v454) (v456 : V) (h457 : SlF (dI .u32) yg414.Abouts v456) (v458 : V) (h459 : SlF (dI .i64) yg414.Numbers v458) (v460 : V) (h461 : SlF (dI .u8) yg414.Body v460) (s462 : Stamp) (v464 : V) (h465 : SlF dTaiTuple yg425.Tuples v464) (c466 : C) (h467 : SoC (dI .u32) yg425.Abouts c466) (h468 : ∀ v,c466 = .v v→v = .p (.slice none 0 0) ∨ v = .fz [] 0 1 true) (v469 : V) (h470 : SlF (dI .i64) yg425.Numbers v469) (v471 : V) (h472 : SlF (dI .u8) yg425.Body v471) (s473 : Stamp) (v475 : V) (h476 : SlF (dI .i64) zp0.f_L v475) (H452 : Go.Ev.H) (_ : Fm 93 h [⟨l0,o0,List.map C.v [v475,(.p (.int .i64 zp0.f_At))]⟩] [(2,s462,List.map C.v [(.p (.int .i64 yg414.Kind)),(.p (.int .u32 yg414.From)),(.p (.int .u32 yg414.About)),v454,v456,v458,(.p (.int .u64 yg414.Rate)),(.p (.int .i64 yg414.f_Type)),(.p (.int .i64 yg414.Count)),v460]),(3,s473,[.v (.p (.int .i64 yg425.Kind)),.v (.p (.int .u32 yg425.From)),.v (.p (.int .u32 yg425.About)),.v v464,c466,.v v469,.v (.p (.int .u64 yg425.Rate)),.v (.p (.int .i64 yg425.f_Type)),.v (.p (.int .i64 yg425.Count)),.v v471])] [] H452),Sim (kE0 yg414 yg425 zp0) (K ((.exit 5),(envL [(2,(.ref ⟨h.length,2,0,s462,[]⟩ 0)),(3,(.ref ⟨h.length,3,0,s473,[]⟩ 0))]),H452)) Q) (k : Nat) : ∀ (x6 : Int) (yg4 : TaiReport) (yg24 : TaiReport) (zp0 : TzTape) (v405 : V) (h406 : SlF dTaiTuple yg4.Tuples v405) (v407 : V) (h408 : SlF (dI .u32) yg4.Abouts v407) (v409 : V) (h410 : SlF (dI .i64) yg4.Numbers v409) (v411 : V) (h412 : SlF (dI .u8) yg4.Body v411) (s413 : Stamp) (v415 : V) (h416 : SlF dTaiTuple yg24.Tuples v415) (c417 : C) (h418 : SoC (dI .u32) yg24.Abouts c417) (h419 : ∀ v,c417 = .v v→v = .p (.slice none 0 0) ∨ v = .fz [] 0 1 true) (v420 : V) (h421 : SlF (dI .i64) yg24.Numbers v420) (v422 : V) (h423 : SlF (dI .u8) yg24.Body v422) (s424 : Stamp) (v426 : V) (h427 : SlF (dI .i64) zp0.f_L v426) (H403 : Go.Ev.H) (_ : Fm 93 h [⟨l0,o0,List.map C.v [v426,(.p (.int .i64 zp0.f_At))]⟩] [(2,s413,List.map C.v [(.p (.int .i64 yg4.Kind)),(.p (.int .u32 yg4.From)),(.p (.int .u32 yg4.About)),v405,v407,v409,(.p (.int .u64 yg4.Rate)),(.p (.int .i64 yg4.f_Type)),(.p (.int .i64 yg4.Count)),v411]),(3,s424,[.v (.p (.int .i64 yg24.Kind)),.v (.p (.int .u32 yg24.From)),.v (.p (.int .u32 yg24.About)),.v v415,c417,.v v420,.v (.p (.int .u64 yg24.Rate)),.v (.p (.int .i64 yg24.f_Type)),.v (.p (.int .i64 yg24.Count)),.v v422])] [] H403) {σ : Stamp},Sim (p_zk_Tape_Report_l2 k kE0 x6 yg4 yg24 zp0) ((cvL G X0 zk_Tape_Report_c2 zk_Tape_Report_l2 σ (envL [(0,(.ref l0 o0)),(2,(.ref ⟨h.length,2,0,s413,[]⟩ 0)),(3,(.ref ⟨h.length,3,0,s424,[]⟩ 0)),(6,(.p (.int .i64 x6)))]) H403).bind K) Q:=by
  induction k with
  | zero => intros; exact Sim.no
  | succ k ih =>
    intro x6 yg4 yg24 zp0 v405 h406 v407 h408 v409 h410 v411 h412 s413 v415 h416 c417 h418 h419 v420 h421 v422 h423 s424 v426 h427 H403 S404 σ
    rw [p_zk_Tape_Report_l2]
    refine Sim.round (Sim.ext (zk_Tape_Report_r2 _ _ _ _ _ _ _ _) ?_)
    refine Sim.cq ?_ ?_
    · refine Sim.fa ?_
      refine Sim.op (h418.ld (S404.atG (i:=1) rfl) (j:=4) rfl) ?_
      refine Sim.call (zk_Tape_Word_ok zp0 h427 (S404.atB (i:=0) rfl)) fun r429 cs430 H431 h432 q433 => ?_
      obtain ⟨v434,h435,q433⟩:=q433
      cases q433
      have S436:=S404.setB (i:=0) (cs:=List.map C.v [v434,(.p (.int .i64 r429.2.f_At))]) rfl rfl
      refine Sim.ci ?_
      refine Sim.nd (h418.ld (S436.atG (i:=1) rfl) (j:=4) rfl) ?_
      have h437:=SlF.int1 .u32 r429.1
      refine Sim.op (bldS (pC rfl pN) (by kernel_rfl : _ = some (vOf h437))) ?_
      refine Sim.bd fun a438 h439 => ?_
      obtain ⟨v440,c441,H442,e443,S444⟩:=S436.appG (i:=1) (j:=4) (d:=90) (e:=1) (own:=true) (σ:=(5::0::1::0::σ)) rfl rfl h418 h419 (h437.h (ptC H403 l0 o0 (List.map C.v [v434,(.p (.int .i64 r429.2.f_At))]))).y h439 (by simp) rfl (by decide) (by decide) rfl rfl
      refine Sim.op (e443) ?_
      refine Sim.fa ?_
      obtain ⟨c449,H446,e447,h450,h451,S448⟩:=S444.mvG (i:=1) (j:=4) (k:=0) (σ:=(7::0::1::0::σ)) rfl rfl rfl rfl rfl rfl
      refine Sim.op (sM e447) ?_
      exact ih (IntKind.wrap .i64 (x6 - 1)) yg4 ((⟨yg24.Kind,yg24.From,yg24.About,yg24.Tuples,a438,yg24.Numbers,yg24.Rate,yg24.f_Type,yg24.Count,yg24.Body⟩ : TaiReport)) r429.2 v405 h406 v407 h408 v409 h410 v411 h412 s413 v415 h416 c449 h450 h451 v420 h421 v422 h423 s424 v434 h435 H446 (S448.wk2 (aC (aM 0 rfl) (aC (aM 1 rfl) aN)) aN)
    exact hE0 yg4 yg24 zp0 v405 h406 v407 h408 v409 h410 v411 h412 s413 v415 h416 c417 h418 h419 v420 h421 v422 h423 s424 v426 h427 H403 (S404.wk2 (aC (aM 0 rfl) (aC (aM 1 rfl) aN)) aN)
theorem zk_Tape_Report_ok (k : Nat) {h : H} {σ : Stamp} (x0 : TzTape) {u0_0 : V} (hu0_0 : SlF (dI .i64) x0.f_L u0_0) {l0 : Loc} {o0 : Nat} (ha0 : AtC h l0 o0 (List.map C.v [u0_0,(.p (.int .i64 x0.f_At))])) : Sim (p_zk_Tape_Report k x0) (ev G X0 15 σ [(.ref l0 o0)] h) (fun r s => ∃ (w0 : List V),∃ (vb0_0 : V),dTaiReport.R r.1 w0∧SlF (dI .i64) r.2.f_L vb0_0∧s = ([.v (.agg w0)],pts h [⟨l0,o0,[.v vb0_0,.v (.p (.int .i64 r.2.f_At))]⟩])):=by
  refine Sim.ev rfl (Sim.ext (zk_Tape_Report_entry _ _ _ _ _) ?_)
  rw [p_zk_Tape_Report]
  have S0 : Fm 93 h [⟨l0,o0,List.map C.v [u0_0,(.p (.int .i64 x0.f_At))]⟩] [] [] (List.replicate 93 []::h):=Fm.start1 ha0
  obtain ⟨H1,e2,S3⟩:=S0.al (d:=2) (s:=(0::0::0::σ)) (z:=[(.p (.int .i64 0)),(.p (.int .u32 0)),(.p (.int .u32 0)),(.p (.slice none 0 0)),(.p (.slice none 0 0)),(.p (.slice none 0 0)),(.p (.int .u64 0)),(.p (.int .i64 0)),(.p (.int .i64 0)),(.p (.slice none 0 0))]) (by decide) rfl
  refine Sim.op (congrArg some e2) ?_
  refine Sim.call (zk_Tape_Next_ok x0 hu0_0 (S3.atB (i:=0) rfl) 6) fun r5 cs6 H7 h8 q9 => ?_
  obtain ⟨v10,h11,q9⟩:=q9
  cases q9
  have S12:=S3.setB (i:=0) (cs:=List.map C.v [v10,(.p (.int .i64 r5.2.f_At))]) rfl rfl
  refine Sim.ci ?_
  refine Sim.call (zk_Tape_Word_ok r5.2 h11 (S12.atB (i:=0) rfl)) fun r13 cs14 H15 h16 q17 => ?_
  obtain ⟨v18,h19,q17⟩:=q17
  cases q17
  have S20:=S12.setB (i:=0) (cs:=List.map C.v [v18,(.p (.int .i64 r13.2.f_At))]) rfl rfl
  refine Sim.ci ?_
  refine Sim.op (bldV (pC rfl (pC rfl pN)) (by kernel_rfl : _ = some (.agg [.p (.int .i64 (IntKind.wrap .i64 (1 + r5.1))),.p (.int .u32 r13.1),.p (.int .u32 0),.p (.slice none 0 0),.p (.slice none 0 0),.p (.slice none 0 0),.p (.int .u64 0),.p (.int .i64 0),.p (.int .i64 0),.p (.slice none 0 0)]))) ?_
  obtain ⟨H21,e22,S23⟩:=S20.al (d:=3) (s:=(6::0::1::0::σ)) (z:=[(.p (.int .i64 0)),(.p (.int .u32 0)),(.p (.int .u32 0)),(.p (.slice none 0 0)),(.p (.slice none 0 0)),(.p (.slice none 0 0)),(.p (.int .u64 0)),(.p (.int .i64 0)),(.p (.int .i64 0)),(.p (.slice none 0 0))]) (by decide) rfl
  refine Sim.op (congrArg some e22) ?_
  obtain ⟨H25,e26,S27⟩:=S23.stGv (i:=0) (j:=0) (own:=false) (σ:=(7::0::1::0::σ)) (xs:=[.p (.int .i64 (IntKind.wrap .i64 (1 + r5.1))),.p (.int .u32 r13.1),.p (.int .u32 0),.p (.slice none 0 0),.p (.slice none 0 0),.p (.slice none 0 0),.p (.int .u64 0),.p (.int .i64 0),.p (.int .i64 0),.p (.slice none 0 0)]) rfl rfl (sC (sI _ _) (sC (sI _ _) (sC (sI _ _) (sC (SlF.nil dTaiTuple).still (sC (SlF.nil (dI .u32)).still (sC (SlF.nil (dI .i64)).still (sC (sI _ _) (sC (sI _ _) (sC (sI _ _) (sC (SlF.nil (dI .u8)).still sN)))))))))) rfl rfl
  refine Sim.op (sM e26) ?_
  refine Sim.fa ?_
  refine Sim.op ((S27.atG (i:=0) rfl).ld (j:=0) rfl) ?_
  refine Sim.ci ?_
  refine Sim.cd (fun hc28 => ?_) (fun hc28 => ?_)
  · refine Sim.cdt (eqT (beq_iff_eq.1 hc28)) ?_
    refine Sim.call (zk_Tape_Next_ok r13.2 h19 (S27.atB (i:=0) rfl) 5) fun r29 cs30 H31 h32 q33 => ?_
    obtain ⟨v34,h35,q33⟩:=q33
    cases q33
    have S36:=S27.setB (i:=0) (cs:=List.map C.v [v34,(.p (.int .i64 r29.2.f_At))]) rfl rfl
    refine Sim.ci ?_
    refine Sim.as (zk_Tape_Report_l0_ok ?_ k r29.1 ((⟨0,0,0,(([] : List TaiTuple)),(([] : List Int)),(([] : List Int)),0,0,0,(([] : List Int))⟩ : TaiReport)) ((⟨(IntKind.wrap .i64 (1 + r5.1)),r13.1,0,(([] : List TaiTuple)),(([] : List Int)),(([] : List Int)),0,0,0,(([] : List Int))⟩ : TaiReport)) r29.2 (.p (.slice none 0 0)) (SlF.nil dTaiTuple) (.p (.slice none 0 0)) (SlF.nil (dI .u32)) (.p (.slice none 0 0)) (SlF.nil (dI .i64)) (.p (.slice none 0 0)) (SlF.nil (dI .u8)) (0::0::0::σ) (.v (.p (.slice none 0 0))) (SoC.frz (SlF.nil dTaiTuple)) (fun v h => by cases h; simp) (.p (.slice none 0 0)) (SlF.nil (dI .u32)) (.p (.slice none 0 0)) (SlF.nil (dI .i64)) (.p (.slice none 0 0)) (SlF.nil (dI .u8)) (6::0::1::0::σ) v34 h35 (ptC H25 l0 o0 (List.map C.v [v34,(.p (.int .i64 r29.2.f_At))])) (S36.wk2 (aC (aM 1 rfl) (aC (aM 0 rfl) aN)) aN))
    · intro yg48 yg59 zp0 v116 h117 v118 h119 v120 h121 v122 h123 s124 c126 h127 h128 v129 h130 v131 h132 v133 h134 s135 v137 h138 H114 S115
      refine Sim.ext (zk_Tape_Report_a0_1 _ _ _ _ _ _) ?_
      obtain ⟨v139,h140,h141⟩:=h127.fr
      obtain ⟨w142,H143,h148,e144,e145,e146,S147⟩:=S115.frzV (i:=1) (n:=10) (ys:=[(.p (.int .i64 yg59.Kind)),(.p (.int .u32 yg59.From)),(.p (.int .u32 yg59.About)),v139,v129,v131,(.p (.int .u64 yg59.Rate)),(.p (.int .i64 yg59.f_Type)),(.p (.int .i64 yg59.Count)),v133]) rfl rfl ⟨(FrC.v (sI _ _)),⟨(FrC.v (sI _ _)),⟨(FrC.v (sI _ _)),⟨h140,⟨(FrC.v h130.still),⟨(FrC.v h132.still),⟨(FrC.v (sI _ _)),⟨(FrC.v (sI _ _)),⟨(FrC.v (sI _ _)),⟨(FrC.v h134.still),trivial⟩⟩⟩⟩⟩⟩⟩⟩⟩⟩ rfl (by decide)
      refine Sim.op (e144) ?_
      obtain ⟨H149,e150,S151⟩:=Fm.stFrz (S0:=S115) (i0:=0) (i:=0) (j:=0) (n:=10) (σ:=(1::0::1::1::1::0::σ)) S147 rfl e146 rfl rfl h148 rfl rfl
      refine Sim.op (sM e150) ?_
      have e152 : ldO true 10 H149 (.ref ⟨h.length,2,0,s124,[]⟩ 0) = some (.agg [.p (.int .i64 yg59.Kind),.p (.int .u32 yg59.From),.p (.int .u32 yg59.About),v139,v129,v131,.p (.int .u64 yg59.Rate),.p (.int .i64 yg59.f_Type),.p (.int .i64 yg59.Count),v133]):=(S151.atG (i:=0) rfl).ldVs (j:=0) rfl rfl (by decide)
      refine Sim.op (congrArg (Option.bind · _) e152) ?_
      exact Sim.fin (S151.finN (lC (Stills.lv (dTaiReport.still (dTaiReport.mk h141 h130 h132 h134))) lN)) ⟨_,v137,(dTaiReport.mk h141 h130 h132 h134),h138,rfl⟩
  refine Sim.cq ?_ ?_
  · refine Sim.call (zk_Tape_Next_ok r13.2 h19 (S27.atB (i:=0) rfl) 5) fun r154 cs155 H156 h157 q158 => ?_
    obtain ⟨v159,h160,q158⟩:=q158
    cases q158
    have S161:=S27.setB (i:=0) (cs:=List.map C.v [v159,(.p (.int .i64 r154.2.f_At))]) rfl rfl
    refine Sim.ci ?_
    refine Sim.as (zk_Tape_Report_l0_ok ?_ k r154.1 ((⟨0,0,0,(([] : List TaiTuple)),(([] : List Int)),(([] : List Int)),0,0,0,(([] : List Int))⟩ : TaiReport)) ((⟨(IntKind.wrap .i64 (1 + r5.1)),r13.1,0,(([] : List TaiTuple)),(([] : List Int)),(([] : List Int)),0,0,0,(([] : List Int))⟩ : TaiReport)) r154.2 (.p (.slice none 0 0)) (SlF.nil dTaiTuple) (.p (.slice none 0 0)) (SlF.nil (dI .u32)) (.p (.slice none 0 0)) (SlF.nil (dI .i64)) (.p (.slice none 0 0)) (SlF.nil (dI .u8)) (0::0::0::σ) (.v (.p (.slice none 0 0))) (SoC.frz (SlF.nil dTaiTuple)) (fun v h => by cases h; simp) (.p (.slice none 0 0)) (SlF.nil (dI .u32)) (.p (.slice none 0 0)) (SlF.nil (dI .i64)) (.p (.slice none 0 0)) (SlF.nil (dI .u8)) (6::0::1::0::σ) v159 h160 (ptC H25 l0 o0 (List.map C.v [v159,(.p (.int .i64 r154.2.f_At))])) (S161.wk2 (aC (aM 1 rfl) (aC (aM 0 rfl) aN)) aN))
    · intro yg48 yg59 zp0 v165 h166 v167 h168 v169 h170 v171 h172 s173 c175 h176 h177 v178 h179 v180 h181 v182 h183 s184 v186 h187 H163 S164
      refine Sim.ext (zk_Tape_Report_a0_1 _ _ _ _ _ _) ?_
      obtain ⟨v188,h189,h190⟩:=h176.fr
      obtain ⟨w191,H192,h197,e193,e194,e195,S196⟩:=S164.frzV (i:=1) (n:=10) (ys:=[(.p (.int .i64 yg59.Kind)),(.p (.int .u32 yg59.From)),(.p (.int .u32 yg59.About)),v188,v178,v180,(.p (.int .u64 yg59.Rate)),(.p (.int .i64 yg59.f_Type)),(.p (.int .i64 yg59.Count)),v182]) rfl rfl ⟨(FrC.v (sI _ _)),⟨(FrC.v (sI _ _)),⟨(FrC.v (sI _ _)),⟨h189,⟨(FrC.v h179.still),⟨(FrC.v h181.still),⟨(FrC.v (sI _ _)),⟨(FrC.v (sI _ _)),⟨(FrC.v (sI _ _)),⟨(FrC.v h183.still),trivial⟩⟩⟩⟩⟩⟩⟩⟩⟩⟩ rfl (by decide)
      refine Sim.op (e193) ?_
      obtain ⟨H198,e199,S200⟩:=Fm.stFrz (S0:=S164) (i0:=0) (i:=0) (j:=0) (n:=10) (σ:=(1::0::1::1::1::0::σ)) S196 rfl e195 rfl rfl h197 rfl rfl
      refine Sim.op (sM e199) ?_
      have e201 : ldO true 10 H198 (.ref ⟨h.length,2,0,s173,[]⟩ 0) = some (.agg [.p (.int .i64 yg59.Kind),.p (.int .u32 yg59.From),.p (.int .u32 yg59.About),v188,v178,v180,.p (.int .u64 yg59.Rate),.p (.int .i64 yg59.f_Type),.p (.int .i64 yg59.Count),v182]):=(S200.atG (i:=0) rfl).ldVs (j:=0) rfl rfl (by decide)
      refine Sim.op (congrArg (Option.bind · _) e201) ?_
      exact Sim.fin (S200.finN (lC (Stills.lv (dTaiReport.still (dTaiReport.mk h190 h179 h181 h183))) lN)) ⟨_,v186,(dTaiReport.mk h190 h179 h181 h183),h187,rfl⟩
  refine Sim.cq ?_ ?_
  · refine Sim.call (zk_Tape_Word_ok r13.2 h19 (S27.atB (i:=0) rfl)) fun r203 cs204 H205 h206 q207 => ?_
    obtain ⟨v208,h209,q207⟩:=q207
    cases q207
    have S210:=S27.setB (i:=0) (cs:=List.map C.v [v208,(.p (.int .i64 r203.2.f_At))]) rfl rfl
    refine Sim.ci ?_
    refine Sim.fa ?_
    obtain ⟨H211,e212,S213⟩:=S210.stG (i:=0) (j:=2) (own:=true) (σ:=(3::1::1::1::0::1::1::0::σ)) (x:=(.p (.int .u32 r203.1))) rfl rfl (sI _ _) rfl
    refine Sim.op (sM e212) ?_
    refine Sim.op ((S213.atG (i:=0) rfl).ldVs (j:=0) (xs:=[.p (.int .i64 (IntKind.wrap .i64 (1 + r5.1))),.p (.int .u32 r13.1),.p (.int .u32 r203.1),.p (.slice none 0 0),.p (.slice none 0 0),.p (.slice none 0 0),.p (.int .u64 0),.p (.int .i64 0),.p (.int .i64 0),.p (.slice none 0 0)]) rfl rfl (by decide)) ?_
    obtain ⟨H214,e215,S216⟩:=S213.stGv (i:=1) (j:=0) (own:=false) (σ:=(1::0::1::1::1::0::σ)) (xs:=[.p (.int .i64 (IntKind.wrap .i64 (1 + r5.1))),.p (.int .u32 r13.1),.p (.int .u32 r203.1),.p (.slice none 0 0),.p (.slice none 0 0),.p (.slice none 0 0),.p (.int .u64 0),.p (.int .i64 0),.p (.int .i64 0),.p (.slice none 0 0)]) rfl rfl (sC (sI _ _) (sC (sI _ _) (sC (sI _ _) (sC (SlF.nil dTaiTuple).still (sC (SlF.nil (dI .u32)).still (sC (SlF.nil (dI .i64)).still (sC (sI _ _) (sC (sI _ _) (sC (sI _ _) (sC (SlF.nil (dI .u8)).still sN)))))))))) rfl rfl
    refine Sim.op (sM e215) ?_
    have e217 : ldO true 10 H214 (.ref ⟨h.length,2,0,(0::0::0::σ),[]⟩ 0) = some (.agg [.p (.int .i64 (IntKind.wrap .i64 (1 + r5.1))),.p (.int .u32 r13.1),.p (.int .u32 r203.1),.p (.slice none 0 0),.p (.slice none 0 0),.p (.slice none 0 0),.p (.int .u64 0),.p (.int .i64 0),.p (.int .i64 0),.p (.slice none 0 0)]):=(S216.atG (i:=1) rfl).ldVs (j:=0) rfl rfl (by decide)
    refine Sim.op (congrArg (Option.bind · _) e217) ?_
    exact Sim.fin (S216.finN (lC (Stills.lv (dTaiReport.still (dTaiReport.mk (SlF.nil dTaiTuple) (SlF.nil (dI .u32)) (SlF.nil (dI .i64)) (SlF.nil (dI .u8))))) lN)) ⟨_,v208,(dTaiReport.mk (SlF.nil dTaiTuple) (SlF.nil (dI .u32)) (SlF.nil (dI .i64)) (SlF.nil (dI .u8))),h209,rfl⟩
  refine Sim.cq ?_ ?_
  · refine Sim.call (zk_Tape_Next_ok r13.2 h19 (S27.atB (i:=0) rfl) 3) fun r219 cs220 H221 h222 q223 => ?_
    obtain ⟨v224,h225,q223⟩:=q223
    cases q223
    have S226:=S27.setB (i:=0) (cs:=List.map C.v [v224,(.p (.int .i64 r219.2.f_At))]) rfl rfl
    refine Sim.ci ?_
    refine Sim.as (zk_Tape_Report_l1_ok ?_ k r219.1 ((⟨0,0,0,(([] : List TaiTuple)),(([] : List Int)),(([] : List Int)),0,0,0,(([] : List Int))⟩ : TaiReport)) ((⟨(IntKind.wrap .i64 (1 + r5.1)),r13.1,0,(([] : List TaiTuple)),(([] : List Int)),(([] : List Int)),0,0,0,(([] : List Int))⟩ : TaiReport)) r219.2 (.p (.slice none 0 0)) (SlF.nil dTaiTuple) (.p (.slice none 0 0)) (SlF.nil (dI .u32)) (.p (.slice none 0 0)) (SlF.nil (dI .i64)) (.p (.slice none 0 0)) (SlF.nil (dI .u8)) (0::0::0::σ) (.p (.slice none 0 0)) (SlF.nil dTaiTuple) (.v (.p (.slice none 0 0))) (SoC.frz (SlF.nil (dI .u32))) (fun v h => by cases h; simp) (.v (.p (.slice none 0 0))) (SoC.frz (SlF.nil (dI .i64))) (fun v h => by cases h; simp) (.p (.slice none 0 0)) (SlF.nil (dI .u8)) (6::0::1::0::σ) v224 h225 (ptC H25 l0 o0 (List.map C.v [v224,(.p (.int .i64 r219.2.f_At))])) (S226.wk2 (aC (aM 1 rfl) (aC (aM 0 rfl) aN)) aN))
    · intro yg238 yg250 zp0 v329 h330 v331 h332 v333 h334 v335 h336 s337 v339 h340 c341 h342 h343 c344 h345 h346 v347 h348 s349 v351 h352 H327 S328
      refine Sim.ext (zk_Tape_Report_a1_3 _ _ _ _ _ _) ?_
      obtain ⟨v353,h354,h355⟩:=h342.fr
      obtain ⟨v356,h357,h358⟩:=h345.fr
      obtain ⟨w359,H360,h365,e361,e362,e363,S364⟩:=S328.frzV (i:=1) (n:=10) (ys:=[(.p (.int .i64 yg250.Kind)),(.p (.int .u32 yg250.From)),(.p (.int .u32 yg250.About)),v339,v353,v356,(.p (.int .u64 yg250.Rate)),(.p (.int .i64 yg250.f_Type)),(.p (.int .i64 yg250.Count)),v347]) rfl rfl ⟨(FrC.v (sI _ _)),⟨(FrC.v (sI _ _)),⟨(FrC.v (sI _ _)),⟨(FrC.v h340.still),⟨h354,⟨h357,⟨(FrC.v (sI _ _)),⟨(FrC.v (sI _ _)),⟨(FrC.v (sI _ _)),⟨(FrC.v h348.still),trivial⟩⟩⟩⟩⟩⟩⟩⟩⟩⟩ rfl (by decide)
      refine Sim.op (e361) ?_
      obtain ⟨H366,e367,S368⟩:=Fm.stFrz (S0:=S328) (i0:=0) (i:=0) (j:=0) (n:=10) (σ:=(1::0::1::1::1::0::σ)) S364 rfl e363 rfl rfl h365 rfl rfl
      refine Sim.op (sM e367) ?_
      have e369 : ldO true 10 H366 (.ref ⟨h.length,2,0,s337,[]⟩ 0) = some (.agg [.p (.int .i64 yg250.Kind),.p (.int .u32 yg250.From),.p (.int .u32 yg250.About),v339,v353,v356,.p (.int .u64 yg250.Rate),.p (.int .i64 yg250.f_Type),.p (.int .i64 yg250.Count),v347]):=(S368.atG (i:=0) rfl).ldVs (j:=0) rfl rfl (by decide)
      refine Sim.op (congrArg (Option.bind · _) e369) ?_
      exact Sim.fin (S368.finN (lC (Stills.lv (dTaiReport.still (dTaiReport.mk h340 h355 h358 h348))) lN)) ⟨_,v351,(dTaiReport.mk h340 h355 h358 h348),h352,rfl⟩
  refine Sim.cq ?_ ?_
  · refine Sim.call (zk_Tape_Next_ok r13.2 h19 (S27.atB (i:=0) rfl) 1048576) fun r371 cs372 H373 h374 q375 => ?_
    obtain ⟨v376,h377,q375⟩:=q375
    cases q375
    have S378:=S27.setB (i:=0) (cs:=List.map C.v [v376,(.p (.int .i64 r371.2.f_At))]) rfl rfl
    refine Sim.ci ?_
    refine Sim.call (zk_Tape_Next_ok r371.2 h377 (S378.atB (i:=0) rfl) 900) fun r379 cs380 H381 h382 q383 => ?_
    obtain ⟨v384,h385,q383⟩:=q383
    cases q383
    have S386:=S378.setB (i:=0) (cs:=List.map C.v [v384,(.p (.int .i64 r379.2.f_At))]) rfl rfl
    refine Sim.ci ?_
    refine Sim.call (zr1_Down_ok k (IntKind.wrap .u64 ((IntKind.wrap .u64 r371.1) * (IntKind.wrap .u64 (IntKind.wrap .i64 (1 + r379.1))))) 18) fun r387 cs388 H389 h390 q391 => ?_
    cases q391
    refine Sim.ci ?_
    refine Sim.fa ?_
    obtain ⟨H392,e393,S394⟩:=S386.stG (i:=0) (j:=6) (own:=true) (σ:=(10::0::1::1::1::1::1::0::1::1::0::σ)) (x:=(.p (.int .u64 r387))) rfl rfl (sI _ _) rfl
    refine Sim.op (sM e393) ?_
    refine Sim.call (zk_Tape_Next_ok r379.2 h385 (S394.atB (i:=0) rfl) 4) fun r395 cs396 H397 h398 q399 => ?_
    obtain ⟨v400,h401,q399⟩:=q399
    cases q399
    have S402:=S394.setB (i:=0) (cs:=List.map C.v [v400,(.p (.int .i64 r395.2.f_At))]) rfl rfl
    refine Sim.ci ?_
    refine Sim.as (zk_Tape_Report_l2_ok ?_ k r395.1 ((⟨0,0,0,(([] : List TaiTuple)),(([] : List Int)),(([] : List Int)),0,0,0,(([] : List Int))⟩ : TaiReport)) ((⟨(IntKind.wrap .i64 (1 + r5.1)),r13.1,0,(([] : List TaiTuple)),(([] : List Int)),(([] : List Int)),r387,0,0,(([] : List Int))⟩ : TaiReport)) r395.2 (.p (.slice none 0 0)) (SlF.nil dTaiTuple) (.p (.slice none 0 0)) (SlF.nil (dI .u32)) (.p (.slice none 0 0)) (SlF.nil (dI .i64)) (.p (.slice none 0 0)) (SlF.nil (dI .u8)) (0::0::0::σ) (.p (.slice none 0 0)) (SlF.nil dTaiTuple) (.v (.p (.slice none 0 0))) (SoC.frz (SlF.nil (dI .u32))) (fun v h => by cases h; simp) (.p (.slice none 0 0)) (SlF.nil (dI .i64)) (.p (.slice none 0 0)) (SlF.nil (dI .u8)) (6::0::1::0::σ) v400 h401 (ptC H392 l0 o0 (List.map C.v [v400,(.p (.int .i64 r395.2.f_At))])) (S402.wk2 (aC (aM 1 rfl) (aC (aM 0 rfl) aN)) aN))
    · intro yg414 yg425 zp0 v480 h481 v482 h483 v484 h485 v486 h487 s488 v490 h491 c492 h493 h494 v495 h496 v497 h498 s499 v501 h502 H478 S479
      refine Sim.ext (zk_Tape_Report_a2_5 _ _ _ _ _ _) ?_
      obtain ⟨v503,h504,h505⟩:=h493.fr
      obtain ⟨w506,H507,h512,e508,e509,e510,S511⟩:=S479.frzV (i:=1) (n:=10) (ys:=[(.p (.int .i64 yg425.Kind)),(.p (.int .u32 yg425.From)),(.p (.int .u32 yg425.About)),v490,v503,v495,(.p (.int .u64 yg425.Rate)),(.p (.int .i64 yg425.f_Type)),(.p (.int .i64 yg425.Count)),v497]) rfl rfl ⟨(FrC.v (sI _ _)),⟨(FrC.v (sI _ _)),⟨(FrC.v (sI _ _)),⟨(FrC.v h491.still),⟨h504,⟨(FrC.v h496.still),⟨(FrC.v (sI _ _)),⟨(FrC.v (sI _ _)),⟨(FrC.v (sI _ _)),⟨(FrC.v h498.still),trivial⟩⟩⟩⟩⟩⟩⟩⟩⟩⟩ rfl (by decide)
      refine Sim.op (e508) ?_
      obtain ⟨H513,e514,S515⟩:=Fm.stFrz (S0:=S479) (i0:=0) (i:=0) (j:=0) (n:=10) (σ:=(1::0::1::1::1::0::σ)) S511 rfl e510 rfl rfl h512 rfl rfl
      refine Sim.op (sM e514) ?_
      have e516 : ldO true 10 H513 (.ref ⟨h.length,2,0,s488,[]⟩ 0) = some (.agg [.p (.int .i64 yg425.Kind),.p (.int .u32 yg425.From),.p (.int .u32 yg425.About),v490,v503,v495,.p (.int .u64 yg425.Rate),.p (.int .i64 yg425.f_Type),.p (.int .i64 yg425.Count),v497]):=(S515.atG (i:=0) rfl).ldVs (j:=0) rfl rfl (by decide)
      refine Sim.op (congrArg (Option.bind · _) e516) ?_
      exact Sim.fin (S515.finN (lC (Stills.lv (dTaiReport.still (dTaiReport.mk h491 h505 h496 h498))) lN)) ⟨_,v501,(dTaiReport.mk h491 h505 h496 h498),h502,rfl⟩
  refine Sim.call (zk_Tape_Next_ok r13.2 h19 (S27.atB (i:=0) rfl) 12) fun r517 cs518 H519 h520 q521 => ?_
  obtain ⟨v522,h523,q521⟩:=q521
  cases q521
  have S524:=S27.setB (i:=0) (cs:=List.map C.v [v522,(.p (.int .i64 r517.2.f_At))]) rfl rfl
  refine Sim.ci ?_
  refine Sim.call (zk_Tape_Next_ok r517.2 h523 (S524.atB (i:=0) rfl) 32) fun r525 cs526 H527 h528 q529 => ?_
  obtain ⟨v530,h531,q529⟩:=q529
  cases q529
  have S532:=S524.setB (i:=0) (cs:=List.map C.v [v530,(.p (.int .i64 r525.2.f_At))]) rfl rfl
  refine Sim.ci ?_
  refine Sim.call (zk_Tape_Bytes_ok k r525.2 h531 (S532.atB (i:=0) rfl) 12) fun r533 cs534 H535 h536 q537 => ?_
  obtain ⟨c538,cs539,v542,h540,h541,h543,q537⟩:=q537
  cases q537
  have S544:=S532.setB (i:=0) (cs:=List.map C.v [v542,(.p (.int .i64 r533.2.f_At))]) rfl rfl
  obtain ⟨v545,H546,e547,S548⟩:=S544.land (dt:=(dI .u8)) (d:=21) (e:=0) (n:=0) h540 h541 (by decide) rfl
  erw [e547]
  refine Sim.call (zr1_Pad_ok k r533.1 (S548.sl (i:=0) rfl) 4) fun r550 cs551 H552 h553 q554 => ?_
  obtain ⟨v555,h556,q554⟩:=q554
  cases q554
  refine Sim.op (bldV (pC rfl (pC rfl (pC rfl (pC h556.still.cells pN)))) (by kernel_rfl : _ = some (.agg [.p (.int .i64 6),.p (.int .u32 0),.p (.int .u32 0),.p (.slice none 0 0),.p (.slice none 0 0),.p (.slice none 0 0),.p (.int .u64 0),.p (.int .i64 (IntKind.wrap .i64 (192 + r517.1))),.p (.int .i64 r525.1),v555]))) ?_
  obtain ⟨H557,e558,S559⟩:=S548.stGv (i:=1) (j:=0) (own:=false) (σ:=(9::0::1::1::1::1::1::0::1::1::0::σ)) (xs:=[.p (.int .i64 6),.p (.int .u32 0),.p (.int .u32 0),.p (.slice none 0 0),.p (.slice none 0 0),.p (.slice none 0 0),.p (.int .u64 0),.p (.int .i64 (IntKind.wrap .i64 (192 + r517.1))),.p (.int .i64 r525.1),v555]) rfl rfl (sC (sI _ _) (sC (sI _ _) (sC (sI _ _) (sC (SlF.nil dTaiTuple).still (sC (SlF.nil (dI .u32)).still (sC (SlF.nil (dI .i64)).still (sC (sI _ _) (sC (sI _ _) (sC (sI _ _) (sC h556.still sN)))))))))) rfl rfl
  refine Sim.op (sM e558) ?_
  have e560 : ldO true 10 H557 (.ref ⟨h.length,2,0,(0::0::0::σ),[]⟩ 0) = some (.agg [.p (.int .i64 6),.p (.int .u32 0),.p (.int .u32 0),.p (.slice none 0 0),.p (.slice none 0 0),.p (.slice none 0 0),.p (.int .u64 0),.p (.int .i64 (IntKind.wrap .i64 (192 + r517.1))),.p (.int .i64 r525.1),v555]):=(S559.atG (i:=1) rfl).ldVs (j:=0) rfl rfl (by decide)
  refine Sim.op (congrArg (Option.bind · _) e560) ?_
  exact Sim.fin (S559.finN (lC (Stills.lv (dTaiReport.still (dTaiReport.mk (SlF.nil dTaiTuple) (SlF.nil (dI .u32)) (SlF.nil (dI .i64)) h556))) lN)) ⟨_,v542,(dTaiReport.mk (SlF.nil dTaiTuple) (SlF.nil (dI .u32)) (SlF.nil (dI .i64)) h556),h543,rfl⟩
end Go.Ev
namespace Go.Ev
open Go.Proofs
set_option linter.unusedVariables false
set_option linter.unusedSimpArgs false
set_option maxRecDepth 100000
noncomputable section
abbrev KT6:=Exit→Env→H→Option (List C × H)
variable (rec : CallF) (loop : LoopV) (σ : Stamp)
theorem zl6_known_entry  (h : H) : cvBody G rec loop 20 σ [] h =
(buildV Try.prog 33 [(0,(.p (.int .i64 3))),(1,(.p (.int .u32 1))),(2,(.p (.int .u32 2)))]).bind fun t1 =>
(some (alO [.p (.int .i64 0),.p (.int .u32 0),.p (.int .u32 0),.p (.slice none 0 0),.p (.slice none 0 0),.p (.slice none 0 0),.p (.int .u64 0),.p (.int .i64 0),.p (.int .i64 0),.p (.slice none 0 0)] (1::0::1::0::σ) 1 (List.replicate 105 []::h))).bind fun q2 =>
((stO false 10 (2::0::1::0::σ) q2.2 q2.1 t1).map fun h => (udf,h)).bind fun q3 =>
(ldO true 10 q3.2 q2.1).bind fun t4 =>
(bSV Try.prog 29 1 [(0,(.p (.int .u32 5)))]).bind fun t5 =>
(buildV Try.prog 33 [(0,(.p (.int .i64 5))),(6,(.p (.int .u64 8000))),(4,t5)]).bind fun t6 =>
(bSV Try.prog 36 2 [(0,t4),(1,t6)]).bind fun t7 =>
(callFO rec 24 (4::0::1::1::0::σ) [t7] q3.2 (some 18)).bind fun q8 =>
(extV q8.1 0).bind fun t9 =>
(extV q8.1 1).bind fun t10 =>
(castI .i64 t10).bind fun n11 =>
(callFO rec 25 (1::0::1::1::1::0::σ) [t9] q8.2 (some 23)).bind fun q12 =>
(extV q12.1 0).bind fun t13 =>
(extV q12.1 1).bind fun t14 =>
(castI .i64 t14).bind fun n15 =>
(callFO rec 25 (0::0::1::1::1::1::0::σ) [(.p (.slice .none 0 0))] q12.2 (some 27)).bind fun q16 =>
(extV q16.1 0).bind fun t17 =>
(extV q16.1 1).bind fun t18 =>
(castI .i64 t18).bind fun n19 =>
(callFO rec 24 (0::0::1::1::1::1::1::0::σ) [(.p (.slice .none 0 0))] q16.2 (some 31)).bind fun q20 =>
(extV q20.1 0).bind fun t21 =>
(extV q20.1 1).bind fun t22 =>
(castI .i64 t22).bind fun n23 =>
(bSV Try.prog 31 4 [(0,(.p (.int .u8 161))),(1,(.p (.int .u8 206))),(2,(.p (.int .u8 0))),(3,(.p (.int .u8 0)))]).bind fun t24 =>
(callFO rec 25 (1::0::1::1::1::1::1::1::0::σ) [t24] q20.2 (some 36)).bind fun q25 =>
(extV q25.1 0).bind fun t26 =>
(extV q25.1 1).bind fun t27 =>
(castI .i64 t27).bind fun n28 =>
(bif n11 == 0 then ((lenO t9).bind fun t29 =>
(castI .i64 t29).bind fun n30 =>
some (n30 == 36)) else (some false)).bind fun b31 =>
(bif b31 then ((slS 1 t9 none (some 4) none).bind fun t32 =>
(strO q25.2 t32).bind fun t33 =>
(castS t33).bind fun s34 =>
some (s34.toList == ((⟨#[129,206,0,2]⟩ : ByteArray)).toList)) else (some false)).bind fun b35 =>
(bif b35 then (some (n15 == 0)) else (some false)).bind fun b36 =>
(bif b36 then ((lenO t13).bind fun t37 =>
(castI .i64 t37).bind fun n38 =>
some (n38 == 2)) else (some false)).bind fun b39 =>
(bif b39 then ((iS 10 t13 0).bind fun t40 =>
(ldO true 10 q25.2 t40).bind fun t41 =>
(ldO true 10 q25.2 q2.1).bind fun t42 =>
(callO rec 22 (27::0::1::1::1::1::1::1::1::0::σ) [t41,t42] q25.2 (some 66)).bind fun q43 =>
(asB q43.1).bind fun b44 =>
some ((.p (.bool b44)),q43.2)) else (some ((.p (.bool false)),q25.2))).bind fun q45 =>
(asB q45.1).bind fun b46 =>
(bif b46 then ((iS 10 t13 1).bind fun t47 =>
(fA t47 6).bind fun t48 =>
(ldO false 1 q45.2 t48).bind fun t49 =>
(castI .u64 t49).bind fun n50 =>
some (n50 == 8000)) else (some false)).bind fun b51 =>
(bif b51 then (some (n19 == 13)) else (some false)).bind fun b52 =>
(bif b52 then (some (n23 == 1)) else (some false)).bind fun b53 =>
(bif b53 then (some (n28 == 12)) else (some false)).bind fun b54 =>
(bif b54 then ((callO rec 29 (50::0::1::1::1::1::1::1::1::0::σ) [t9] q45.2 (some 89)).bind fun q55 =>
(asB q55.1).bind fun b56 =>
some ((.p (.bool b56)),q55.2)) else (some ((.p (.bool false)),q45.2))).bind fun q57 =>
(asB q57.1).bind fun b58 =>
(bif b58 then ((callO rec 29 (53::0::1::1::1::1::1::1::1::0::σ) [(.p (.slice .none 0 0))] q57.2 (some 92)).bind fun q59 =>
(asB q59.1).bind fun b60 =>
some ((.p (.bool (!b60))),q59.2)) else (some ((.p (.bool false)),q57.2))).bind fun q61 =>
(asB q61.1).bind fun b62 =>
(bif b62 then ((bSV Try.prog 31 2 [(0,(.p (.int .u8 128))),(1,(.p (.int .u8 96)))]).bind fun t63 =>
(callO rec 29 (58::0::1::1::1::1::1::1::1::0::σ) [t63] q61.2 (some 97)).bind fun q64 =>
(asB q64.1).bind fun b65 =>
some ((.p (.bool (!b65))),q64.2)) else (some ((.p (.bool false)),q61.2))).bind fun q66 =>
(asB q66.1).bind fun b67 =>
(bif b67 then ((buildV Try.prog 33 []).bind fun t68 =>
(callO rec 28 (63::0::1::1::1::1::1::1::1::0::σ) [t68] q66.2 (some 102)).bind fun q69 =>
(castI .i64 q69.1).bind fun n70 =>
some ((.p (.bool (n70 == 12))),q69.2)) else (some ((.p (.bool false)),q66.2))).bind fun q71 =>
(asB q71.1).bind fun b72 =>
fin false σ q71.2 [(.p (.bool b72))]:=by kernel_rfl
def rtcp_Bytes_c0 : Code:=(codeAt (bodyOf Try.f24) [1,1,1,0,1,0,0])
def rtcp_Bytes_l0 : Lv:=⟨17,12,[(0,17)]⟩
def rtcp_Bytes_k0 : KT6:=(kBlock 0 (kSeq G rec loop (codeAt (bodyOf Try.f24) [1,1,1,1]) ⟨12,12,[]⟩ (1::1::1::0::σ) (finC G true Try.f24 (1::σ))))
def rtcp_Bytes_c1 : Code:=(codeAt (bodyOf Try.f24) [1,1,1,1,0,1,0,0])
def rtcp_Bytes_l1 : Lv:=⟨16,12,[(2,16)]⟩
def rtcp_Bytes_k1 : KT6:=(kBlock 2 (kSeq G rec loop (codeAt (bodyOf Try.f24) [1,1,1,1,1]) ⟨12,12,[]⟩ (1::1::1::1::0::σ) (finC G true Try.f24 (1::σ))))
theorem rtcp_Bytes_entry (x0 : V) (h : H) : cvBody G rec loop 24 σ [x0] h =
(lenO x0).bind fun t1 =>
(castI .i64 t1).bind fun n2 =>
bif n2 == 0 then (
fin true σ (List.replicate 62 []::h) [(.p (.slice .none 0 0)),(.p (.int .i64 1))])
else (
(lenO x0).bind fun t3 =>
(castI .i64 t3).bind fun n4 =>
(loop rtcp_Bytes_c0 rtcp_Bytes_l0 (1::0::1::1::1::0::σ) (envL [(0,x0),(4,(.p (.slice .none 0 0))),(16,x0),(17,(.p (.int .i64 n4))),(18,(.p (.int .i64 0)))]) (List.replicate 62 []::h)).bind fun r5 => rtcp_Bytes_k0 rec loop σ r5.1 r5.2.1 r5.2.2):=by kernel_rfl
theorem rtcp_Bytes_r0 (x0 : V) (x4 : V) (x16 : V) (x17 : Int) (x18 : Int) (h : H) : cvRound G rec loop rtcp_Bytes_c0 rtcp_Bytes_l0 σ (envL [(0,x0),(4,x4),(16,x16),(17,(.p (.int .i64 x17))),(18,(.p (.int .i64 x18)))]) h =
bif decide (x18 < x17) then (
(iS 10 x16 x18).bind fun t6 =>
(ldO true 10 h t6).bind fun t7 =>
(some (alO [.p (.int .i64 0),.p (.int .u32 0),.p (.int .u32 0),.p (.slice none 0 0),.p (.slice none 0 0),.p (.slice none 0 0),.p (.int .u64 0),.p (.int .i64 0),.p (.int .i64 0),.p (.slice none 0 0)] (2::0::0::1::1::0::σ) 6 h)).bind fun q8 =>
((stO false 10 (3::0::0::1::1::0::σ) q8.2 q8.1 t7).map fun h => (udf,h)).bind fun q9 =>
(ldO true 10 q9.2 q8.1).bind fun t10 =>
(callO rec 28 (1::0::1::0::1::1::0::σ) [t10] q9.2 (some 23)).bind fun q11 =>
(castI .i64 q11.1).bind fun n12 =>
bif n12 != 0 then (
some (.ret,(envL [(2,(.p (.slice .none 0 0))),(3,(.p (.int .i64 n12)))]),q11.2))
else (
loop rtcp_Bytes_c0 rtcp_Bytes_l0 (1::σ) (envL [(0,x0),(4,x4),(16,x16),(17,(.p (.int .i64 x17))),(18,(.p (.int .i64 (IntKind.wrap .i64 (x18 + 1)))))]) q11.2))
else (
some ((.exit 0),(envL [(0,x0),(4,x4)]),h)):=by kernel_rfl
theorem rtcp_Bytes_a0_0 (x0 : V) (x4 : V) (h : H) : rtcp_Bytes_k0 rec loop σ (.exit 0) (envL [(0,x0),(4,x4)]) h =
(lenO x0).bind fun t13 =>
(castI .i64 t13).bind fun n14 =>
(loop rtcp_Bytes_c1 rtcp_Bytes_l1 (1::0::1::1::1::1::0::σ) (envL [(4,x4),(28,x0),(29,(.p (.int .i64 n14))),(30,(.p (.int .i64 0)))]) h).bind fun r15 => rtcp_Bytes_k1 rec loop σ r15.1 r15.2.1 r15.2.2:=by kernel_rfl
theorem rtcp_Bytes_a0_ret (x2 : V) (x3 : Int) (h : H) : rtcp_Bytes_k0 rec loop σ .ret (envL [(2,x2),(3,(.p (.int .i64 x3)))]) h =
fin true σ h [x2,(.p (.int .i64 x3))]:=by kernel_rfl
theorem rtcp_Bytes_r1 (x4 : V) (x28 : V) (x29 : Int) (x30 : Int) (h : H) : cvRound G rec loop rtcp_Bytes_c1 rtcp_Bytes_l1 σ (envL [(4,x4),(28,x28),(29,(.p (.int .i64 x29))),(30,(.p (.int .i64 x30)))]) h =
bif decide (x30 < x29) then (
(iS 10 x28 x30).bind fun t16 =>
(ldO true 10 h t16).bind fun t17 =>
(some (alO [.p (.int .i64 0),.p (.int .u32 0),.p (.int .u32 0),.p (.slice none 0 0),.p (.slice none 0 0),.p (.slice none 0 0),.p (.int .u64 0),.p (.int .i64 0),.p (.int .i64 0),.p (.slice none 0 0)] (2::0::0::1::1::0::σ) 9 h)).bind fun q18 =>
((stO false 10 (3::0::0::1::1::0::σ) q18.2 q18.1 t17).map fun h => (udf,h)).bind fun q19 =>
(ldO true 10 q19.2 q18.1).bind fun t20 =>
(callO rec 56 (1::0::1::0::1::1::0::σ) [t20] q19.2 (some 36)).bind fun q21 =>
(extV q21.1 0).bind fun t22 =>
(extV q21.1 1).bind fun t23 =>
(castI .i64 t23).bind fun n24 =>
(extV q21.1 2).bind fun t25 =>
(castI .i64 t25).bind fun n26 =>
(bSV Try.prog 31 2 [(0,(.p (.int .u8 (IntKind.wrap .u8 (intBits .or .i64 128 n26))))),(1,(.p (.int .u8 (IntKind.wrap .u8 n24))))]).bind fun t27 =>
(apO true 1 1 (7::0::1::1::0::1::1::0::σ) 47 q21.2 x4 t27).bind fun q28 =>
(lenO t22).bind fun t29 =>
(castI .i64 t29).bind fun n30 =>
(callO rec 57 (5::0::1::1::1::0::1::1::0::σ) [q28.1,(.p (.int .u64 (IntKind.wrap .u64 (IntKind.wrap .i64 (Int.tdiv n30 4))))),(.p (.int .i64 2))] q28.2 (some 53)).bind fun q31 =>
(apO true 1 1 (7::0::1::1::1::0::1::1::0::σ) 55 q31.2 q31.1 t22).bind fun q32 =>
(lenO q32.1).bind fun t33 =>
(castI .i64 t33).bind fun n34 =>
bif decide (n34 > 1500) then (
some (.ret,(envL [(2,(.p (.slice .none 0 0))),(3,(.p (.int .i64 3)))]),q32.2))
else (
loop rtcp_Bytes_c1 rtcp_Bytes_l1 (1::σ) (envL [(4,q32.1),(28,x28),(29,(.p (.int .i64 x29))),(30,(.p (.int .i64 (IntKind.wrap .i64 (x30 + 1)))))]) q32.2))
else (
some ((.exit 2),(envL [(4,x4)]),h)):=by kernel_rfl
theorem rtcp_Bytes_a1_2 (x4 : V) (h : H) : rtcp_Bytes_k1 rec loop σ (.exit 2) (envL [(4,x4)]) h =
(callO rec 58 (1::0::1::1::1::1::1::0::σ) [x4] h (some 61)).bind fun q35 =>
fin true σ q35.2 [q35.1,(.p (.int .i64 0))]:=by kernel_rfl
theorem rtcp_Bytes_a1_ret (x2 : V) (x3 : Int) (h : H) : rtcp_Bytes_k1 rec loop σ .ret (envL [(2,x2),(3,(.p (.int .i64 x3)))]) h =
fin true σ h [x2,(.p (.int .i64 x3))]:=by kernel_rfl
theorem slices_Clip_Lbyte_byte_entry (x0 : V) (h : H) : cvBody G rec loop 58 σ [x0] h =
(lenO x0).bind fun t1 =>
(castI .i64 t1).bind fun n2 =>
(lenO x0).bind fun t3 =>
(castI .i64 t3).bind fun n4 =>
(slS 1 x0 none (some n2) (some n4)).bind fun t5 =>
fin false σ (List.replicate 9 []::h) [t5]:=by kernel_rfl
def octet_Put_c0 : Code:=(codeAt (bodyOf Try.f57) [1,1,1,0,1,0,0])
def octet_Put_l0 : Lv:=⟨128,64,[(0,128)]⟩
def octet_Put_k0 : KT6:=(kBlock 0 (kSeq G rec loop (codeAt (bodyOf Try.f57) [1,1,1,1]) ⟨64,64,[]⟩ (1::1::1::0::σ) (finC G false Try.f57 (1::σ))))
theorem octet_Put_entry (x0 : V) (x1 : Int) (x2 : Int) (h : H) : cvBody G rec loop 57 σ [x0,(.p (.int .u64 x1)),(.p (.int .i64 x2))] h =
(callO rec 95 (1::0::1::0::σ) [x0] (List.replicate 34 []::h) (some 10)).bind fun q1 =>
(bif decide (x2 < 1) then (some true) else (some (decide (x2 > 8)))).bind fun b2 =>
bif b2 then (
fin false σ q1.2 [q1.1])
else (
(loop octet_Put_c0 octet_Put_l0 (1::0::1::1::1::0::σ) (envL [(1,(.p (.int .u64 x1))),(7,q1.1),(8,(.p (.int .i64 (IntKind.wrap .i64 (x2 - 1)))))]) q1.2).bind fun r3 => octet_Put_k0 rec loop σ r3.1 r3.2.1 r3.2.2):=by kernel_rfl
theorem octet_Put_r0 (x1 : Int) (x7 : V) (x8 : Int) (h : H) : cvRound G rec loop octet_Put_c0 octet_Put_l0 σ (envL [(1,(.p (.int .u64 x1))),(7,x7),(8,(.p (.int .i64 x8)))]) h =
bif decide (x8 ≥ 0) then (
(shiftV .shr .u64 x1 (IntKind.wrap .i64 (x8 * 8))).bind fun t4 =>
(castI .u64 t4).bind fun n5 =>
(bSV Try.prog 31 1 [(0,(.p (.int .u8 (IntKind.wrap .u8 n5))))]).bind fun t6 =>
(apO true 1 1 (7::0::1::0::σ) 31 h x7 t6).bind fun q7 =>
loop octet_Put_c0 octet_Put_l0 (1::σ) (envL [(1,(.p (.int .u64 x1))),(7,q7.1),(8,(.p (.int .i64 (IntKind.wrap .i64 (x8 - 1)))))]) q7.2)
else (
some ((.exit 0),(envL [(7,x7)]),h)):=by kernel_rfl
theorem octet_Put_a0_0 (x7 : V) (h : H) : octet_Put_k0 rec loop σ (.exit 0) (envL [(7,x7)]) h =
(callO rec 58 (1::0::1::1::1::1::0::σ) [x7] h (some 33)).bind fun q8 =>
fin false σ q8.2 [q8.1]:=by kernel_rfl
theorem slices_Clone_Lbyte_byte_entry (x0 : V) (h : H) : cvBody G rec loop 95 σ [x0] h =
(binV Try.prog (List.replicate 8 []::h) .eql 31 x0 (.p (.slice .none 0 0))).bind fun t1 =>
(asB t1).bind fun b2 =>
bif b2 then (
fin false σ (List.replicate 8 []::h) [(.p (.slice .none 0 0))])
else (
(bSV Try.prog 31 0 []).bind fun t3 =>
(apO true 1 1 (2::0::1::1::0::σ) 7 (List.replicate 8 []::h) t3 x0).bind fun q4 =>
fin false σ q4.2 [q4.1]):=by kernel_rfl
end
end Go.Ev
namespace Go.Ev
open Go.Proofs
set_option linter.unusedVariables false
set_option linter.unusedSimpArgs false
set_option maxRecDepth 100000
def p_octet_Put_l0 {β : Type} (k : Nat) (kE0 : (List Int)→Option β) (x1 : Int) (x7 : (List Int)) (x8 : Int) : Option β:=match k with
| 0 => none
| k + 1 =>
bif decide (x8 ≥ 0) then (
(shP .shr .u64 x1 (IntKind.wrap .i64 (x8 * 8))).bind fun n32 =>
(ap 1 x7 ([(IntKind.wrap .u8 n32)])).bind fun a35 =>
p_octet_Put_l0 k kE0 x1 a35 (IntKind.wrap .i64 (x8 - 1)))
else (
kE0 x7)
def p_octet_Put (k : Nat) (x0 : (List Int)) (x1 : Int) (x2 : Int) : Option ((List Int)) :=
(p_clone 1 x0).bind fun r1 =>
(bif decide (x2 < 1) then (some true) else (some (decide (x2 > 8)))).bind fun b15 =>
bif b15 then (
some (r1))
else (
p_octet_Put_l0 k (fun r45_7 =>
some (r45_7)) x1 r1 (IntKind.wrap .i64 (x2 - 1)))
theorem octet_Put_l0_ok {h : H}  {β α : Type} {Q : β→α→Prop} {K : Exit × Env × H→Option α} {kE0 : (List Int)→Option β} (hE0 : ∀ (q7 : (List Int)) (v43 : V) (H41 : Go.Ev.H) (_ : Fm 34 h [] [] [⟨[10,31],v43,(dI .u8),q7⟩] H41),Sim (kE0 q7) (K ((.exit 0),(envL [(7,v43)]),H41)) Q) (k : Nat) : ∀ (x1 : Int) (x7 : (List Int)) (x8 : Int) (v29 : V) (H27 : Go.Ev.H) (_ : Fm 34 h [] [] [⟨[10,31],v29,(dI .u8),x7⟩] H27) {σ : Stamp},Sim (p_octet_Put_l0 k kE0 x1 x7 x8) ((cvL G X0 octet_Put_c0 octet_Put_l0 σ (envL [(1,(.p (.int .u64 x1))),(7,v29),(8,(.p (.int .i64 x8)))]) H27).bind K) Q:=by
  induction k with
  | zero => intros; exact Sim.no
  | succ k ih =>
    intro x1 x7 x8 v29 H27 S28 σ
    rw [p_octet_Put_l0]
    refine Sim.round (Sim.ext (octet_Put_r0 _ _ _ _ _ _ _) ?_)
    refine Sim.cq ?_ ?_
    · refine Sim.bd fun n32 h33 => ?_
      refine Sim.op (shP_ok h33) ?_
      refine Sim.ci ?_
      have h34:=SlF.int1 .u8 (IntKind.wrap .u8 n32)
      refine Sim.op (bldS (pC rfl pN) (by kernel_rfl : _ = some (vOf h34))) ?_
      refine Sim.bd fun a35 h36 => ?_
      obtain ⟨v37,H38,e39,S40⟩:=S28.app (i:=0) (d:=31) (e:=1) (own:=true) (σ:=(7::0::1::0::σ)) rfl (h34.h H27).y h36 rfl (by decide) (by decide) rfl
      refine Sim.op (e39) ?_
      exact ih x1 a35 (IntKind.wrap .i64 (x8 - 1)) v37 H38 (S40.wk2 aN (aC ⟨[31,10,31],by simp,aM 0 rfl⟩ aN))
    exact hE0 x7 v29 H27 (S28.wk2 aN (aC ⟨[10,31],by simp,aM 0 rfl⟩ aN))
theorem octet_Put_ok (k : Nat) {h : H} {σ : Stamp} (x0 : List Int) {u0 : V} (hu0 : SlH h (dI .u8) x0 u0) (x1 : Int) (x2 : Int) : Sim (p_octet_Put k x0 x1 x2) (ev G X0 57 σ [u0,(.p (.int .u64 x1)),(.p (.int .i64 x2))] h) (fun r s => ∃ (c0 : C),∃ (a0 : List V),OwnS c0 (dI .u8).sz r.length a0∧(dI .u8).L r a0∧s = ([c0],h)):=by
  refine Sim.ev rfl (Sim.ext (octet_Put_entry _ _ _ _ _ _ _) ?_)
  rw [p_octet_Put]
  have S0 : Fm 34 h [] [] [] (List.replicate 34 []::h):=Fm.start0
  refine Sim.call (clone_ok (b:=1) (f:=95) (tt:=5) (e:=1) (τ:=fun σ => _::_::_::_::_::σ) (fun x h => slices_Clone_Lbyte_byte_entry _ _ _ x h) (S0.low hu0) rfl (by decide) (by decide) (by decide) (by kernel_rfl) (by kernel_rfl) rfl) fun r1 cs2 H3 h4 q5 => ?_
  obtain ⟨c6,cs7,h8,h9,q5⟩:=q5
  cases q5
  obtain ⟨v10,H11,e12,S13⟩:=S0.land (dt:=(dI .u8)) (d:=10) (e:=0) (n:=0) h8 h9 (by decide) rfl
  erw [e12]
  refine Sim.ch (P:=fun r y => r = y) ?_ (fun b15 y16 h17 h18 => ?_)
  · refine Sim.cq ?_ ?_
    · exact Sim.ret rfl rfl
    · exact Sim.ret rfl rfl
  subst h18
  refine Sim.cq ?_ ?_
  · obtain ⟨c25,cs26,H20,e21,h23,h24,S22⟩:=S13.expOwn (i:=0) (τ:=0::1::σ) rfl rfl rfl
    exact Sim.fin (S22.finE (Ex.st e21 Ex.nil)) ⟨c25,cs26,h23,h24,rfl⟩
  refine Sim.as (octet_Put_l0_ok ?_ k x1 r1 (IntKind.wrap .i64 (x2 - 1)) v10 H11 (S13.wk2 aN (aC ⟨[10],by simp,aM 0 rfl⟩ aN)))
  · intro r45_7 v48 H46 S47
    refine Sim.ext (octet_Put_a0_0 _ _ _ _ _) ?_
    obtain ⟨v50,e51,S52⟩:=clip_D (G:=G) (X:=X0) (i:=0) (f:=58) (fun x h => slices_Clip_Lbyte_byte_entry _ _ _ x h) S47 rfl rfl rfl
    refine Sim.op (e51) ?_
    obtain ⟨c58,cs59,H53,e54,h56,h57,S55⟩:=S52.expOwn (i:=0) (τ:=0::1::σ) rfl rfl rfl
    exact Sim.fin (S55.finE (Ex.st e54 Ex.nil)) ⟨c58,cs59,h56,h57,rfl⟩
end Go.Ev
namespace Go.Ev
open Go.Proofs
set_option linter.unusedVariables false
set_option linter.unusedSimpArgs false
set_option maxRecDepth 100000
noncomputable section
abbrev KT7:=Exit→Env→H→Option (List C × H)
variable (rec : CallF) (loop : LoopV) (σ : Stamp)
theorem rtcp_Right_entry (x0 : V) (h : H) : cvBody G rec loop 28 σ [x0] h =
(boxO false (0::0::0::σ) 1 (List.replicate 20 []::h) x0).bind fun q1 =>
(fA q1.1 0).bind fun t2 =>
(ldO false 1 q1.2 t2).bind fun t3 =>
(castI .i64 t3).bind fun n4 =>
(bif decide (n4 < 1) then (some true) else ((fA q1.1 0).bind fun t5 =>
(ldO false 1 q1.2 t5).bind fun t6 =>
(castI .i64 t6).bind fun n7 =>
some (decide (n7 > 6)))).bind fun b8 =>
bif b8 then (
fin false σ q1.2 [(.p (.int .i64 12))])
else (
(ldO true 10 q1.2 q1.1).bind fun t9 =>
(callO rec 61 (1::0::1::0::1::0::σ) [t9] q1.2 (some 14)).bind fun q10 =>
(asB q10.1).bind fun b11 =>
bif !b11 then (
fin false σ q10.2 [(.p (.int .i64 1))])
else (
(ldO true 10 q10.2 q1.1).bind fun t12 =>
(callO rec 62 (1::0::1::1::0::1::0::σ) [t12] q10.2 (some 18)).bind fun q13 =>
(asB q13.1).bind fun b14 =>
bif !b14 then (
fin false σ q13.2 [(.p (.int .i64 12))])
else (
fin false σ q13.2 [(.p (.int .i64 0))]))):=by kernel_rfl
theorem rtcp_fields_entry (x0 : V) (h : H) : cvBody G rec loop 62 σ [x0] h =
(boxO false (0::0::0::σ) 1 (List.replicate 98 []::h) x0).bind fun q1 =>
(fA q1.1 0).bind fun t2 =>
(ldO false 1 q1.2 t2).bind fun t3 =>
(castI .i64 t3).bind fun n4 =>
(bif n4 == 1 then (some true) else ((fA q1.1 0).bind fun t5 =>
(ldO false 1 q1.2 t5).bind fun t6 =>
(castI .i64 t6).bind fun n7 =>
some (n7 == 2))).bind fun b8 =>
(fA q1.1 0).bind fun t9 =>
(ldO false 1 q1.2 t9).bind fun t10 =>
(castI .i64 t10).bind fun n11 =>
(bif b8 then (some true) else ((fA q1.1 3).bind fun t12 =>
(ldO false 1 q1.2 t12).bind fun t13 =>
(lenO t13).bind fun t14 =>
(castI .i64 t14).bind fun n15 =>
some (n15 == 0))).bind fun b16 =>
(bif b16 then ((fA q1.1 0).bind fun t17 =>
(ldO false 1 q1.2 t17).bind fun t18 =>
(castI .i64 t18).bind fun n19 =>
(bif n19 == 3 then (some true) else ((fA q1.1 2).bind fun t20 =>
(ldO false 1 q1.2 t20).bind fun t21 =>
(castI .u32 t21).bind fun n22 =>
some (n22 == 0))).bind fun b23 =>
some b23) else (some false)).bind fun b24 =>
(bif b24 then ((fA q1.1 0).bind fun t25 =>
(ldO false 1 q1.2 t25).bind fun t26 =>
(castI .i64 t26).bind fun n27 =>
(bif n27 == 4 then (some true) else ((fA q1.1 5).bind fun t28 =>
(ldO false 1 q1.2 t28).bind fun t29 =>
(lenO t29).bind fun t30 =>
(castI .i64 t30).bind fun n31 =>
some (n31 == 0))).bind fun b32 =>
some b32) else (some false)).bind fun b33 =>
(bif b33 then ((fA q1.1 0).bind fun t34 =>
(ldO false 1 q1.2 t34).bind fun t35 =>
(castI .i64 t35).bind fun n36 =>
(bif n36 == 4 then (some true) else ((fA q1.1 0).bind fun t37 =>
(ldO false 1 q1.2 t37).bind fun t38 =>
(castI .i64 t38).bind fun n39 =>
some (n39 == 5))).bind fun b40 =>
(bif b40 then (some true) else ((fA q1.1 4).bind fun t41 =>
(ldO false 1 q1.2 t41).bind fun t42 =>
(lenO t42).bind fun t43 =>
(castI .i64 t43).bind fun n44 =>
some (n44 == 0))).bind fun b45 =>
some b45) else (some false)).bind fun b46 =>
(bif b46 then ((fA q1.1 0).bind fun t47 =>
(ldO false 1 q1.2 t47).bind fun t48 =>
(castI .i64 t48).bind fun n49 =>
(bif n49 == 5 then (some true) else ((fA q1.1 6).bind fun t50 =>
(ldO false 1 q1.2 t50).bind fun t51 =>
(castI .u64 t51).bind fun n52 =>
some (n52 == 0))).bind fun b53 =>
some b53) else (some false)).bind fun b54 =>
(bif b54 then ((bif n11 == 6 then (some true) else ((fA q1.1 7).bind fun t55 =>
(ldO false 1 q1.2 t55).bind fun t56 =>
(castI .i64 t56).bind fun n57 =>
(bif n57 == 0 then ((fA q1.1 8).bind fun t58 =>
(ldO false 1 q1.2 t58).bind fun t59 =>
(castI .i64 t59).bind fun n60 =>
some (n60 == 0)) else (some false)).bind fun b61 =>
(bif b61 then ((fA q1.1 9).bind fun t62 =>
(ldO false 1 q1.2 t62).bind fun t63 =>
(lenO t63).bind fun t64 =>
(castI .i64 t64).bind fun n65 =>
some (n65 == 0)) else (some false)).bind fun b66 =>
some b66)).bind fun b67 =>
some b67) else (some false)).bind fun b68 =>
(bif b68 then ((bif !(n11 == 6) then (some true) else ((fA q1.1 1).bind fun t69 =>
(ldO false 1 q1.2 t69).bind fun t70 =>
(castI .u32 t70).bind fun n71 =>
some (n71 == 0))).bind fun b72 =>
some b72) else (some false)).bind fun b73 =>
fin false σ q1.2 [(.p (.bool b73))]:=by kernel_rfl
end
end Go.Ev
namespace Go.Ev
open Go.Proofs
set_option linter.unusedVariables false
set_option linter.unusedSimpArgs false
set_option maxRecDepth 100000
def p_rtcp_fields (x0 : TaiReport) : Option (Bool) :=
(bif x0.Kind == 1 then (some true) else (some (x0.Kind == 2))).bind fun b13 =>
(bif b13 then (some true) else (some (((x0.Tuples.length : Int)) == 0))).bind fun b17 =>
(bif b17 then ((bif x0.Kind == 3 then (some true) else (some (x0.About == 0))).bind fun b21 =>
some b21) else (some false)).bind fun b25 =>
(bif b25 then ((bif x0.Kind == 4 then (some true) else (some (((x0.Numbers.length : Int)) == 0))).bind fun b29 =>
some b29) else (some false)).bind fun b33 =>
(bif b33 then ((bif x0.Kind == 4 then (some true) else (some (x0.Kind == 5))).bind fun b37 =>
(bif b37 then (some true) else (some (((x0.Abouts.length : Int)) == 0))).bind fun b41 =>
some b41) else (some false)).bind fun b45 =>
(bif b45 then ((bif x0.Kind == 5 then (some true) else (some (x0.Rate == 0))).bind fun b49 =>
some b49) else (some false)).bind fun b53 =>
(bif b53 then ((bif x0.Kind == 6 then (some true) else ((bif x0.f_Type == 0 then (some (x0.Count == 0)) else (some false)).bind fun b57 =>
(bif b57 then (some (((x0.Body.length : Int)) == 0)) else (some false)).bind fun b61 =>
some b61)).bind fun b65 =>
some b65) else (some false)).bind fun b69 =>
(bif b69 then ((bif !(x0.Kind == 6) then (some true) else (some (x0.From == 0))).bind fun b73 =>
some b73) else (some false)).bind fun b77 =>
some (b77)
theorem rtcp_fields_ok {h : H} {σ : Stamp} (x0 : TaiReport) {u0 : List V} (hu0 : dTaiReport.R x0 u0) : Sim (p_rtcp_fields x0) (ev G X0 62 σ [(.agg u0)] h) (fun r s => s = ([.v (.p (.bool r))],h)):=by
  refine Sim.ev rfl (Sim.ext (rtcp_fields_entry _ _ _ _ _) ?_)
  rw [p_rtcp_fields]
  obtain ⟨v1,v3,v5,v7,rfl,h2,h4,h6,h8⟩:=dTaiReport.inv hu0
  have S0 : Fm 98 h [] [] [] (List.replicate 98 []::h):=Fm.start0
  obtain ⟨H9,e10,S11⟩:=S0.box (own:=false) (d:=1) (s:=(0::0::0::σ)) (xs:=[(.p (.int .i64 x0.Kind)),(.p (.int .u32 x0.From)),(.p (.int .u32 x0.About)),v1,v3,v5,(.p (.int .u64 x0.Rate)),(.p (.int .i64 x0.f_Type)),(.p (.int .i64 x0.Count)),v7]) (sC (sI _ _) (sC (sI _ _) (sC (sI _ _) (sC h2.still (sC h4.still (sC h6.still (sC (sI _ _) (sC (sI _ _) (sC (sI _ _) (sC h8.still sN)))))))))) (by decide) rfl
  refine Sim.op (e10) ?_
  refine Sim.fa ?_
  refine Sim.op ((S11.atG (i:=0) rfl).ld (j:=0) rfl) ?_
  refine Sim.ci ?_
  refine Sim.ch (P:=fun r y => r = y) ?_ (fun b13 y14 h15 h16 => ?_)
  · refine Sim.cq ?_ ?_
    · exact Sim.ret rfl rfl
    · refine Sim.fa ?_
      refine Sim.op ((S11.atG (i:=0) rfl).ld (j:=0) rfl) ?_
      refine Sim.ci ?_
      exact Sim.ret rfl rfl
  subst h16
  refine Sim.fa ?_
  refine Sim.op ((S11.atG (i:=0) rfl).ld (j:=0) rfl) ?_
  refine Sim.ci ?_
  refine Sim.ch (P:=fun r y => r = y) ?_ (fun b17 y18 h19 h20 => ?_)
  · refine Sim.cq ?_ ?_
    · exact Sim.ret rfl rfl
    · refine Sim.fa ?_
      refine Sim.op ((S11.atG (i:=0) rfl).ld (j:=3) rfl) ?_
      refine Sim.op ((h2.h H9).len) ?_
      refine Sim.ci ?_
      exact Sim.ret rfl rfl
  subst h20
  refine Sim.ch (P:=fun r y => r = y) ?_ (fun b25 y26 h27 h28 => ?_)
  · refine Sim.cq ?_ ?_
    · refine Sim.fa ?_
      refine Sim.op ((S11.atG (i:=0) rfl).ld (j:=0) rfl) ?_
      refine Sim.ci ?_
      refine Sim.ch (P:=fun r y => r = y) ?_ (fun b21 y22 h23 h24 => ?_)
      · refine Sim.cq ?_ ?_
        · exact Sim.ret rfl rfl
        · refine Sim.fa ?_
          refine Sim.op ((S11.atG (i:=0) rfl).ld (j:=2) rfl) ?_
          refine Sim.ci ?_
          exact Sim.ret rfl rfl
      subst h24
      exact Sim.ret rfl rfl
    · exact Sim.ret rfl rfl
  subst h28
  refine Sim.ch (P:=fun r y => r = y) ?_ (fun b33 y34 h35 h36 => ?_)
  · refine Sim.cq ?_ ?_
    · refine Sim.fa ?_
      refine Sim.op ((S11.atG (i:=0) rfl).ld (j:=0) rfl) ?_
      refine Sim.ci ?_
      refine Sim.ch (P:=fun r y => r = y) ?_ (fun b29 y30 h31 h32 => ?_)
      · refine Sim.cq ?_ ?_
        · exact Sim.ret rfl rfl
        · refine Sim.fa ?_
          refine Sim.op ((S11.atG (i:=0) rfl).ld (j:=5) rfl) ?_
          refine Sim.op ((h6.h H9).len) ?_
          refine Sim.ci ?_
          exact Sim.ret rfl rfl
      subst h32
      exact Sim.ret rfl rfl
    · exact Sim.ret rfl rfl
  subst h36
  refine Sim.ch (P:=fun r y => r = y) ?_ (fun b45 y46 h47 h48 => ?_)
  · refine Sim.cq ?_ ?_
    · refine Sim.fa ?_
      refine Sim.op ((S11.atG (i:=0) rfl).ld (j:=0) rfl) ?_
      refine Sim.ci ?_
      refine Sim.ch (P:=fun r y => r = y) ?_ (fun b37 y38 h39 h40 => ?_)
      · refine Sim.cq ?_ ?_
        · exact Sim.ret rfl rfl
        · refine Sim.fa ?_
          refine Sim.op ((S11.atG (i:=0) rfl).ld (j:=0) rfl) ?_
          refine Sim.ci ?_
          exact Sim.ret rfl rfl
      subst h40
      refine Sim.ch (P:=fun r y => r = y) ?_ (fun b41 y42 h43 h44 => ?_)
      · refine Sim.cq ?_ ?_
        · exact Sim.ret rfl rfl
        · refine Sim.fa ?_
          refine Sim.op ((S11.atG (i:=0) rfl).ld (j:=4) rfl) ?_
          refine Sim.op ((h4.h H9).len) ?_
          refine Sim.ci ?_
          exact Sim.ret rfl rfl
      subst h44
      exact Sim.ret rfl rfl
    · exact Sim.ret rfl rfl
  subst h48
  refine Sim.ch (P:=fun r y => r = y) ?_ (fun b53 y54 h55 h56 => ?_)
  · refine Sim.cq ?_ ?_
    · refine Sim.fa ?_
      refine Sim.op ((S11.atG (i:=0) rfl).ld (j:=0) rfl) ?_
      refine Sim.ci ?_
      refine Sim.ch (P:=fun r y => r = y) ?_ (fun b49 y50 h51 h52 => ?_)
      · refine Sim.cq ?_ ?_
        · exact Sim.ret rfl rfl
        · refine Sim.fa ?_
          refine Sim.op ((S11.atG (i:=0) rfl).ld (j:=6) rfl) ?_
          refine Sim.ci ?_
          exact Sim.ret rfl rfl
      subst h52
      exact Sim.ret rfl rfl
    · exact Sim.ret rfl rfl
  subst h56
  refine Sim.ch (P:=fun r y => r = y) ?_ (fun b69 y70 h71 h72 => ?_)
  · refine Sim.cq ?_ ?_
    · refine Sim.ch (P:=fun r y => r = y) ?_ (fun b65 y66 h67 h68 => ?_)
      · refine Sim.cq ?_ ?_
        · exact Sim.ret rfl rfl
        · refine Sim.fa ?_
          refine Sim.op ((S11.atG (i:=0) rfl).ld (j:=7) rfl) ?_
          refine Sim.ci ?_
          refine Sim.ch (P:=fun r y => r = y) ?_ (fun b57 y58 h59 h60 => ?_)
          · refine Sim.cq ?_ ?_
            · refine Sim.fa ?_
              refine Sim.op ((S11.atG (i:=0) rfl).ld (j:=8) rfl) ?_
              refine Sim.ci ?_
              exact Sim.ret rfl rfl
            · exact Sim.ret rfl rfl
          subst h60
          refine Sim.ch (P:=fun r y => r = y) ?_ (fun b61 y62 h63 h64 => ?_)
          · refine Sim.cq ?_ ?_
            · refine Sim.fa ?_
              refine Sim.op ((S11.atG (i:=0) rfl).ld (j:=9) rfl) ?_
              refine Sim.op ((h8.h H9).len) ?_
              refine Sim.ci ?_
              exact Sim.ret rfl rfl
            · exact Sim.ret rfl rfl
          subst h64
          exact Sim.ret rfl rfl
      subst h68
      exact Sim.ret rfl rfl
    · exact Sim.ret rfl rfl
  subst h72
  refine Sim.ch (P:=fun r y => r = y) ?_ (fun b77 y78 h79 h80 => ?_)
  · refine Sim.cq ?_ ?_
    · refine Sim.ch (P:=fun r y => r = y) ?_ (fun b73 y74 h75 h76 => ?_)
      · refine Sim.cq ?_ ?_
        · exact Sim.ret rfl rfl
        · refine Sim.fa ?_
          refine Sim.op ((S11.atG (i:=0) rfl).ld (j:=1) rfl) ?_
          refine Sim.ci ?_
          exact Sim.ret rfl rfl
      subst h76
      exact Sim.ret rfl rfl
    · exact Sim.ret rfl rfl
  subst h80
  exact Sim.fin (S11.finN (lC (sB _).lv lN)) rfl
end Go.Ev
namespace Go.Ev
open Go.Proofs
set_option linter.unusedVariables false
set_option linter.unusedSimpArgs false
set_option maxRecDepth 100000
noncomputable section
abbrev KT8:=Exit→Env→H→Option (List C × H)
variable (rec : CallF) (loop : LoopV) (σ : Stamp)
theorem rtcp_values_entry (x0 : V) (h : H) : cvBody G rec loop 61 σ [x0] h =
(boxO false (0::0::0::σ) 1 (List.replicate 100 []::h) x0).bind fun q1 =>
(fA q1.1 0).bind fun t2 =>
(ldO false 1 q1.2 t2).bind fun t3 =>
(castI .i64 t3).bind fun n4 =>
bif n4 == 1 then (
bif n4 == 1 then (
(fA q1.1 3).bind fun t5 =>
(ldO false 1 q1.2 t5).bind fun t6 =>
(lenO t6).bind fun t7 =>
(castI .i64 t7).bind fun n8 =>
(bif decide (n8 ≤ 6) then ((fA q1.1 3).bind fun t9 =>
(ldO false 1 q1.2 t9).bind fun t10 =>
(callO rec 98 (7::0::1::1::0::1::0::σ) [t10,(.clo 99 [])] q1.2 (some 15)).bind fun q11 =>
(asB q11.1).bind fun b12 =>
some ((.p (.bool (!b12))),q11.2)) else (some ((.p (.bool false)),q1.2))).bind fun q13 =>
(asB q13.1).bind fun b14 =>
fin false σ q13.2 [(.p (.bool b14))])
else (
bif n4 == 4 then (
(fA q1.1 5).bind fun t15 =>
(ldO false 1 q1.2 t15).bind fun t16 =>
(lenO t16).bind fun t17 =>
(castI .i64 t17).bind fun n18 =>
(fA q1.1 4).bind fun t19 =>
(ldO false 1 q1.2 t19).bind fun t20 =>
(lenO t20).bind fun t21 =>
(castI .i64 t21).bind fun n22 =>
(bif n18 == n22 then ((fA q1.1 4).bind fun t23 =>
(ldO false 1 q1.2 t23).bind fun t24 =>
(lenO t24).bind fun t25 =>
(castI .i64 t25).bind fun n26 =>
some (decide (n26 ≥ 1))) else (some false)).bind fun b27 =>
(bif b27 then ((fA q1.1 4).bind fun t28 =>
(ldO false 1 q1.2 t28).bind fun t29 =>
(lenO t29).bind fun t30 =>
(castI .i64 t30).bind fun n31 =>
some (decide (n31 ≤ 16))) else (some false)).bind fun b32 =>
(bif b32 then ((fA q1.1 5).bind fun t33 =>
(ldO false 1 q1.2 t33).bind fun t34 =>
(callO rec 101 (22::0::1::1::1::0::1::0::σ) [t34,(.clo 102 [])] q1.2 (some 42)).bind fun q35 =>
(asB q35.1).bind fun b36 =>
some ((.p (.bool (!b36))),q35.2)) else (some ((.p (.bool false)),q1.2))).bind fun q37 =>
(asB q37.1).bind fun b38 =>
fin false σ q37.2 [(.p (.bool b38))])
else (
bif n4 == 5 then (
(fA q1.1 4).bind fun t39 =>
(ldO false 1 q1.2 t39).bind fun t40 =>
(lenO t40).bind fun t41 =>
(castI .i64 t41).bind fun n42 =>
(bif decide (n42 ≤ 16) then ((fA q1.1 6).bind fun t43 =>
(ldO false 1 q1.2 t43).bind fun t44 =>
(castI .u64 t44).bind fun n45 =>
(fA q1.1 6).bind fun t46 =>
(ldO false 1 q1.2 t46).bind fun t47 =>
(castI .u64 t47).bind fun n48 =>
(callO rec 100 (7::0::1::1::1::1::0::1::0::σ) [(.p (.int .u64 n45)),(.p (.int .i64 18))] q1.2 (some 54)).bind fun q49 =>
(castI .u64 q49.1).bind fun n50 =>
need (ldO false 1 q49.2 t46 = some (.p (.int .u64 n48))) (
some ((.p (.bool (n50 == n48))),q49.2))) else (some ((.p (.bool false)),q1.2))).bind fun q51 =>
(asB q51.1).bind fun b52 =>
fin false σ q51.2 [(.p (.bool b52))])
else (
bif n4 == 6 then (
(fA q1.1 7).bind fun t53 =>
(ldO false 1 q1.2 t53).bind fun t54 =>
(castI .i64 t54).bind fun n55 =>
(bif decide (n55 ≥ 192) then ((fA q1.1 7).bind fun t56 =>
(ldO false 1 q1.2 t56).bind fun t57 =>
(castI .i64 t57).bind fun n58 =>
some (decide (n58 ≤ 223))) else (some false)).bind fun b59 =>
(bif b59 then ((fA q1.1 8).bind fun t60 =>
(ldO false 1 q1.2 t60).bind fun t61 =>
(castI .i64 t61).bind fun n62 =>
some (decide (n62 ≥ 0))) else (some false)).bind fun b63 =>
(bif b63 then ((fA q1.1 8).bind fun t64 =>
(ldO false 1 q1.2 t64).bind fun t65 =>
(castI .i64 t65).bind fun n66 =>
some (decide (n66 ≤ 31))) else (some false)).bind fun b67 =>
(bif b67 then ((fA q1.1 9).bind fun t68 =>
(ldO false 1 q1.2 t68).bind fun t69 =>
(lenO t69).bind fun t70 =>
(castI .i64 t70).bind fun n71 =>
some ((Int.tmod n71 4) == 0)) else (some false)).bind fun b72 =>
(bif b72 then ((fA q1.1 9).bind fun t73 =>
(ldO false 1 q1.2 t73).bind fun t74 =>
(lenO t74).bind fun t75 =>
(castI .i64 t75).bind fun n76 =>
some (decide (n76 ≤ 262140))) else (some false)).bind fun b77 =>
(bif b77 then ((fA q1.1 7).bind fun t78 =>
(ldO false 1 q1.2 t78).bind fun t79 =>
(castI .i64 t79).bind fun n80 =>
(fA q1.1 8).bind fun t81 =>
(ldO false 1 q1.2 t81).bind fun t82 =>
(castI .i64 t82).bind fun n83 =>
(callO rec 103 (36::0::1::1::1::1::1::0::1::0::σ) [(.p (.int .i64 n80)),(.p (.int .i64 n83))] q1.2 (some 97)).bind fun q84 =>
(castI .i64 q84.1).bind fun n85 =>
some ((.p (.bool (n85 == 6))),q84.2)) else (some ((.p (.bool false)),q1.2))).bind fun q86 =>
(asB q86.1).bind fun b87 =>
fin false σ q86.2 [(.p (.bool b87))])
else (
fin false σ q1.2 [(.p (.bool true))])))))
else (
bif n4 == 2 then (
(fA q1.1 3).bind fun t88 =>
(ldO false 1 q1.2 t88).bind fun t89 =>
(lenO t89).bind fun t90 =>
(castI .i64 t90).bind fun n91 =>
(bif decide (n91 ≤ 6) then ((fA q1.1 3).bind fun t92 =>
(ldO false 1 q1.2 t92).bind fun t93 =>
(callO rec 98 (7::0::1::1::0::1::0::σ) [t93,(.clo 99 [])] q1.2 (some 15)).bind fun q94 =>
(asB q94.1).bind fun b95 =>
some ((.p (.bool (!b95))),q94.2)) else (some ((.p (.bool false)),q1.2))).bind fun q96 =>
(asB q96.1).bind fun b97 =>
fin false σ q96.2 [(.p (.bool b97))])
else (
bif n4 == 4 then (
(fA q1.1 5).bind fun t98 =>
(ldO false 1 q1.2 t98).bind fun t99 =>
(lenO t99).bind fun t100 =>
(castI .i64 t100).bind fun n101 =>
(fA q1.1 4).bind fun t102 =>
(ldO false 1 q1.2 t102).bind fun t103 =>
(lenO t103).bind fun t104 =>
(castI .i64 t104).bind fun n105 =>
(bif n101 == n105 then ((fA q1.1 4).bind fun t106 =>
(ldO false 1 q1.2 t106).bind fun t107 =>
(lenO t107).bind fun t108 =>
(castI .i64 t108).bind fun n109 =>
some (decide (n109 ≥ 1))) else (some false)).bind fun b110 =>
(bif b110 then ((fA q1.1 4).bind fun t111 =>
(ldO false 1 q1.2 t111).bind fun t112 =>
(lenO t112).bind fun t113 =>
(castI .i64 t113).bind fun n114 =>
some (decide (n114 ≤ 16))) else (some false)).bind fun b115 =>
(bif b115 then ((fA q1.1 5).bind fun t116 =>
(ldO false 1 q1.2 t116).bind fun t117 =>
(callO rec 101 (22::0::1::1::1::0::1::0::σ) [t117,(.clo 102 [])] q1.2 (some 42)).bind fun q118 =>
(asB q118.1).bind fun b119 =>
some ((.p (.bool (!b119))),q118.2)) else (some ((.p (.bool false)),q1.2))).bind fun q120 =>
(asB q120.1).bind fun b121 =>
fin false σ q120.2 [(.p (.bool b121))])
else (
bif n4 == 5 then (
(fA q1.1 4).bind fun t122 =>
(ldO false 1 q1.2 t122).bind fun t123 =>
(lenO t123).bind fun t124 =>
(castI .i64 t124).bind fun n125 =>
(bif decide (n125 ≤ 16) then ((fA q1.1 6).bind fun t126 =>
(ldO false 1 q1.2 t126).bind fun t127 =>
(castI .u64 t127).bind fun n128 =>
(fA q1.1 6).bind fun t129 =>
(ldO false 1 q1.2 t129).bind fun t130 =>
(castI .u64 t130).bind fun n131 =>
(callO rec 100 (7::0::1::1::1::1::0::1::0::σ) [(.p (.int .u64 n128)),(.p (.int .i64 18))] q1.2 (some 54)).bind fun q132 =>
(castI .u64 q132.1).bind fun n133 =>
need (ldO false 1 q132.2 t129 = some (.p (.int .u64 n131))) (
some ((.p (.bool (n133 == n131))),q132.2))) else (some ((.p (.bool false)),q1.2))).bind fun q134 =>
(asB q134.1).bind fun b135 =>
fin false σ q134.2 [(.p (.bool b135))])
else (
bif n4 == 6 then (
(fA q1.1 7).bind fun t136 =>
(ldO false 1 q1.2 t136).bind fun t137 =>
(castI .i64 t137).bind fun n138 =>
(bif decide (n138 ≥ 192) then ((fA q1.1 7).bind fun t139 =>
(ldO false 1 q1.2 t139).bind fun t140 =>
(castI .i64 t140).bind fun n141 =>
some (decide (n141 ≤ 223))) else (some false)).bind fun b142 =>
(bif b142 then ((fA q1.1 8).bind fun t143 =>
(ldO false 1 q1.2 t143).bind fun t144 =>
(castI .i64 t144).bind fun n145 =>
some (decide (n145 ≥ 0))) else (some false)).bind fun b146 =>
(bif b146 then ((fA q1.1 8).bind fun t147 =>
(ldO false 1 q1.2 t147).bind fun t148 =>
(castI .i64 t148).bind fun n149 =>
some (decide (n149 ≤ 31))) else (some false)).bind fun b150 =>
(bif b150 then ((fA q1.1 9).bind fun t151 =>
(ldO false 1 q1.2 t151).bind fun t152 =>
(lenO t152).bind fun t153 =>
(castI .i64 t153).bind fun n154 =>
some ((Int.tmod n154 4) == 0)) else (some false)).bind fun b155 =>
(bif b155 then ((fA q1.1 9).bind fun t156 =>
(ldO false 1 q1.2 t156).bind fun t157 =>
(lenO t157).bind fun t158 =>
(castI .i64 t158).bind fun n159 =>
some (decide (n159 ≤ 262140))) else (some false)).bind fun b160 =>
(bif b160 then ((fA q1.1 7).bind fun t161 =>
(ldO false 1 q1.2 t161).bind fun t162 =>
(castI .i64 t162).bind fun n163 =>
(fA q1.1 8).bind fun t164 =>
(ldO false 1 q1.2 t164).bind fun t165 =>
(castI .i64 t165).bind fun n166 =>
(callO rec 103 (36::0::1::1::1::1::1::0::1::0::σ) [(.p (.int .i64 n163)),(.p (.int .i64 n166))] q1.2 (some 97)).bind fun q167 =>
(castI .i64 q167.1).bind fun n168 =>
some ((.p (.bool (n168 == 6))),q167.2)) else (some ((.p (.bool false)),q1.2))).bind fun q169 =>
(asB q169.1).bind fun b170 =>
fin false σ q169.2 [(.p (.bool b170))])
else (
fin false σ q1.2 [(.p (.bool true))]))))):=by kernel_rfl
theorem rate_Down_entry (x0 : Int) (x1 : Int) (h : H) : cvBody G rec loop 100 σ [(.p (.int .u64 x0)),(.p (.int .i64 x1))] h =
(callO rec 128 (2::0::1::0::σ) [(.p (.int .u64 x0)),(.p (.int .i64 x1))] (List.replicate 17 []::h) (some 10)).bind fun q1 =>
(extV q1.1 0).bind fun t2 =>
(castI .i64 t2).bind fun n3 =>
(extV q1.1 1).bind fun t4 =>
(castI .u32 t4).bind fun n5 =>
(callO rec 135 (3::0::1::1::0::σ) [(.p (.int .i64 n3)),(.p (.int .u32 n5)),(.p (.int .i64 x1))] q1.2 (some 16)).bind fun q6 =>
(castI .u64 q6.1).bind fun n7 =>
fin false σ q6.2 [(.p (.int .u64 n7))]:=by kernel_rfl
theorem rate_Open_entry (x0 : Int) (x1 : Int) (x2 : Int) (h : H) : cvBody G rec loop 135 σ [(.p (.int .i64 x0)),(.p (.int .u32 x1)),(.p (.int .i64 x2))] h =
(callO rec 150 (1::0::0::1::0::σ) [(.p (.int .i64 x2))] (List.replicate 36 []::h) (some 9)).bind fun q1 =>
(asB q1.1).bind fun b2 =>
(bif !b2 then (some true) else (some (decide (x0 < 0)))).bind fun b3 =>
(bif b3 then (some true) else (some (decide (x0 > 63)))).bind fun b4 =>
(bif b4 then (some true) else ((shiftV .shr .u32 x1 x2).bind fun t5 =>
(castI .u32 t5).bind fun n6 =>
some (decide (n6 > 0)))).bind fun b7 =>
bif b7 then (
fin false σ q1.2 [(.p (.int .u64 0))])
else (
(shiftV .shl .u64 (IntKind.wrap .u64 x1) x0).bind fun t8 =>
(castI .u64 t8).bind fun n9 =>
(shiftV .shr .u64 n9 x0).bind fun t10 =>
(castI .u64 t10).bind fun n11 =>
bif n11 != (IntKind.wrap .u64 x1) then (
fin false σ q1.2 [(.p (.int .u64 18446744073709551615))])
else (
fin false σ q1.2 [(.p (.int .u64 n9))])):=by kernel_rfl
theorem rate_may_entry (x0 : Int) (h : H) : cvBody G rec loop 150 σ [(.p (.int .i64 x0))] h =
(bif decide (x0 ≥ 1) then (some (decide (x0 ≤ 24))) else (some false)).bind fun b1 =>
fin false σ (List.replicate 9 []::h) [(.p (.bool b1))]:=by kernel_rfl
end
end Go.Ev
namespace Go.Ev
open Go.Proofs
set_option linter.unusedVariables false
set_option linter.unusedSimpArgs false
set_option maxRecDepth 100000
def p_rate_may (x0 : Int) : Option (Bool) :=
(bif decide (x0 ≥ 1) then (some (decide (x0 ≤ 24))) else (some false)).bind fun b1 =>
some (b1)
theorem rate_may_ok {h : H} {σ : Stamp} (x0 : Int) : Sim (p_rate_may x0) (ev G X0 150 σ [(.p (.int .i64 x0))] h) (fun r s => s = ([.v (.p (.bool r))],h)):=by
  refine Sim.ev rfl (Sim.ext (rate_may_entry _ _ _ _ _) ?_)
  rw [p_rate_may]
  have S0 : Fm 9 h [] [] [] (List.replicate 9 []::h):=Fm.start0
  refine Sim.ch (P:=fun r y => r = y) ?_ (fun b1 y2 h3 h4 => ?_)
  · refine Sim.cq ?_ ?_
    · exact Sim.ret rfl rfl
    · exact Sim.ret rfl rfl
  subst h4
  exact Sim.fin (S0.finN (lC (sB _).lv lN)) rfl
def p_rate_Open (x0 : Int) (x1 : Int) (x2 : Int) : Option (Int) :=
(p_rate_may x2).bind fun r1 =>
(bif !r1 then (some true) else (some (decide (x0 < 0)))).bind fun b6 =>
(bif b6 then (some true) else (some (decide (x0 > 63)))).bind fun b10 =>
(bif b10 then (some true) else ((shP .shr .u32 x1 x2).bind fun n14 =>
some (decide (n14 > 0)))).bind fun b16 =>
bif b16 then (
some (0))
else (
(shP .shl .u64 (IntKind.wrap .u64 x1) x0).bind fun n21 =>
(shP .shr .u64 n21 x0).bind fun n23 =>
bif n23 != (IntKind.wrap .u64 x1) then (
some (18446744073709551615))
else (
some (n21)))
theorem rate_Open_ok {h : H} {σ : Stamp} (x0 : Int) (x1 : Int) (x2 : Int) : Sim (p_rate_Open x0 x1 x2) (ev G X0 135 σ [(.p (.int .i64 x0)),(.p (.int .u32 x1)),(.p (.int .i64 x2))] h) (fun r s => s = ([.v (.p (.int .u64 r))],h)):=by
  refine Sim.ev rfl (Sim.ext (rate_Open_entry _ _ _ _ _ _ _) ?_)
  rw [p_rate_Open]
  have S0 : Fm 36 h [] [] [] (List.replicate 36 []::h):=Fm.start0
  refine Sim.call (rate_may_ok x2) fun r1 cs2 H3 h4 q5 => ?_
  cases q5
  refine Sim.ab ?_
  refine Sim.ch (P:=fun r y => r = y) ?_ (fun b6 y7 h8 h9 => ?_)
  · refine Sim.cq ?_ ?_
    · exact Sim.ret rfl rfl
    · exact Sim.ret rfl rfl
  subst h9
  refine Sim.ch (P:=fun r y => r = y) ?_ (fun b10 y11 h12 h13 => ?_)
  · refine Sim.cq ?_ ?_
    · exact Sim.ret rfl rfl
    · exact Sim.ret rfl rfl
  subst h13
  refine Sim.ch (P:=fun r y => r = y) ?_ (fun b16 y17 h18 h19 => ?_)
  · refine Sim.cq ?_ ?_
    · exact Sim.ret rfl rfl
    · refine Sim.bd fun n14 h15 => ?_
      refine Sim.op (shP_ok h15) ?_
      refine Sim.ci ?_
      exact Sim.ret rfl rfl
  subst h19
  refine Sim.cq ?_ ?_
  · exact Sim.fin (S0.finN (lC (sI _ _).lv lN)) rfl
  refine Sim.bd fun n21 h22 => ?_
  refine Sim.op (shP_ok h22) ?_
  refine Sim.ci ?_
  refine Sim.bd fun n23 h24 => ?_
  refine Sim.op (shP_ok h24) ?_
  refine Sim.ci ?_
  refine Sim.cq ?_ ?_
  · exact Sim.fin (S0.finN (lC (sI _ _).lv lN)) rfl
  exact Sim.fin (S0.finN (lC (sI _ _).lv lN)) rfl
end Go.Ev
namespace Go.Ev
open Go.Proofs
set_option linter.unusedVariables false
set_option linter.unusedSimpArgs false
set_option maxRecDepth 100000
noncomputable section
abbrev KT9:=Exit→Env→H→Option (List C × H)
variable (rec : CallF) (loop : LoopV) (σ : Stamp)
def rate_Pack_c0 : Code:=(codeAt (bodyOf Try.f128) [1,1,1,0,0,0])
def rate_Pack_l0 : Lv:=⟨65,48,[(0,65)]⟩
def rate_Pack_k0 : KT9:=(kBlock 0 (kSeq G rec loop (codeAt (bodyOf Try.f128) [1,1,1,1]) ⟨48,48,[]⟩ (1::1::1::0::σ) (finC G false Try.f128 (1::σ))))
theorem rate_Pack_entry (x0 : Int) (x1 : Int) (h : H) : cvBody G rec loop 128 σ [(.p (.int .u64 x0)),(.p (.int .i64 x1))] h =
(callO rec 150 (1::0::0::1::0::σ) [(.p (.int .i64 x1))] (List.replicate 21 []::h) (some 8)).bind fun q1 =>
(asB q1.1).bind fun b2 =>
bif !b2 then (
fin false σ q1.2 [(.p (.int .i64 0)),(.p (.int .u32 0))])
else (
(loop rate_Pack_c0 rate_Pack_l0 (0::1::1::1::0::σ) (envL [(0,(.p (.int .u64 x0))),(1,(.p (.int .i64 x1))),(6,(.p (.int .i64 0)))]) q1.2).bind fun r3 => rate_Pack_k0 rec loop σ r3.1 r3.2.1 r3.2.2):=by kernel_rfl
theorem rate_Pack_r0 (x0 : Int) (x1 : Int) (x6 : Int) (h : H) : cvRound G rec loop rate_Pack_c0 rate_Pack_l0 σ (envL [(0,(.p (.int .u64 x0))),(1,(.p (.int .i64 x1))),(6,(.p (.int .i64 x6)))]) h =
(shiftV .shr .u64 x0 x1).bind fun t4 =>
(castI .u64 t4).bind fun n5 =>
bif decide (n5 > 0) then (
loop rate_Pack_c0 rate_Pack_l0 (1::σ) (envL [(0,(.p (.int .u64 (Int.fdiv x0 (2 ^ 1))))),(1,(.p (.int .i64 x1))),(6,(.p (.int .i64 (IntKind.wrap .i64 (x6 + 1)))))]) h)
else (
some ((.exit 0),(envL [(0,(.p (.int .u64 x0))),(6,(.p (.int .i64 x6)))]),h)):=by kernel_rfl
theorem rate_Pack_a0_0 (x0 : Int) (x6 : Int) (h : H) : rate_Pack_k0 rec loop σ (.exit 0) (envL [(0,(.p (.int .u64 x0))),(6,(.p (.int .i64 x6)))]) h =
fin false σ h [(.p (.int .i64 x6)),(.p (.int .u32 (IntKind.wrap .u32 x0)))]:=by kernel_rfl
end
end Go.Ev
namespace Go.Ev
open Go.Proofs
set_option linter.unusedVariables false
set_option linter.unusedSimpArgs false
set_option maxRecDepth 100000
def p_rate_Pack_l0 {β : Type} (k : Nat) (kE0 : Int→Int→Option β) (x0 : Int) (x1 : Int) (x6 : Int) : Option β:=match k with
| 0 => none
| k + 1 =>
(shP .shr .u64 x0 x1).bind fun n9 =>
bif decide (n9 > 0) then (
p_rate_Pack_l0 k kE0 (Int.fdiv x0 (2 ^ 1)) x1 (IntKind.wrap .i64 (x6 + 1)))
else (
kE0 x0 x6)
def p_rate_Pack (k : Nat) (x0 : Int) (x1 : Int) : Option (Int × Int) :=
(p_rate_may x1).bind fun r1 =>
bif !r1 then (
some (0,0))
else (
p_rate_Pack_l0 k (fun r14_0 r14_6 =>
some (r14_6,(IntKind.wrap .u32 r14_0))) x0 x1 0)
theorem rate_Pack_l0_ok {h : H}  {β α : Type} {Q : β→α→Prop} {K : Exit × Env × H→Option α} {kE0 : Int→Int→Option β} (hE0 : ∀ (q0 : Int) (q6 : Int) (H12 : Go.Ev.H) (_ : Fm 21 h [] [] [] H12),Sim (kE0 q0 q6) (K ((.exit 0),(envL [(0,(.p (.int .u64 q0))),(6,(.p (.int .i64 q6)))]),H12)) Q) (k : Nat) : ∀ (x0 : Int) (x1 : Int) (x6 : Int) (H7 : Go.Ev.H) (_ : Fm 21 h [] [] [] H7) {σ : Stamp},Sim (p_rate_Pack_l0 k kE0 x0 x1 x6) ((cvL G X0 rate_Pack_c0 rate_Pack_l0 σ (envL [(0,(.p (.int .u64 x0))),(1,(.p (.int .i64 x1))),(6,(.p (.int .i64 x6)))]) H7).bind K) Q:=by
  induction k with
  | zero => intros; exact Sim.no
  | succ k ih =>
    intro x0 x1 x6 H7 S8 σ
    rw [p_rate_Pack_l0]
    refine Sim.round (Sim.ext (rate_Pack_r0 _ _ _ _ _ _ _) ?_)
    refine Sim.bd fun n9 h10 => ?_
    refine Sim.op (shP_ok h10) ?_
    refine Sim.ci ?_
    refine Sim.cq ?_ ?_
    · exact ih (Int.fdiv x0 (2 ^ 1)) x1 (IntKind.wrap .i64 (x6 + 1)) H7 (S8.wk2 aN aN)
    exact hE0 x0 x6 H7 (S8.wk2 aN aN)
theorem rate_Pack_ok (k : Nat) {h : H} {σ : Stamp} (x0 : Int) (x1 : Int) : Sim (p_rate_Pack k x0 x1) (ev G X0 128 σ [(.p (.int .u64 x0)),(.p (.int .i64 x1))] h) (fun r s => s = ([.v (.p (.int .i64 r.1)),.v (.p (.int .u32 r.2))],h)):=by
  refine Sim.ev rfl (Sim.ext (rate_Pack_entry _ _ _ _ _ _) ?_)
  rw [p_rate_Pack]
  have S0 : Fm 21 h [] [] [] (List.replicate 21 []::h):=Fm.start0
  refine Sim.call (rate_may_ok x1) fun r1 cs2 H3 h4 q5 => ?_
  cases q5
  refine Sim.ab ?_
  refine Sim.cq ?_ ?_
  · exact Sim.fin (S0.finN (lC (sI _ _).lv (lC (sI _ _).lv lN))) rfl
  refine Sim.as (rate_Pack_l0_ok ?_ k x0 x1 0 (List.replicate 21 []::h) (S0.wk2 aN aN))
  · intro r14_0 r14_6 H15 S16
    refine Sim.ext (rate_Pack_a0_0 _ _ _ _ _ _) ?_
    exact Sim.fin (S16.finN (lC (sI _ _).lv (lC (sI _ _).lv lN))) rfl
def p_rate_Down (k : Nat) (x0 : Int) (x1 : Int) : Option (Int) :=
(p_rate_Pack k x0 x1).bind fun r1 =>
(p_rate_Open r1.1 r1.2 x1).bind fun r6 =>
some (r6)
theorem rate_Down_ok (k : Nat) {h : H} {σ : Stamp} (x0 : Int) (x1 : Int) : Sim (p_rate_Down k x0 x1) (ev G X0 100 σ [(.p (.int .u64 x0)),(.p (.int .i64 x1))] h) (fun r s => s = ([.v (.p (.int .u64 r))],h)):=by
  refine Sim.ev rfl (Sim.ext (rate_Down_entry _ _ _ _ _ _) ?_)
  rw [p_rate_Down]
  have S0 : Fm 17 h [] [] [] (List.replicate 17 []::h):=Fm.start0
  refine Sim.call (rate_Pack_ok k x0 x1) fun r1 cs2 H3 h4 q5 => ?_
  cases q5
  refine Sim.or ?_
  refine Sim.ci ?_
  refine Sim.or ?_
  refine Sim.ci ?_
  refine Sim.call (rate_Open_ok r1.1 r1.2 x1) fun r6 cs7 H8 h9 q10 => ?_
  cases q10
  refine Sim.ci ?_
  exact Sim.fin (S0.finN (lC (sI _ _).lv lN)) rfl
end Go.Ev
namespace Go.Ev
open Go.Proofs
set_option linter.unusedVariables false
set_option linter.unusedSimpArgs false
set_option maxRecDepth 100000
noncomputable section
abbrev KT10:=Exit→Env→H→Option (List C × H)
variable (rec : CallF) (loop : LoopV) (σ : Stamp)
theorem rtcp_kind_entry (x0 : Int) (x1 : Int) (h : H) : cvBody G rec loop 103 σ [(.p (.int .i64 x0)),(.p (.int .i64 x1))] h =
(bif x0 == 205 then (some (x1 == 3)) else (some false)).bind fun b1 =>
bif b1 then (
fin false σ (List.replicate 40 []::h) [(.p (.int .i64 1))])
else (
(bif x0 == 205 then (some (x1 == 4)) else (some false)).bind fun b2 =>
bif b2 then (
fin false σ (List.replicate 40 []::h) [(.p (.int .i64 2))])
else (
(bif x0 == 206 then (some (x1 == 1)) else (some false)).bind fun b3 =>
bif b3 then (
fin false σ (List.replicate 40 []::h) [(.p (.int .i64 3))])
else (
(bif x0 == 206 then (some (x1 == 4)) else (some false)).bind fun b4 =>
bif b4 then (
fin false σ (List.replicate 40 []::h) [(.p (.int .i64 4))])
else (
(bif x0 == 206 then (some (x1 == 15)) else (some false)).bind fun b5 =>
bif b5 then (
fin false σ (List.replicate 40 []::h) [(.p (.int .i64 5))])
else (
fin false σ (List.replicate 40 []::h) [(.p (.int .i64 6))]))))):=by kernel_rfl
end
end Go.Ev
namespace Go.Ev
open Go.Proofs
set_option linter.unusedVariables false
set_option linter.unusedSimpArgs false
set_option maxRecDepth 100000
def p_rtcp_kind (x0 : Int) (x1 : Int) : Option (Int) :=
(bif x0 == 205 then (some (x1 == 3)) else (some false)).bind fun b1 =>
bif b1 then (
some (1))
else (
(bif x0 == 205 then (some (x1 == 4)) else (some false)).bind fun b6 =>
bif b6 then (
some (2))
else (
(bif x0 == 206 then (some (x1 == 1)) else (some false)).bind fun b11 =>
bif b11 then (
some (3))
else (
(bif x0 == 206 then (some (x1 == 4)) else (some false)).bind fun b16 =>
bif b16 then (
some (4))
else (
(bif x0 == 206 then (some (x1 == 15)) else (some false)).bind fun b21 =>
bif b21 then (
some (5))
else (
some (6))))))
theorem rtcp_kind_ok {h : H} {σ : Stamp} (x0 : Int) (x1 : Int) : Sim (p_rtcp_kind x0 x1) (ev G X0 103 σ [(.p (.int .i64 x0)),(.p (.int .i64 x1))] h) (fun r s => s = ([.v (.p (.int .i64 r))],h)):=by
  refine Sim.ev rfl (Sim.ext (rtcp_kind_entry _ _ _ _ _ _) ?_)
  rw [p_rtcp_kind]
  have S0 : Fm 40 h [] [] [] (List.replicate 40 []::h):=Fm.start0
  refine Sim.ch (P:=fun r y => r = y) ?_ (fun b1 y2 h3 h4 => ?_)
  · refine Sim.cq ?_ ?_
    · exact Sim.ret rfl rfl
    · exact Sim.ret rfl rfl
  subst h4
  refine Sim.cq ?_ ?_
  · exact Sim.fin (S0.finN (lC (sI _ _).lv lN)) rfl
  refine Sim.ch (P:=fun r y => r = y) ?_ (fun b6 y7 h8 h9 => ?_)
  · refine Sim.cq ?_ ?_
    · exact Sim.ret rfl rfl
    · exact Sim.ret rfl rfl
  subst h9
  refine Sim.cq ?_ ?_
  · exact Sim.fin (S0.finN (lC (sI _ _).lv lN)) rfl
  refine Sim.ch (P:=fun r y => r = y) ?_ (fun b11 y12 h13 h14 => ?_)
  · refine Sim.cq ?_ ?_
    · exact Sim.ret rfl rfl
    · exact Sim.ret rfl rfl
  subst h14
  refine Sim.cq ?_ ?_
  · exact Sim.fin (S0.finN (lC (sI _ _).lv lN)) rfl
  refine Sim.ch (P:=fun r y => r = y) ?_ (fun b16 y17 h18 h19 => ?_)
  · refine Sim.cq ?_ ?_
    · exact Sim.ret rfl rfl
    · exact Sim.ret rfl rfl
  subst h19
  refine Sim.cq ?_ ?_
  · exact Sim.fin (S0.finN (lC (sI _ _).lv lN)) rfl
  refine Sim.ch (P:=fun r y => r = y) ?_ (fun b21 y22 h23 h24 => ?_)
  · refine Sim.cq ?_ ?_
    · exact Sim.ret rfl rfl
    · exact Sim.ret rfl rfl
  subst h24
  refine Sim.cq ?_ ?_
  · exact Sim.fin (S0.finN (lC (sI _ _).lv lN)) rfl
  exact Sim.fin (S0.finN (lC (sI _ _).lv lN)) rfl
end Go.Ev
namespace Go.Ev
open Go.Proofs
set_option linter.unusedVariables false
set_option linter.unusedSimpArgs false
set_option maxRecDepth 100000
noncomputable section
abbrev KT11:=Exit→Env→H→Option (List C × H)
variable (rec : CallF) (loop : LoopV) (σ : Stamp)
theorem slices_ContainsFunc_Lapi_Tuple_api_Tuple_entry (x0 : V) (x1 : V) (h : H) : cvBody G rec loop 98 σ [x0,x1] h =
(callO rec 120 (2::0::1::0::σ) [x0,x1] (List.replicate 9 []::h) (some 7)).bind fun q1 =>
(castI .i64 q1.1).bind fun n2 =>
fin false σ q1.2 [(.p (.bool (decide (n2 ≥ 0))))]:=by kernel_rfl
def slices_IndexFunc_Lapi_Tuple_api_Tuple_c0 : Code:=(codeAt (bodyOf Try.f120) [1,0,1,0,0])
def slices_IndexFunc_Lapi_Tuple_api_Tuple_l0 : Lv:=⟨0,16,[(0,0)]⟩
def slices_IndexFunc_Lapi_Tuple_api_Tuple_k0 : KT11:=(kBlock 0 (kSeq G rec loop (codeAt (bodyOf Try.f120) [1,1]) ⟨16,16,[]⟩ (1::0::σ) (finC G false Try.f120 (1::σ))))
theorem slices_IndexFunc_Lapi_Tuple_api_Tuple_entry (x0 : V) (x1 : V) (h : H) : cvBody G rec loop 120 σ [x0,x1] h =
(lenO x0).bind fun t1 =>
(castI .i64 t1).bind fun n2 =>
(loop slices_IndexFunc_Lapi_Tuple_api_Tuple_c0 slices_IndexFunc_Lapi_Tuple_api_Tuple_l0 (1::0::1::0::σ) (envL [(0,x0),(1,x1),(7,(.p (.int .i64 n2))),(8,(.p (.int .i64 0)))]) (List.replicate 19 []::h)).bind fun r3 => slices_IndexFunc_Lapi_Tuple_api_Tuple_k0 rec loop σ r3.1 r3.2.1 r3.2.2:=by kernel_rfl
theorem slices_IndexFunc_Lapi_Tuple_api_Tuple_r0 (x0 : V) (x1 : V) (x7 : Int) (x8 : Int) (h : H) : cvRound G rec loop slices_IndexFunc_Lapi_Tuple_api_Tuple_c0 slices_IndexFunc_Lapi_Tuple_api_Tuple_l0 σ (envL [(0,x0),(1,x1),(7,(.p (.int .i64 x7))),(8,(.p (.int .i64 x8)))]) h =
bif decide (x8 < x7) then (
(iS 3 x0 x8).bind fun t4 =>
(ldO true 3 h t4).bind fun t5 =>
(cloO rec x1 (5::0::1::0::1::1::0::σ) [t5] h (some 16)).bind fun q6 =>
(asB q6.1).bind fun b7 =>
bif b7 then (
some (.ret,(envL [(4,(.p (.int .i64 x8)))]),q6.2))
else (
loop slices_IndexFunc_Lapi_Tuple_api_Tuple_c0 slices_IndexFunc_Lapi_Tuple_api_Tuple_l0 (1::σ) (envL [(0,x0),(1,x1),(7,(.p (.int .i64 x7))),(8,(.p (.int .i64 (IntKind.wrap .i64 (x8 + 1)))))]) q6.2))
else (
some ((.exit 0),(envL []),h)):=by kernel_rfl
theorem slices_IndexFunc_Lapi_Tuple_api_Tuple_a0_0  (h : H) : slices_IndexFunc_Lapi_Tuple_api_Tuple_k0 rec loop σ (.exit 0) (envL []) h =
fin false σ h [(.p (.int .i64 (-1)))]:=by kernel_rfl
theorem slices_IndexFunc_Lapi_Tuple_api_Tuple_a0_ret (x4 : Int) (h : H) : slices_IndexFunc_Lapi_Tuple_api_Tuple_k0 rec loop σ .ret (envL [(4,(.p (.int .i64 x4)))]) h =
fin false σ h [(.p (.int .i64 x4))]:=by kernel_rfl
theorem rtcp_values_1_entry (x0 : V) (h : H) : cvBody G rec loop 99 σ [x0] h =
(boxO false (0::0::0::σ) 1 (List.replicate 19 []::h) x0).bind fun q1 =>
(fA q1.1 2).bind fun t2 =>
(ldO false 1 q1.2 t2).bind fun t3 =>
(castI .i64 t3).bind fun n4 =>
(bif decide (n4 < 0) then (some true) else ((fA q1.1 2).bind fun t5 =>
(ldO false 1 q1.2 t5).bind fun t6 =>
(castI .i64 t6).bind fun n7 =>
some (decide (n7 > 511)))).bind fun b8 =>
(bif b8 then (some ((.p (.bool true)),q1.2)) else ((fA q1.1 1).bind fun t9 =>
(ldO false 1 q1.2 t9).bind fun t10 =>
(castI .u64 t10).bind fun n11 =>
(fA q1.1 1).bind fun t12 =>
(ldO false 1 q1.2 t12).bind fun t13 =>
(castI .u64 t13).bind fun n14 =>
(callO rec 100 (11::0::1::0::σ) [(.p (.int .u64 n11)),(.p (.int .i64 17))] q1.2 (some 14)).bind fun q15 =>
(castI .u64 q15.1).bind fun n16 =>
need (ldO false 1 q15.2 t12 = some (.p (.int .u64 n14))) (
some ((.p (.bool (n16 != n14))),q15.2)))).bind fun q17 =>
(asB q17.1).bind fun b18 =>
fin false σ q17.2 [(.p (.bool b18))]:=by kernel_rfl
end
end Go.Ev
namespace Go.Ev
open Go.Proofs
set_option linter.unusedVariables false
set_option linter.unusedSimpArgs false
set_option maxRecDepth 100000
def p_rtcp_values_1 (k : Nat) (x0 : TaiTuple) : Option (Bool) :=
(bif decide (x0.Over < 0) then (some true) else (some (decide (x0.Over > 511)))).bind fun b5 =>
(bif b5 then (some true) else ((p_rate_Down k x0.Rate 17).bind fun r9 =>
some (r9 != x0.Rate))).bind fun b14 =>
some (b14)
theorem rtcp_values_1_ok (k : Nat) {h : H} {σ : Stamp} (x0 : TaiTuple) {u0 : List V} (hu0 : dTaiTuple.R x0 u0) : Sim (p_rtcp_values_1 k x0) (ev G X0 99 σ [(.agg u0)] h) (fun r s => s = ([.v (.p (.bool r))],h)):=by
  refine Sim.ev rfl (Sim.ext (rtcp_values_1_entry _ _ _ _ _) ?_)
  rw [p_rtcp_values_1]
  obtain rfl:=dTaiTuple.inv hu0
  have S0 : Fm 19 h [] [] [] (List.replicate 19 []::h):=Fm.start0
  obtain ⟨H1,e2,S3⟩:=S0.box (own:=false) (d:=1) (s:=(0::0::0::σ)) (xs:=[(.p (.int .u32 x0.Owner)),(.p (.int .u64 x0.Rate)),(.p (.int .i64 x0.Over))]) (sC (sI _ _) (sC (sI _ _) (sC (sI _ _) sN))) (by decide) rfl
  refine Sim.op (e2) ?_
  refine Sim.fa ?_
  refine Sim.op ((S3.atG (i:=0) rfl).ld (j:=2) rfl) ?_
  refine Sim.ci ?_
  refine Sim.ch (P:=fun r y => r = y) ?_ (fun b5 y6 h7 h8 => ?_)
  · refine Sim.cq ?_ ?_
    · exact Sim.ret rfl rfl
    · refine Sim.fa ?_
      refine Sim.op ((S3.atG (i:=0) rfl).ld (j:=2) rfl) ?_
      refine Sim.ci ?_
      exact Sim.ret rfl rfl
  subst h8
  refine Sim.ch (P:=fun r y => (.p (.bool r),H1) = y) ?_ (fun b14 y15 h16 h17 => ?_)
  · refine Sim.cq ?_ ?_
    · exact Sim.ret rfl rfl
    · refine Sim.fa ?_
      refine Sim.op ((S3.atG (i:=0) rfl).ld (j:=1) rfl) ?_
      refine Sim.ci ?_
      refine Sim.fa ?_
      refine Sim.op ((S3.atG (i:=0) rfl).ld (j:=1) rfl) ?_
      refine Sim.ci ?_
      refine Sim.call (rate_Down_ok k x0.Rate 17) fun r9 cs10 H11 h12 q13 => ?_
      cases q13
      refine Sim.ci ?_
      refine Sim.nd ((S3.atG (i:=0) rfl).ld (j:=1) rfl) ?_
      exact Sim.ret rfl rfl
  subst h17
  refine Sim.ab ?_
  exact Sim.fin (S3.finN (lC (sB _).lv lN)) rfl
def p_slices_IndexFunc_Lapi_Tuple_api_Tuple_rtcp_values_1_l0 {β : Type} (k : Nat) (kE0 : Unit→Option β) (kE1 : Int→Option β) (x0 : (List TaiTuple)) (x7 : Int) (x8 : Int) : Option β:=match k with
| 0 => none
| k + 1 =>
bif decide (x8 < x7) then (
(ix x0 x8).bind fun a6 =>
(p_rtcp_values_1 k a6).bind fun r11 =>
bif r11 then (
kE1 x8)
else (
p_slices_IndexFunc_Lapi_Tuple_api_Tuple_rtcp_values_1_l0 k kE0 kE1 x0 x7 (IntKind.wrap .i64 (x8 + 1))))
else (
kE0 ())
def p_slices_IndexFunc_Lapi_Tuple_api_Tuple_rtcp_values_1 (k : Nat) (x0 : (List TaiTuple)) : Option (Int) :=
p_slices_IndexFunc_Lapi_Tuple_api_Tuple_rtcp_values_1_l0 k (fun (_ : Unit) =>
some ((-1))) (fun r24_4 =>
some (r24_4)) x0 ((x0.length : Int)) 0
theorem slices_IndexFunc_Lapi_Tuple_api_Tuple_rtcp_values_1_l0_ok {h : H}  {β α : Type} {Q : β→α→Prop} {K : Exit × Env × H→Option α} {kE0 : Unit→Option β} {kE1 : Int→Option β} (hE0 : ∀ (_u : Unit) (H17 : Go.Ev.H) (_ : Fm 19 h [] [] [] H17),Sim (kE0 ()) (K ((.exit 0),(envL []),H17)) Q) (hE1 : ∀ (q4 : Int) (H19 : Go.Ev.H) (_ : Fm 19 h [] [] [] H19),Sim (kE1 q4) (K (.ret,(envL [(4,(.p (.int .i64 q4)))]),H19)) Q) (k : Nat) : ∀ (x0 : (List TaiTuple)) (x7 : Int) (x8 : Int) (v3 : V) (h4 : SlH h dTaiTuple x0 v3) (H1 : Go.Ev.H) (_ : Fm 19 h [] [] [] H1) {σ : Stamp},Sim (p_slices_IndexFunc_Lapi_Tuple_api_Tuple_rtcp_values_1_l0 k kE0 kE1 x0 x7 x8) ((cvL G X0 slices_IndexFunc_Lapi_Tuple_api_Tuple_c0 slices_IndexFunc_Lapi_Tuple_api_Tuple_l0 σ (envL [(0,v3),(1,(.clo 99 [])),(7,(.p (.int .i64 x7))),(8,(.p (.int .i64 x8)))]) H1).bind K) Q:=by
  induction k with
  | zero => intros; exact Sim.no
  | succ k ih =>
    intro x0 x7 x8 v3 h4 H1 S2 σ
    rw [p_slices_IndexFunc_Lapi_Tuple_api_Tuple_rtcp_values_1_l0]
    refine Sim.round (Sim.ext (slices_IndexFunc_Lapi_Tuple_api_Tuple_r0 _ _ _ _ _ _ _ _) ?_)
    refine Sim.cq ?_ ?_
    · refine Sim.bd fun a6 h7 => ?_
      refine Sim.op ((S2.low h4).iS h7 rfl) ?_
      obtain ⟨w9,h10,hE8⟩:=(S2.low h4).el h7 rfl
      obtain rfl:=dTaiTuple.inv h10
      refine Sim.op (hE8.all (by simp)) ?_
      refine Sim.clo ?_
      refine Sim.call (rtcp_values_1_ok k a6 (show dTaiTuple.R a6 [.p (.int .u32 a6.Owner),.p (.int .u64 a6.Rate),.p (.int .i64 a6.Over)] from (dTaiTuple.mk))) fun r11 cs12 H13 h14 q15 => ?_
      cases q15
      refine Sim.ab ?_
      refine Sim.cq ?_ ?_
      · exact hE1 x8 H1 (S2.wk2 aN aN)
      exact ih x0 x7 (IntKind.wrap .i64 (x8 + 1)) v3 h4 H1 (S2.wk2 aN aN)
    exact hE0 () H1 (S2.wk2 aN aN)
theorem slices_IndexFunc_Lapi_Tuple_api_Tuple_rtcp_values_1_ok (k : Nat) {h : H} {σ : Stamp} (x0 : List TaiTuple) {u0 : V} (hu0 : SlH h dTaiTuple x0 u0) : Sim (p_slices_IndexFunc_Lapi_Tuple_api_Tuple_rtcp_values_1 k x0) (ev G X0 120 σ [u0,(.clo 99 [])] h) (fun r s => s = ([.v (.p (.int .i64 r))],h)):=by
  refine Sim.ev rfl (Sim.ext (slices_IndexFunc_Lapi_Tuple_api_Tuple_entry _ _ _ _ _ _) ?_)
  rw [p_slices_IndexFunc_Lapi_Tuple_api_Tuple_rtcp_values_1]
  have S0 : Fm 19 h [] [] [] (List.replicate 19 []::h):=Fm.start0
  refine Sim.op ((S0.low hu0).len) ?_
  refine Sim.ci ?_
  refine Sim.as (slices_IndexFunc_Lapi_Tuple_api_Tuple_rtcp_values_1_l0_ok ?_ ?_ k x0 ((x0.length : Int)) 0 u0 hu0 (List.replicate 19 []::h) (S0.wk2 aN aN))
  · intro _u H22 S23
    refine Sim.ext (slices_IndexFunc_Lapi_Tuple_api_Tuple_a0_0 _ _ _ _) ?_
    exact Sim.fin (S23.finN (lC (sI _ _).lv lN)) rfl
  · intro r24_4 H25 S26
    refine Sim.ext (slices_IndexFunc_Lapi_Tuple_api_Tuple_a0_ret _ _ _ _ _) ?_
    exact Sim.fin (S26.finN (lC (sI _ _).lv lN)) rfl
def p_slices_ContainsFunc_Lapi_Tuple_api_Tuple_rtcp_values_1 (k : Nat) (x0 : (List TaiTuple)) : Option (Bool) :=
(p_slices_IndexFunc_Lapi_Tuple_api_Tuple_rtcp_values_1 k x0).bind fun r1 =>
some ((decide (r1 ≥ 0)))
theorem slices_ContainsFunc_Lapi_Tuple_api_Tuple_rtcp_values_1_ok (k : Nat) {h : H} {σ : Stamp} (x0 : List TaiTuple) {u0 : V} (hu0 : SlH h dTaiTuple x0 u0) : Sim (p_slices_ContainsFunc_Lapi_Tuple_api_Tuple_rtcp_values_1 k x0) (ev G X0 98 σ [u0,(.clo 99 [])] h) (fun r s => s = ([.v (.p (.bool r))],h)):=by
  refine Sim.ev rfl (Sim.ext (slices_ContainsFunc_Lapi_Tuple_api_Tuple_entry _ _ _ _ _ _) ?_)
  rw [p_slices_ContainsFunc_Lapi_Tuple_api_Tuple_rtcp_values_1]
  have S0 : Fm 9 h [] [] [] (List.replicate 9 []::h):=Fm.start0
  refine Sim.call (slices_IndexFunc_Lapi_Tuple_api_Tuple_rtcp_values_1_ok k x0 (S0.low hu0)) fun r1 cs2 H3 h4 q5 => ?_
  cases q5
  refine Sim.ci ?_
  exact Sim.fin (S0.finN (lC (sB _).lv lN)) rfl
end Go.Ev
namespace Go.Ev
open Go.Proofs
set_option linter.unusedVariables false
set_option linter.unusedSimpArgs false
set_option maxRecDepth 100000
noncomputable section
abbrev KT12:=Exit→Env→H→Option (List C × H)
variable (rec : CallF) (loop : LoopV) (σ : Stamp)
theorem slices_ContainsFunc_Lint_int_entry (x0 : V) (x1 : V) (h : H) : cvBody G rec loop 101 σ [x0,x1] h =
(callO rec 136 (2::0::1::0::σ) [x0,x1] (List.replicate 9 []::h) (some 7)).bind fun q1 =>
(castI .i64 q1.1).bind fun n2 =>
fin false σ q1.2 [(.p (.bool (decide (n2 ≥ 0))))]:=by kernel_rfl
def slices_IndexFunc_Lint_int_c0 : Code:=(codeAt (bodyOf Try.f136) [1,0,1,0,0])
def slices_IndexFunc_Lint_int_l0 : Lv:=⟨0,16,[(0,0)]⟩
def slices_IndexFunc_Lint_int_k0 : KT12:=(kBlock 0 (kSeq G rec loop (codeAt (bodyOf Try.f136) [1,1]) ⟨16,16,[]⟩ (1::0::σ) (finC G false Try.f136 (1::σ))))
theorem slices_IndexFunc_Lint_int_entry (x0 : V) (x1 : V) (h : H) : cvBody G rec loop 136 σ [x0,x1] h =
(lenO x0).bind fun t1 =>
(castI .i64 t1).bind fun n2 =>
(loop slices_IndexFunc_Lint_int_c0 slices_IndexFunc_Lint_int_l0 (1::0::1::0::σ) (envL [(0,x0),(1,x1),(7,(.p (.int .i64 n2))),(8,(.p (.int .i64 0)))]) (List.replicate 19 []::h)).bind fun r3 => slices_IndexFunc_Lint_int_k0 rec loop σ r3.1 r3.2.1 r3.2.2:=by kernel_rfl
theorem slices_IndexFunc_Lint_int_r0 (x0 : V) (x1 : V) (x7 : Int) (x8 : Int) (h : H) : cvRound G rec loop slices_IndexFunc_Lint_int_c0 slices_IndexFunc_Lint_int_l0 σ (envL [(0,x0),(1,x1),(7,(.p (.int .i64 x7))),(8,(.p (.int .i64 x8)))]) h =
bif decide (x8 < x7) then (
(iS 1 x0 x8).bind fun t4 =>
(ldO false 1 h t4).bind fun t5 =>
(castI .i64 t5).bind fun n6 =>
(cloO rec x1 (5::0::1::0::1::1::0::σ) [(.p (.int .i64 n6))] h (some 16)).bind fun q7 =>
(asB q7.1).bind fun b8 =>
bif b8 then (
some (.ret,(envL [(4,(.p (.int .i64 x8)))]),q7.2))
else (
loop slices_IndexFunc_Lint_int_c0 slices_IndexFunc_Lint_int_l0 (1::σ) (envL [(0,x0),(1,x1),(7,(.p (.int .i64 x7))),(8,(.p (.int .i64 (IntKind.wrap .i64 (x8 + 1)))))]) q7.2))
else (
some ((.exit 0),(envL []),h)):=by kernel_rfl
theorem slices_IndexFunc_Lint_int_a0_0  (h : H) : slices_IndexFunc_Lint_int_k0 rec loop σ (.exit 0) (envL []) h =
fin false σ h [(.p (.int .i64 (-1)))]:=by kernel_rfl
theorem slices_IndexFunc_Lint_int_a0_ret (x4 : Int) (h : H) : slices_IndexFunc_Lint_int_k0 rec loop σ .ret (envL [(4,(.p (.int .i64 x4)))]) h =
fin false σ h [(.p (.int .i64 x4))]:=by kernel_rfl
theorem rtcp_values_2_entry (x0 : Int) (h : H) : cvBody G rec loop 102 σ [(.p (.int .i64 x0))] h =
(bif decide (x0 < 0) then (some true) else (some (decide (x0 > 255)))).bind fun b1 =>
fin false σ (List.replicate 9 []::h) [(.p (.bool b1))]:=by kernel_rfl
end
end Go.Ev
namespace Go.Ev
open Go.Proofs
set_option linter.unusedVariables false
set_option linter.unusedSimpArgs false
set_option maxRecDepth 100000
def p_rtcp_values_2 (x0 : Int) : Option (Bool) :=
(bif decide (x0 < 0) then (some true) else (some (decide (x0 > 255)))).bind fun b1 =>
some (b1)
theorem rtcp_values_2_ok {h : H} {σ : Stamp} (x0 : Int) : Sim (p_rtcp_values_2 x0) (ev G X0 102 σ [(.p (.int .i64 x0))] h) (fun r s => s = ([.v (.p (.bool r))],h)):=by
  refine Sim.ev rfl (Sim.ext (rtcp_values_2_entry _ _ _ _ _) ?_)
  rw [p_rtcp_values_2]
  have S0 : Fm 9 h [] [] [] (List.replicate 9 []::h):=Fm.start0
  refine Sim.ch (P:=fun r y => r = y) ?_ (fun b1 y2 h3 h4 => ?_)
  · refine Sim.cq ?_ ?_
    · exact Sim.ret rfl rfl
    · exact Sim.ret rfl rfl
  subst h4
  exact Sim.fin (S0.finN (lC (sB _).lv lN)) rfl
def p_slices_IndexFunc_Lint_int_rtcp_values_2_l0 {β : Type} (k : Nat) (kE0 : Unit→Option β) (kE1 : Int→Option β) (x0 : (List Int)) (x7 : Int) (x8 : Int) : Option β:=match k with
| 0 => none
| k + 1 =>
bif decide (x8 < x7) then (
(ix x0 x8).bind fun a6 =>
(p_rtcp_values_2 a6).bind fun r9 =>
bif r9 then (
kE1 x8)
else (
p_slices_IndexFunc_Lint_int_rtcp_values_2_l0 k kE0 kE1 x0 x7 (IntKind.wrap .i64 (x8 + 1))))
else (
kE0 ())
def p_slices_IndexFunc_Lint_int_rtcp_values_2 (k : Nat) (x0 : (List Int)) : Option (Int) :=
p_slices_IndexFunc_Lint_int_rtcp_values_2_l0 k (fun (_ : Unit) =>
some ((-1))) (fun r22_4 =>
some (r22_4)) x0 ((x0.length : Int)) 0
theorem slices_IndexFunc_Lint_int_rtcp_values_2_l0_ok {h : H}  {β α : Type} {Q : β→α→Prop} {K : Exit × Env × H→Option α} {kE0 : Unit→Option β} {kE1 : Int→Option β} (hE0 : ∀ (_u : Unit) (H15 : Go.Ev.H) (_ : Fm 19 h [] [] [] H15),Sim (kE0 ()) (K ((.exit 0),(envL []),H15)) Q) (hE1 : ∀ (q4 : Int) (H17 : Go.Ev.H) (_ : Fm 19 h [] [] [] H17),Sim (kE1 q4) (K (.ret,(envL [(4,(.p (.int .i64 q4)))]),H17)) Q) (k : Nat) : ∀ (x0 : (List Int)) (x7 : Int) (x8 : Int) (v3 : V) (h4 : SlH h (dI .i64) x0 v3) (H1 : Go.Ev.H) (_ : Fm 19 h [] [] [] H1) {σ : Stamp},Sim (p_slices_IndexFunc_Lint_int_rtcp_values_2_l0 k kE0 kE1 x0 x7 x8) ((cvL G X0 slices_IndexFunc_Lint_int_c0 slices_IndexFunc_Lint_int_l0 σ (envL [(0,v3),(1,(.clo 102 [])),(7,(.p (.int .i64 x7))),(8,(.p (.int .i64 x8)))]) H1).bind K) Q:=by
  induction k with
  | zero => intros; exact Sim.no
  | succ k ih =>
    intro x0 x7 x8 v3 h4 H1 S2 σ
    rw [p_slices_IndexFunc_Lint_int_rtcp_values_2_l0]
    refine Sim.round (Sim.ext (slices_IndexFunc_Lint_int_r0 _ _ _ _ _ _ _ _) ?_)
    refine Sim.cq ?_ ?_
    · refine Sim.bd fun a6 h7 => ?_
      refine Sim.op ((S2.low h4).iS h7 rfl) ?_
      obtain ⟨_,rfl,hE8⟩:=(S2.low h4).el h7 rfl
      refine Sim.op (hE8.ld (j:=0) rfl) ?_
      refine Sim.ci ?_
      refine Sim.clo ?_
      refine Sim.call (rtcp_values_2_ok a6) fun r9 cs10 H11 h12 q13 => ?_
      cases q13
      refine Sim.ab ?_
      refine Sim.cq ?_ ?_
      · exact hE1 x8 H1 (S2.wk2 aN aN)
      exact ih x0 x7 (IntKind.wrap .i64 (x8 + 1)) v3 h4 H1 (S2.wk2 aN aN)
    exact hE0 () H1 (S2.wk2 aN aN)
theorem slices_IndexFunc_Lint_int_rtcp_values_2_ok (k : Nat) {h : H} {σ : Stamp} (x0 : List Int) {u0 : V} (hu0 : SlH h (dI .i64) x0 u0) : Sim (p_slices_IndexFunc_Lint_int_rtcp_values_2 k x0) (ev G X0 136 σ [u0,(.clo 102 [])] h) (fun r s => s = ([.v (.p (.int .i64 r))],h)):=by
  refine Sim.ev rfl (Sim.ext (slices_IndexFunc_Lint_int_entry _ _ _ _ _ _) ?_)
  rw [p_slices_IndexFunc_Lint_int_rtcp_values_2]
  have S0 : Fm 19 h [] [] [] (List.replicate 19 []::h):=Fm.start0
  refine Sim.op ((S0.low hu0).len) ?_
  refine Sim.ci ?_
  refine Sim.as (slices_IndexFunc_Lint_int_rtcp_values_2_l0_ok ?_ ?_ k x0 ((x0.length : Int)) 0 u0 hu0 (List.replicate 19 []::h) (S0.wk2 aN aN))
  · intro _u H20 S21
    refine Sim.ext (slices_IndexFunc_Lint_int_a0_0 _ _ _ _) ?_
    exact Sim.fin (S21.finN (lC (sI _ _).lv lN)) rfl
  · intro r22_4 H23 S24
    refine Sim.ext (slices_IndexFunc_Lint_int_a0_ret _ _ _ _ _) ?_
    exact Sim.fin (S24.finN (lC (sI _ _).lv lN)) rfl
def p_slices_ContainsFunc_Lint_int_rtcp_values_2 (k : Nat) (x0 : (List Int)) : Option (Bool) :=
(p_slices_IndexFunc_Lint_int_rtcp_values_2 k x0).bind fun r1 =>
some ((decide (r1 ≥ 0)))
theorem slices_ContainsFunc_Lint_int_rtcp_values_2_ok (k : Nat) {h : H} {σ : Stamp} (x0 : List Int) {u0 : V} (hu0 : SlH h (dI .i64) x0 u0) : Sim (p_slices_ContainsFunc_Lint_int_rtcp_values_2 k x0) (ev G X0 101 σ [u0,(.clo 102 [])] h) (fun r s => s = ([.v (.p (.bool r))],h)):=by
  refine Sim.ev rfl (Sim.ext (slices_ContainsFunc_Lint_int_entry _ _ _ _ _ _) ?_)
  rw [p_slices_ContainsFunc_Lint_int_rtcp_values_2]
  have S0 : Fm 9 h [] [] [] (List.replicate 9 []::h):=Fm.start0
  refine Sim.call (slices_IndexFunc_Lint_int_rtcp_values_2_ok k x0 (S0.low hu0)) fun r1 cs2 H3 h4 q5 => ?_
  cases q5
  refine Sim.ci ?_
  exact Sim.fin (S0.finN (lC (sB _).lv lN)) rfl
def p_rtcp_values (k : Nat) (x0 : TaiReport) : Option (Bool) :=
bif x0.Kind == 1 then (
(bif decide (((x0.Tuples.length : Int)) ≤ 6) then ((p_slices_ContainsFunc_Lapi_Tuple_api_Tuple_rtcp_values_1 k x0.Tuples).bind fun r14 =>
some (!r14)) else (some false)).bind fun b19 =>
some (b19))
else (
bif x0.Kind == 2 then (
(bif decide (((x0.Tuples.length : Int)) ≤ 6) then ((p_slices_ContainsFunc_Lapi_Tuple_api_Tuple_rtcp_values_1 k x0.Tuples).bind fun r24 =>
some (!r24)) else (some false)).bind fun b29 =>
some (b29))
else (
bif x0.Kind == 4 then (
(bif ((x0.Numbers.length : Int)) == ((x0.Abouts.length : Int)) then (some (decide (((x0.Abouts.length : Int)) ≥ 1))) else (some false)).bind fun b34 =>
(bif b34 then (some (decide (((x0.Abouts.length : Int)) ≤ 16))) else (some false)).bind fun b38 =>
(bif b38 then ((p_slices_ContainsFunc_Lint_int_rtcp_values_2 k x0.Numbers).bind fun r42 =>
some (!r42)) else (some false)).bind fun b47 =>
some (b47))
else (
bif x0.Kind == 5 then (
(bif decide (((x0.Abouts.length : Int)) ≤ 16) then ((p_rate_Down k x0.Rate 18).bind fun r52 =>
some (r52 == x0.Rate)) else (some false)).bind fun b57 =>
some (b57))
else (
bif x0.Kind == 6 then (
(bif decide (x0.f_Type ≥ 192) then (some (decide (x0.f_Type ≤ 223))) else (some false)).bind fun b62 =>
(bif b62 then (some (decide (x0.Count ≥ 0))) else (some false)).bind fun b66 =>
(bif b66 then (some (decide (x0.Count ≤ 31))) else (some false)).bind fun b70 =>
(bif b70 then (some ((Int.tmod ((x0.Body.length : Int)) 4) == 0)) else (some false)).bind fun b74 =>
(bif b74 then (some (decide (((x0.Body.length : Int)) ≤ 262140))) else (some false)).bind fun b78 =>
(bif b78 then ((p_rtcp_kind x0.f_Type x0.Count).bind fun r82 =>
some (r82 == 6)) else (some false)).bind fun b87 =>
some (b87))
else (
some (true))))))
theorem rtcp_values_ok (k : Nat) {h : H} {σ : Stamp} (x0 : TaiReport) {u0 : List V} (hu0 : dTaiReport.R x0 u0) : Sim (p_rtcp_values k x0) (ev G X0 61 σ [(.agg u0)] h) (fun r s => s = ([.v (.p (.bool r))],h)):=by
  refine Sim.ev rfl (Sim.ext (rtcp_values_entry _ _ _ _ _) ?_)
  rw [p_rtcp_values]
  obtain ⟨v1,v3,v5,v7,rfl,h2,h4,h6,h8⟩:=dTaiReport.inv hu0
  have S0 : Fm 100 h [] [] [] (List.replicate 100 []::h):=Fm.start0
  obtain ⟨H9,e10,S11⟩:=S0.box (own:=false) (d:=1) (s:=(0::0::0::σ)) (xs:=[(.p (.int .i64 x0.Kind)),(.p (.int .u32 x0.From)),(.p (.int .u32 x0.About)),v1,v3,v5,(.p (.int .u64 x0.Rate)),(.p (.int .i64 x0.f_Type)),(.p (.int .i64 x0.Count)),v7]) (sC (sI _ _) (sC (sI _ _) (sC (sI _ _) (sC h2.still (sC h4.still (sC h6.still (sC (sI _ _) (sC (sI _ _) (sC (sI _ _) (sC h8.still sN)))))))))) (by decide) rfl
  refine Sim.op (e10) ?_
  refine Sim.fa ?_
  refine Sim.op ((S11.atG (i:=0) rfl).ld (j:=0) rfl) ?_
  refine Sim.ci ?_
  refine Sim.cd (fun hc13 => ?_) (fun hc13 => ?_)
  · refine Sim.cdt (eqT (beq_iff_eq.1 hc13)) ?_
    refine Sim.fa ?_
    refine Sim.op ((S11.atG (i:=0) rfl).ld (j:=3) rfl) ?_
    refine Sim.op ((h2.h H9).len) ?_
    refine Sim.ci ?_
    refine Sim.ch (P:=fun r y => (.p (.bool r),H9) = y) ?_ (fun b19 y20 h21 h22 => ?_)
    · refine Sim.cq ?_ ?_
      · refine Sim.fa ?_
        refine Sim.op ((S11.atG (i:=0) rfl).ld (j:=3) rfl) ?_
        refine Sim.call (slices_ContainsFunc_Lapi_Tuple_api_Tuple_rtcp_values_1_ok k x0.Tuples (h2.h H9)) fun r14 cs15 H16 h17 q18 => ?_
        cases q18
        refine Sim.ab ?_
        exact Sim.ret rfl rfl
      · exact Sim.ret rfl rfl
    subst h22
    refine Sim.ab ?_
    exact Sim.fin (S11.finN (lC (sB _).lv lN)) rfl
  refine Sim.cq ?_ ?_
  · refine Sim.fa ?_
    refine Sim.op ((S11.atG (i:=0) rfl).ld (j:=3) rfl) ?_
    refine Sim.op ((h2.h H9).len) ?_
    refine Sim.ci ?_
    refine Sim.ch (P:=fun r y => (.p (.bool r),H9) = y) ?_ (fun b29 y30 h31 h32 => ?_)
    · refine Sim.cq ?_ ?_
      · refine Sim.fa ?_
        refine Sim.op ((S11.atG (i:=0) rfl).ld (j:=3) rfl) ?_
        refine Sim.call (slices_ContainsFunc_Lapi_Tuple_api_Tuple_rtcp_values_1_ok k x0.Tuples (h2.h H9)) fun r24 cs25 H26 h27 q28 => ?_
        cases q28
        refine Sim.ab ?_
        exact Sim.ret rfl rfl
      · exact Sim.ret rfl rfl
    subst h32
    refine Sim.ab ?_
    exact Sim.fin (S11.finN (lC (sB _).lv lN)) rfl
  refine Sim.cq ?_ ?_
  · refine Sim.fa ?_
    refine Sim.op ((S11.atG (i:=0) rfl).ld (j:=5) rfl) ?_
    refine Sim.op ((h6.h H9).len) ?_
    refine Sim.ci ?_
    refine Sim.fa ?_
    refine Sim.op ((S11.atG (i:=0) rfl).ld (j:=4) rfl) ?_
    refine Sim.op ((h4.h H9).len) ?_
    refine Sim.ci ?_
    refine Sim.ch (P:=fun r y => r = y) ?_ (fun b34 y35 h36 h37 => ?_)
    · refine Sim.cq ?_ ?_
      · refine Sim.fa ?_
        refine Sim.op ((S11.atG (i:=0) rfl).ld (j:=4) rfl) ?_
        refine Sim.op ((h4.h H9).len) ?_
        refine Sim.ci ?_
        exact Sim.ret rfl rfl
      · exact Sim.ret rfl rfl
    subst h37
    refine Sim.ch (P:=fun r y => r = y) ?_ (fun b38 y39 h40 h41 => ?_)
    · refine Sim.cq ?_ ?_
      · refine Sim.fa ?_
        refine Sim.op ((S11.atG (i:=0) rfl).ld (j:=4) rfl) ?_
        refine Sim.op ((h4.h H9).len) ?_
        refine Sim.ci ?_
        exact Sim.ret rfl rfl
      · exact Sim.ret rfl rfl
    subst h41
    refine Sim.ch (P:=fun r y => (.p (.bool r),H9) = y) ?_ (fun b47 y48 h49 h50 => ?_)
    · refine Sim.cq ?_ ?_
      · refine Sim.fa ?_
        refine Sim.op ((S11.atG (i:=0) rfl).ld (j:=5) rfl) ?_
        refine Sim.call (slices_ContainsFunc_Lint_int_rtcp_values_2_ok k x0.Numbers (h6.h H9)) fun r42 cs43 H44 h45 q46 => ?_
        cases q46
        refine Sim.ab ?_
        exact Sim.ret rfl rfl
      · exact Sim.ret rfl rfl
    subst h50
    refine Sim.ab ?_
    exact Sim.fin (S11.finN (lC (sB _).lv lN)) rfl
  refine Sim.cq ?_ ?_
  · refine Sim.fa ?_
    refine Sim.op ((S11.atG (i:=0) rfl).ld (j:=4) rfl) ?_
    refine Sim.op ((h4.h H9).len) ?_
    refine Sim.ci ?_
    refine Sim.ch (P:=fun r y => (.p (.bool r),H9) = y) ?_ (fun b57 y58 h59 h60 => ?_)
    · refine Sim.cq ?_ ?_
      · refine Sim.fa ?_
        refine Sim.op ((S11.atG (i:=0) rfl).ld (j:=6) rfl) ?_
        refine Sim.ci ?_
        refine Sim.fa ?_
        refine Sim.op ((S11.atG (i:=0) rfl).ld (j:=6) rfl) ?_
        refine Sim.ci ?_
        refine Sim.call (rate_Down_ok k x0.Rate 18) fun r52 cs53 H54 h55 q56 => ?_
        cases q56
        refine Sim.ci ?_
        refine Sim.nd ((S11.atG (i:=0) rfl).ld (j:=6) rfl) ?_
        exact Sim.ret rfl rfl
      · exact Sim.ret rfl rfl
    subst h60
    refine Sim.ab ?_
    exact Sim.fin (S11.finN (lC (sB _).lv lN)) rfl
  refine Sim.cq ?_ ?_
  · refine Sim.fa ?_
    refine Sim.op ((S11.atG (i:=0) rfl).ld (j:=7) rfl) ?_
    refine Sim.ci ?_
    refine Sim.ch (P:=fun r y => r = y) ?_ (fun b62 y63 h64 h65 => ?_)
    · refine Sim.cq ?_ ?_
      · refine Sim.fa ?_
        refine Sim.op ((S11.atG (i:=0) rfl).ld (j:=7) rfl) ?_
        refine Sim.ci ?_
        exact Sim.ret rfl rfl
      · exact Sim.ret rfl rfl
    subst h65
    refine Sim.ch (P:=fun r y => r = y) ?_ (fun b66 y67 h68 h69 => ?_)
    · refine Sim.cq ?_ ?_
      · refine Sim.fa ?_
        refine Sim.op ((S11.atG (i:=0) rfl).ld (j:=8) rfl) ?_
        refine Sim.ci ?_
        exact Sim.ret rfl rfl
      · exact Sim.ret rfl rfl
    subst h69
    refine Sim.ch (P:=fun r y => r = y) ?_ (fun b70 y71 h72 h73 => ?_)
    · refine Sim.cq ?_ ?_
      · refine Sim.fa ?_
        refine Sim.op ((S11.atG (i:=0) rfl).ld (j:=8) rfl) ?_
        refine Sim.ci ?_
        exact Sim.ret rfl rfl
      · exact Sim.ret rfl rfl
    subst h73
    refine Sim.ch (P:=fun r y => r = y) ?_ (fun b74 y75 h76 h77 => ?_)
    · refine Sim.cq ?_ ?_
      · refine Sim.fa ?_
        refine Sim.op ((S11.atG (i:=0) rfl).ld (j:=9) rfl) ?_
        refine Sim.op ((h8.h H9).len) ?_
        refine Sim.ci ?_
        exact Sim.ret rfl rfl
      · exact Sim.ret rfl rfl
    subst h77
    refine Sim.ch (P:=fun r y => r = y) ?_ (fun b78 y79 h80 h81 => ?_)
    · refine Sim.cq ?_ ?_
      · refine Sim.fa ?_
        refine Sim.op ((S11.atG (i:=0) rfl).ld (j:=9) rfl) ?_
        refine Sim.op ((h8.h H9).len) ?_
        refine Sim.ci ?_
        exact Sim.ret rfl rfl
      · exact Sim.ret rfl rfl
    subst h81
    refine Sim.ch (P:=fun r y => (.p (.bool r),H9) = y) ?_ (fun b87 y88 h89 h90 => ?_)
    · refine Sim.cq ?_ ?_
      · refine Sim.fa ?_
        refine Sim.op ((S11.atG (i:=0) rfl).ld (j:=7) rfl) ?_
        refine Sim.ci ?_
        refine Sim.fa ?_
        refine Sim.op ((S11.atG (i:=0) rfl).ld (j:=8) rfl) ?_
        refine Sim.ci ?_
        refine Sim.call (rtcp_kind_ok x0.f_Type x0.Count) fun r82 cs83 H84 h85 q86 => ?_
        cases q86
        refine Sim.ci ?_
        exact Sim.ret rfl rfl
      · exact Sim.ret rfl rfl
    subst h90
    refine Sim.ab ?_
    exact Sim.fin (S11.finN (lC (sB _).lv lN)) rfl
  exact Sim.fin (S11.finN (lC (sB _).lv lN)) rfl
def p_rtcp_Right (k : Nat) (x0 : TaiReport) : Option (Int) :=
(bif decide (x0.Kind < 1) then (some true) else (some (decide (x0.Kind > 6)))).bind fun b13 =>
bif b13 then (
some (12))
else (
(p_rtcp_values k x0).bind fun r18 =>
bif !r18 then (
some (1))
else (
(p_rtcp_fields x0).bind fun r24 =>
bif !r24 then (
some (12))
else (
some (0))))
theorem rtcp_Right_ok (k : Nat) {h : H} {σ : Stamp} (x0 : TaiReport) {u0 : List V} (hu0 : dTaiReport.R x0 u0) : Sim (p_rtcp_Right k x0) (ev G X0 28 σ [(.agg u0)] h) (fun r s => s = ([.v (.p (.int .i64 r))],h)):=by
  refine Sim.ev rfl (Sim.ext (rtcp_Right_entry _ _ _ _ _) ?_)
  rw [p_rtcp_Right]
  obtain ⟨v1,v3,v5,v7,rfl,h2,h4,h6,h8⟩:=dTaiReport.inv hu0
  have S0 : Fm 20 h [] [] [] (List.replicate 20 []::h):=Fm.start0
  obtain ⟨H9,e10,S11⟩:=S0.box (own:=false) (d:=1) (s:=(0::0::0::σ)) (xs:=[(.p (.int .i64 x0.Kind)),(.p (.int .u32 x0.From)),(.p (.int .u32 x0.About)),v1,v3,v5,(.p (.int .u64 x0.Rate)),(.p (.int .i64 x0.f_Type)),(.p (.int .i64 x0.Count)),v7]) (sC (sI _ _) (sC (sI _ _) (sC (sI _ _) (sC h2.still (sC h4.still (sC h6.still (sC (sI _ _) (sC (sI _ _) (sC (sI _ _) (sC h8.still sN)))))))))) (by decide) rfl
  refine Sim.op (e10) ?_
  refine Sim.fa ?_
  refine Sim.op ((S11.atG (i:=0) rfl).ld (j:=0) rfl) ?_
  refine Sim.ci ?_
  refine Sim.ch (P:=fun r y => r = y) ?_ (fun b13 y14 h15 h16 => ?_)
  · refine Sim.cq ?_ ?_
    · exact Sim.ret rfl rfl
    · refine Sim.fa ?_
      refine Sim.op ((S11.atG (i:=0) rfl).ld (j:=0) rfl) ?_
      refine Sim.ci ?_
      exact Sim.ret rfl rfl
  subst h16
  refine Sim.cq ?_ ?_
  · exact Sim.fin (S11.finN (lC (sI _ _).lv lN)) rfl
  refine Sim.op ((S11.atG (i:=0) rfl).ldVs (j:=0) (xs:=[(.p (.int .i64 x0.Kind)),(.p (.int .u32 x0.From)),(.p (.int .u32 x0.About)),v1,v3,v5,(.p (.int .u64 x0.Rate)),(.p (.int .i64 x0.f_Type)),(.p (.int .i64 x0.Count)),v7]) rfl rfl (by decide)) ?_
  refine Sim.call (rtcp_values_ok k x0 hu0) fun r18 cs19 H20 h21 q22 => ?_
  cases q22
  refine Sim.ab ?_
  refine Sim.cq ?_ ?_
  · exact Sim.fin (S11.finN (lC (sI _ _).lv lN)) rfl
  refine Sim.op ((S11.atG (i:=0) rfl).ldVs (j:=0) (xs:=[(.p (.int .i64 x0.Kind)),(.p (.int .u32 x0.From)),(.p (.int .u32 x0.About)),v1,v3,v5,(.p (.int .u64 x0.Rate)),(.p (.int .i64 x0.f_Type)),(.p (.int .i64 x0.Count)),v7]) rfl rfl (by decide)) ?_
  refine Sim.call (rtcp_fields_ok x0 hu0) fun r24 cs25 H26 h27 q28 => ?_
  cases q28
  refine Sim.ab ?_
  refine Sim.cq ?_ ?_
  · exact Sim.fin (S11.finN (lC (sI _ _).lv lN)) rfl
  exact Sim.fin (S11.finN (lC (sI _ _).lv lN)) rfl
end Go.Ev
