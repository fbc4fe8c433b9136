/- A part of the proof that follows: budgets are kept; what costs nothing and is good is chosen -/
import Derived.Test.YtlceiaanagijjaaMKnapCosts1
import Derived.Test.YtlceiaanagijjaaRows
import Derived.ProofKit
namespace Go.Ev
set_option linter.unusedVariables false
set_option linter.unusedSimpArgs false
section
variable {β α γ δ : Type} {x : Option β} {Q : β→α→Prop} {K : δ→Option α}
theorem Sim.as {A : Option γ} {g : γ→Option δ} (s : Sim x (A.bind fun v => (g v).bind K) Q) : Sim x ((A.bind g).bind K) Q:=by
 rw [Option.bind_assoc]; exact s
theorem Sim.ext {Y Y' : Option δ} (e : Y = Y') (s : Sim x (Y'.bind K) Q) : Sim x (Y.bind K) Q:=by rw [e]; exact s
theorem Sim.bot {Y : Option α} (s : Sim x Y Q) : Sim x (Y.bind some) Q:=by cases Y <;> exact s
theorem Sim.pure {v : δ} (s : Sim x (K v) Q) : Sim x ((some v).bind K) Q:=s
end
theorem sM {o : Option H} {h : H} (e : o = some h) : (o.map fun h => ((udf : V),h)) = some (udf,h):=by rw [e]; rfl
theorem lN : ∀ x ∈ ([] : List V),Lv1 x:=fun _ h => by cases h
theorem lC {x : V} {xs : List V} (h : Lv1 x) (t : ∀ y ∈ xs,Lv1 y) : ∀ y ∈ x::xs,Lv1 y:=fun y hy => by
 rcases List.mem_cons.1 hy with rfl | hy
 ·exact h
 ·exact t y hy
def Ex (frz : Bool) (τ : Stamp) (j : Nat) (h : H) (xs : List V) (cs : List C) (h' : H) : Prop:=expCs frz τ j h xs = some (cs,h')
theorem Ex.nil {frz : Bool} {τ : Stamp} {j : Nat} {h : H} : Ex frz τ j h [] [] h:=rfl
theorem Ex.st {frz : Bool} {τ : Stamp} {j : Nat} {h h1 h' : H} {x : V} {c : C} {xs : List V} {cs : List C} (hx : expF frz (j::τ) h x = some (c,h1)) (t : Ex frz τ (j + 1) h1 xs cs h') : Ex frz τ j h (x::xs) (c::cs) h':=by
 unfold Ex at t ⊢; simp only [expCs,hx,Option.bind_some,t,Option.map_some]
section
variable {N : Nat} {h0 Hp : H} {B : List Rt} {Γ : List (Nat × Stamp × List C)} {Δ : List Gw}
theorem Fm.finE (S : Fm N h0 B Γ Δ Hp) {frz : Bool} {σ : Stamp} {H : Ev.H} {xs : List V} {cs : List C} (e : Ex frz (1::σ) 0 H xs cs Hp) : fin frz σ H xs = some (cs,pts h0 B):=by
 obtain ⟨L,rfl,_⟩:=S
 unfold Ex at e
 simp [fin,e]
theorem dead_ok {L : Layer} {d : Nat} (S : Fm N h0 B Γ Δ (L::pts h0 B)) (hf : (freeG Γ d && freeD Δ d) = true) (c : List C) : Fm N h0 B Γ Δ (L.set d c::pts h0 B):=by
 obtain ⟨L',he,h2,h3,h4,h5⟩:=S
 obtain ⟨rfl,_⟩:=List.cons.inj he
 simp only [Bool.and_eq_true] at hf
 refine ⟨_,rfl,by simpa using h2,h3,fun e he => ?_,fun g hg => ?_⟩
 ·rw [List.getElem?_set_ne (Ne.symm (freeG_ne hf.1 he))]; exact h4 e he
 ·exact (h5 g hg).frame fun x hx => by rw [List.getElem?_set_ne (fun e => freeD_ne hf.2 hg (by rw [e]; exact hx))]
theorem mem_one {D : List Nat} {Γ : List (Nat × Stamp × List C)} {Δ : List Gw} (hf : freeL D Γ Δ = true) {d : Nat} (hd : d ∈ D) : (freeG Γ d && freeD Δ d) = true:=List.all_eq_true.1 hf d hd
theorem Fm.expFrz (S : Fm N h0 B Γ Δ Hp) {i : Nat} {g : Gw} (hi : Δ[i]? = some g) (hf : freeL g.D Γ (Δ.eraseIdx i) = true) {τ : Stamp} : ∃ v H',expF true τ Hp g.v = some (.v v,H')∧SlF g.d g.xs v∧Fm N h0 B Γ (Δ.eraseIdx i) H':=by
 have S' : Fm N h0 B Γ (Δ.eraseIdx i) Hp:=S.wk (fun _ h => h) (fun _ h => mem_erase h)
 obtain ⟨L,rfl,h2,h3,h4,h5⟩:=S
 obtain ⟨cs,q1,q2⟩:=h5 g (List.mem_of_getElem? hi)
 rw [← pts_length B] at q2
 rcases q2 with ⟨e1,e2,e3⟩ | ⟨q2,d',hd',s,tl,hv,h6⟩ | ⟨hv,q2,_⟩
 ·refine ⟨g.v,_,?_,⟨cs,?_,q1⟩,S'⟩
  ·rcases e3 with e | e <;> rw [e]
   ·exact still_nilS.exp ..
   ·exact (still_fz ..).exp ..
  ·rw [e1,e2]
   rcases e3 with e | e <;> rw [e]
   ·exact .nil _
   ·exact .fz (by simp) _
 ·refine ⟨.fz cs g.xs.length g.d.sz false,_,?_,⟨cs,.fz q2 _,q1⟩,dead_ok S' (mem_one hf hd') (.dead::tl)⟩
  rw [hv,expF_frz h6 q2]
 ·exact ⟨g.v,_,by rw [hv]; exact (still_fz ..).exp ..,⟨cs,by rw [hv]; exact .fz q2 _,q1⟩,S'⟩
end
def fillC (places : Nat→Option (Nat × Nat)) (cells : List V) : List (Nat × List V)→Option (List V)
 | [] => some cells
 | (i,v)::rest =>
  match places i with
  | none => none
  | some (off,size) =>
   if v.length ≠ size ∨ off + v.length > cells.length then none
   else fillC places (cells.take off ++ v ++ cells.drop (off + v.length)) rest
theorem fillC_ok (places : Nat→Option (Nat × Nat)) : ∀ (parts : List (Nat × V)) (cells : List V),fillV places cells parts = fillC places cells (parts.map fun q => (q.1,q.2.cells))
 | [],cells => rfl
 | (i,v)::rest,cells => by
  simp only [fillV,fillC,List.map_cons]
  cases places i with
  | none => rfl
  | some q =>
   simp only
   split
   ·rfl
   ·exact fillC_ok places rest _
def buildC (P : Program) (t : TypeId) (parts : List (Nat × List V)) : Option V :=
 (tzero P t).bind fun zero =>
 match P.underlying t with
 | some (.struct fs) => if fs.toList.all (fun f => known P f.type) then (fillC (fun i => (fs[i]?).map fun f => (f.offset,tsize P f.type)) zero parts).map .agg else none
 | some (.array _ e) => if known P e then (fillC (fun i => some (i * tsize P e,tsize P e)) zero parts).map .agg else none
 | _ => none
def buildSliceC (P : Program) (t : TypeId) (len : Nat) (parts : List (Nat × List V)) : Option V :=
 (telem P t).bind fun e => (tzero P e).bind fun zero =>
 if zero.length ≠ tsize P e ∨ tsize P e = 0 ∨ len * tsize P e > 2 ^ 24 then none else
 (fillC (fun i => some (i * tsize P e,tsize P e)) (rept len zero) parts).map fun cs => .fz cs len (tsize P e) true
theorem bldV {P : Program} {t : TypeId} {parts : List (Nat × V)} {cs : List (Nat × List V)} {r : V} (hp : (parts.map fun q => (q.1,q.2.cells)) = cs) (hb : buildC P t cs = some r) : buildV P t parts = some r:=by
 rw [← hb,← hp]; unfold buildV buildC; simp only [fillC_ok]; rfl
theorem bldS {P : Program} {t : TypeId} {n : Nat} {parts : List (Nat × V)} {cs : List (Nat × List V)} {r : V} (hp : (parts.map fun q => (q.1,q.2.cells)) = cs) (hb : buildSliceC P t n cs = some r) : bSV P t n parts = some r:=by
 rw [← hb,← hp]; unfold bSV buildSliceC; simp only [fillC_ok]
theorem pN : (([] : List (Nat × V)).map fun q => (q.1,q.2.cells)) = []:=rfl
theorem pC {i : Nat} {v : V} {c : List V} {ps : List (Nat × V)} {cs : List (Nat × List V)} (h : v.cells = c) (t : (ps.map fun q => (q.1,q.2.cells)) = cs) : (((i,v)::ps).map fun q => (q.1,q.2.cells)) = (i,c)::cs:=by rw [List.map_cons,h,t]
def strB (xs : List Int) : ByteArray:=⟨(xs.map fun n => UInt8.ofNat n.toNat).toArray⟩
def bytesS (s : ByteArray) : List Int:=s.data.toList.map fun b => (b.toNat : Int)
theorem RL.ints {k : IntKind} : ∀ {xs : List Int} {cs : List V},(dI k).L xs cs→cs = xs.map fun n => .p (.int k n)
 | [],cs,h => h
 | x::xs,cs,⟨a,b,h1,h2,h3⟩ => by
  have e : a = [.p (.int k x)]:=h2
  subst h1; subst e
  rw [RL.ints h3]; rfl
theorem RL.of_ints (k : IntKind) : ∀ (xs : List Int),(dI k).L xs (xs.map fun n => .p (.int k n))
 | [] => rfl
 | x::xs => .cons (show (dI k).R x [.p (.int k x)] from rfl) (RL.of_ints k xs)
theorem bytesOfV_ints : ∀ (xs : List Int),bytesOfV (xs.map fun n => .p (.int .u8 n)) = some (xs.map fun n => UInt8.ofNat n.toNat)
 | [] => rfl
 | x::xs => by simp [bytesOfV,bytesOfV_ints xs]
theorem SlH.str {h : H} {xs : List Int} {v : V} (hv : SlH h (dI .u8) xs v) : strO h v = some (.p (.string (strB xs))):=by
 obtain ⟨cs,h1,h2⟩:=hv
 have e:=RL.ints h2
 subst e
 have hl:=h1.sl
 unfold strO
 split
 ·simp [isSl] at hl
 ·simp only [toS,hl,h1.cells,h1.len,Option.bind_some,and_self,if_true]
  rw [if_pos (by simp),bytesOfV_ints]; rfl
theorem SlF.bytes (s : ByteArray) : SlF (dI .u8) (bytesS s) (.fz (s.data.toList.map fun b => .p (.int .u8 b.toNat)) s.size 1 false):=by
 have e : (bytesS s).map (fun n => V.p (.int .u8 n)) = s.data.toList.map fun b => .p (.int .u8 b.toNat):=by unfold bytesS; rw [List.map_map]; rfl
 have:=RL.of_ints .u8 (bytesS s)
 rw [e] at this
 refine SlF.lit this ?_ rfl false
 unfold bytesS; rw [List.length_map]; rfl
end Go.Ev
namespace Go.Ev
set_option linter.unusedVariables false
set_option linter.unusedSimpArgs false
theorem Sim.cdk {β α γ δ : Type} {Q : β→α→Prop} {K : δ→Option α} {c : Bool} {a b : Option β} {A B : Option γ} {g : γ→Option δ} (s : c = true→Sim a ((A.bind g).bind K) Q) (t : c = false→Sim b ((B.bind g).bind K) Q) :
  Sim (bif c then a else b) (((bif c then A else B).bind g).bind K) Q:=by
 cases c
 ·exact t rfl
 ·exact s rfl
theorem aN.{u} {α : Type u} {P : α→Prop} : ∀ x ∈ ([] : List α),P x:=fun _ h => by cases h
theorem aC.{u} {α : Type u} {P : α→Prop} {a : α} {l : List α} (h : P a) (t : ∀ x ∈ l,P x) : ∀ x ∈ a::l,P x:=fun x hx => by
 rcases List.mem_cons.1 hx with rfl | hx
 ·exact h
 ·exact t x hx
theorem aM.{u} {α : Type u} {a : α} {l : List α} (i : Nat) (h : l[i]? = some a) : a ∈ l:=List.mem_of_getElem? h
section
variable {N : Nat} {h0 Hp : H} {B : List Rt} {Γ Γ' : List (Nat × Stamp × List C)} {Δ Δ' : List Gw}
theorem Fm.wk2 (S : Fm N h0 B Γ Δ Hp) (hG : ∀ e ∈ Γ',e ∈ Γ) (hD : ∀ g ∈ Δ',∃ D,(∀ d ∈ D,d ∈ g.D)∧(⟨D,g.v,g.d,g.xs⟩ : Gw) ∈ Δ) : Fm N h0 B Γ' Δ' Hp:=by
 obtain ⟨L,h1,h2,h3,h4,h5⟩:=S
 refine ⟨L,h1,h2,h3,fun e he => h4 e (hG e he),fun g hg => ?_⟩
 obtain ⟨D,q1,q2⟩:=hD g hg
 obtain ⟨cs,r1,r2⟩:=h5 _ q2
 refine ⟨cs,r1,?_⟩
 rcases r2 with q | ⟨r2,d',hd',r⟩ | ⟨a1,a2,a3,d',hd',a4⟩
 ·exact .inl q
 ·exact .inr (.inl ⟨r2,d',q1 d' hd',r⟩)
 ·exact .inr (.inr ⟨a1,a2,a3,d',q1 d' hd',a4⟩)
theorem Fm.start1 {l : Loc} {off : Nat} {cs : List C} (ha : AtC h0 l off cs) : Fm N h0 [⟨l,off,cs⟩] [] [] (List.replicate N []::h0) :=
 Fm.start ⟨⟨cs,rfl,ha⟩,aN,trivial⟩ (aC ha aN)
def clipBody (e n : Nat) (σ : Stamp) (x : V) (h : H) : Option (List C × H) :=
 (lenO x).bind fun t1 => (castI .i64 t1).bind fun n2 => (lenO x).bind fun t3 => (castI .i64 t3).bind fun n4 => (slS e x none (some n2) (some n4)).bind fun t5 => fin false σ (List.replicate n []::h) [t5]
theorem clip_body {e n : Nat} {σ : Stamp} {x : V} {h : H} {m : Nat} {y : V} (hl : lenO x = some (.p (.int .i64 m))) (hs : slS e x none (some m) (some m) = some y) (hf : fin false σ (List.replicate n []::h) [y] = some ([.v y],h)) : clipBody e n σ x h = some ([.v y],h):=by
 unfold clipBody
 simp only [hl,Option.bind_some,castI_p,hs,hf]
end
end Go.Ev
namespace Go.Ev
section
variable {N : Nat} {h0 Hp : H} {B : List Rt} {Γ Γ' : List (Nat × Stamp × List C)} {Δ Δ' : List Gw}
end
theorem Sim.clo {β α δ : Type} {x : Option β} {Q : β→α→Prop} {K : δ→Option α} {rec : CallF} {f : FuncId} {σ : Stamp} {args caps : List V} {H : H} {d : Option Nat} {g : V × Go.Ev.H→Option δ} (s : Sim x (((callO rec f σ (args ++ caps) H d).bind g).bind K) Q) : Sim x (((cloO rec (.clo f caps) σ args H d).bind g).bind K) Q:=s
def p_clone {α : Type} (b : Nat) (xs : List α) : Option (List α):=ap b [] xs
theorem clone_ok {G : Cfg} {X : CallF} {f n d e b t tt : Nat} {P : Program} {own : Bool} {τ : Stamp→Stamp} {α : Type} {dt : Dt α} {h : H} {σ : Stamp} {xs : List α} {x : V}
  (entry : ∀ (x : V) (h : H),cvBody G (ev G X) (cvL G X) f σ [x] h = (binV P (List.replicate n []::h) .eql t x (.p (.slice .none 0 0))).bind fun t1 => (asB t1).bind fun b2 => bif b2 then (fin false σ (List.replicate n []::h) [(.p (.slice .none 0 0))]) else ((bSV P t 0 []).bind fun t3 => (apO own e b (τ σ) d (List.replicate n []::h) t3 x).bind fun q4 => fin false σ q4.2 [q4.1]))
  (hx : SlH h dt xs x) (he : dt.sz = e) (hk : e ≠ 0) (hd : d < n) (hdd : d < 1000000) (hu : P.underlying t = some (.slice tt)) (hb : bSV P t 0 [] = some (.fz [] 0 e true)) (hX : X f σ [x] h = none) :
  Sim (p_clone b xs) (ev G X f σ [x] h) (fun r s => ∃ (c : C) (a : List V),OwnS c dt.sz r.length a∧dt.L r a∧s = ([c],h)):=by
 intro r hr
 have S0 : Fm n h [] [] [] (List.replicate n []::h):=Fm.start0
 have hn : ∀ (y : V),isSl y = true→y ≠ .p (.slice none 0 0)→binV P (List.replicate n []::h) .eql t y (.p (.slice none 0 0)) = some (.p (.bool false)):=fun y hy hne => by
  unfold isSl at hy
  split at hy
  ·exact absurd rfl hne
  ·simp [binV,eqlV,hu]
  ·simp [binV,eqlV,hu]
  ·cases hy
 have hnil : binV P (List.replicate n []::h) .eql t (.p (.slice none 0 0)) (.p (.slice none 0 0)) = some (.p (.bool true)):=by simp [binV,eqlV,hu]
 obtain ⟨⟨b1,b2⟩,hrr⟩:=ap_some hr
 obtain rfl : xs = r:=hrr.symm
 by_cases hnl : x = .p (.slice none 0 0)
 ·subst hnl
  obtain ⟨cs,q1,q2⟩:=hx
  have hlen:=q1.len
  simp only [lenOf,Option.some.injEq] at hlen
  have : xs = []:=List.length_eq_zero_iff.1 hlen.symm
  subst this
  refine ⟨_,ev_cv hX ?_,.v (.p (.slice none 0 0)),[],⟨by simp,.inl ⟨rfl,rfl,.inl rfl⟩⟩,rfl,rfl⟩
  rw [entry,hnil]
  simp only [Option.bind_some,asB_p,cond_true]
  exact fin_1 still_nilS
 ·have S1:=S0.nil' dt [] he
  have hsl : isSl x = true:=by obtain ⟨cs,q1,q2⟩:=hx; exact q1.sl
  obtain ⟨v,H1,e1,S2⟩:=S1.app (i:=0) (d:=d) (b:=b) (own:=own) (σ:=τ σ) (e:=e) rfl (S1.low hx).y hr he hk hd (by simp [freeL,freeG,freeD])
  obtain ⟨c,a,f1,f2,f3⟩:=S2.finOwn (i:=0) (σ:=σ) rfl (by simp [noLit]; omega)
  refine ⟨_,ev_cv hX ?_,c,a,f2,f3,rfl⟩
  rw [entry,hn x hsl hnl]
  simp only [Option.bind_some,asB_p,cond_false,hb]
  rw [e1]
  exact f1
end Go.Ev
namespace Go.Ev
set_option linter.unusedVariables false
set_option linter.unusedSimpArgs false
def SoC {α : Type} (d : Dt α) (xs : List α) (c : C) : Prop:=(∃ v,c = .v v∧SlF d xs v) ∨ ∃ s ws,c = .arr s xs.length d.sz (ws.map .v)∧d.L xs ws
theorem SoC.frz {α : Type} {d : Dt α} {xs : List α} {v : V} (h : SlF d xs v) : SoC d xs (.v v):=.inl ⟨v,rfl,h⟩
theorem SoC.own {α : Type} {d : Dt α} {xs : List α} {c : C} {ws : List V} (h : OwnS c d.sz xs.length ws) (hl : d.L xs ws) : SoC d xs c:=by
 obtain ⟨h1,⟨h2,h3,rfl | rfl⟩ | ⟨s,rfl⟩⟩:=h
 ·exact .inl ⟨_,rfl,ws,by rw [h2,h3]; exact .nil _,hl⟩
 ·exact .inl ⟨_,rfl,ws,by rw [h2,h3]; exact .fz (by simp) _,hl⟩
 ·exact .inr ⟨s,ws,rfl,hl⟩
def cellV (l : Loc) (o : Nat) (c : C) : V:=(toV l o c).getD udf
section
variable {α : Type} {h : H} {l : Loc} {off j : Nat} {cs : List C} {c : C} {d : Dt α} {xs : List α}
theorem SoC.ld (hc : SoC d xs c) (ha : AtC h l off cs) (hj : cs[j]? = some c) : ldO false 1 h (.ref l (off + j)) = some (cellV l (off + j) c):=by
 rcases hc with ⟨v,rfl,_⟩ | ⟨s,ws,rfl,_⟩
 ·exact ha.ldC hj rfl
 ·exact ha.ldC hj rfl
theorem SoC.sl (hc : SoC d xs c) (ha : AtC h l off cs) (hj : cs[j]? = some c) : SlH h d xs (cellV l (off + j) c):=by
 rcases hc with ⟨v,rfl,hv⟩ | ⟨s,ws,rfl,hl⟩
 ·exact hv.h h
 ·have hlen:=RL.length (fun h => d.len h) hl
  refine ⟨ws,.mk_sl (l:=l.hop (off + j) s) (ds:=ws.map .v) ?_ (by simp [hlen]) ?_ (Nat.le_refl _),hl⟩
  ·obtain ⟨p,q,hn,hp⟩:=ha.hop hj (s:=s) (ds:=ws.map .v) (by simp [C.node])
   have : p = []:=List.length_eq_zero_iff.1 hp
   subst this
   have hq:=ha.hop hj (s:=s) (ds:=ws.map .v) (by simp [C.node])
   obtain ⟨p,q,hn,hp⟩:=ha
   have hlt:=(List.getElem?_eq_some_iff.1 hj).1
   rw [nd_in hn (c:=.arr s xs.length d.sz (ws.map .v)) (ds:=ws.map .v)]
   ·rw [List.append_assoc,List.getElem?_append_right (by omega),show off + j - p.length = j by omega,List.getElem?_append_left hlt,hj]
   ·simp [C.node]
  ·rw [List.drop_zero,List.take_of_length_le (by simp [hlen]),toVs_plain]
end
section
variable {N : Nat} {h0 Hp : H} {B : List Rt} {Γ : List (Nat × Stamp × List C)} {Δ : List Gw}
theorem getElem_app {p cs q : List C} {off j : Nat} (hp : p.length = off) (hj : j < cs.length) : (p ++ cs ++ q)[off + j]? = cs[j]?:=by
 rw [List.append_assoc,List.getElem?_append_right (by omega),show off + j - p.length = j by omega,List.getElem?_append_left hj]
theorem at_killed {l : Loc} {off j : Nat} {cs : List C} {c : C} {s : Stamp} (ha : AtC Hp l off cs) (hj : cs[j]? = some c) (hc : (c.node s).isSome) : setAt Hp (l.hop (off + j) s) .dead = ptC Hp l off (cs.set j .dead):=by
 obtain ⟨p,q,hn,hp⟩:=ha
 have hlt:=(List.getElem?_eq_some_iff.1 hj).1
 have hcell : (p ++ cs ++ q)[off + j]? = some c:=by rw [getElem_app hp hlt,hj]
 rw [setAt_hop hn hcell,ptC_eq hn hp (by simp)]
 congr 1
 rw [List.append_assoc,List.set_append_right _ _ (by omega),List.set_append_left _ _ (by omega),← List.append_assoc]
 congr 3
 omega
structure Spot (N : Nat) (h0 : H) (Hp : H) (l : Loc) (off : Nat) (cs : List C) (T : List C→H→Prop) : Prop where
 at_ : AtC Hp l off cs
 put : ∀ cs',cs'.length = cs.length→T cs' (ptC Hp l off cs')
theorem app_cell {l : Loc} {off j d b e : Nat} {cs : List C} {c : C} {α : Type} {dt : Dt α} {xs ys zs : List α} {own : Bool} {σ : Stamp} {y : V}
  (ha : AtC Hp l off cs) (hj : cs[j]? = some c) (hc : SoC dt xs c) (hy : YsH Hp dt ys y) (hz : ap b xs ys = some zs) (hn : ys.length ≠ 0) (he : dt.sz = e) (hk : e ≠ 0) (hnt : ∀ v,c = .v v→v = .p (.slice none 0 0) ∨ v = .fz [] 0 e true) :
  ∃ ws s,dt.L zs ws∧∃ c',(c' = c ∨ c' = .dead)∧apO own e b σ d Hp (cellV l (off + j) c) y = some (.sl (newLoc Hp d s) 0 zs.length zs.length e,setSlot (ptC Hp l off (cs.set j c')) d [.arr s zs.length e (ws.map .v)]):=by
 subst he
 obtain ⟨⟨hb1,hb2⟩,rfl⟩:=ap_some hz
 obtain ⟨us,hu,hul⟩:=hy
 have hlt:=(List.getElem?_eq_some_iff.1 hj).1
 have same : ptC Hp l off (cs.set j c) = Hp:=by
  rw [show cs.set j c = cs from by rw [← (List.getElem?_eq_some_iff.1 hj).2]; exact List.set_getElem_self ..]
  exact ha.same
 have base : ∀ x,apO own dt.sz b σ d Hp x y = apTo dt.sz b σ d Hp ys.length (us.map .v) x:=fun x => by
  unfold apO
  rw [hu.len,hu.cells]
  simp only [Option.bind_some]
  rw [if_neg (by simp [hu.clen,hk]),if_neg hn,layCs_still own _ (RL.stills hul)]
  rfl
 rcases hc with ⟨v,rfl,hv⟩ | ⟨s,ws,rfl,hl⟩
 ·obtain ⟨vs,q1,q2⟩:=hv
  have hx0 : xs = []∧vs = []:=by
   rcases hnt v rfl with rfl | rfl
   ·have h1:=(q1 []).len
    simp only [lenOf,Option.some.injEq] at h1
    have h1 : xs = []:=List.length_eq_zero_iff.1 h1.symm
    subst h1
    exact ⟨rfl,by have:=(q1 []).clen; simpa using this⟩
   ·have h1:=(q1 []).len
    simp only [lenOf,Option.some.injEq] at h1
    have h1 : xs = []:=List.length_eq_zero_iff.1 h1.symm
    subst h1
    exact ⟨rfl,by have:=(q1 []).clen; simpa using this⟩
  obtain ⟨rfl,rfl⟩:=hx0
  refine ⟨us,σ,by simpa using hul,_,.inl rfl,?_⟩
  rw [base,same]
  rcases hnt v rfl with rfl | rfl
  ·simp only [cellV,toV,Option.getD_some,apTo]
   rw [if_pos ⟨by simpa using hb1,by simpa using hb2⟩]; simp
  ·simp only [cellV,toV,Option.getD_some,apTo]
   rw [if_pos ⟨trivial,trivial,by simp,by simpa using hb1,by simpa using hb2,by simp⟩]; simp
 ·refine ⟨ws ++ us,σ,hl.append hul,_,.inr rfl,?_⟩
  have hlen:=RL.length (fun h => dt.len h) hl
  have hnode : nd Hp (l.hop (off + j) s) = some (ws.map .v):=by
   obtain ⟨p,q,hn2,hp⟩:=ha
   exact nd_in hn2 (c:=.arr s xs.length dt.sz (ws.map .v)) (by rw [getElem_app hp hlt,hj]) (by simp [C.node])
  rw [base]
  simp only [cellV,toV,Option.getD_some,apTo]
  rw [if_neg (by simp),hnode]
  simp only [Option.bind_some]
  rw [if_neg (by omega),if_pos ⟨trivial,by simpa using hlen,hb1,hb2⟩,at_killed ha hj (by simp [C.node])]
  simp [newLoc,top,ptC_length]
theorem Fm.addArr (S : Fm N h0 B Γ Δ Hp) {α : Type} {dt : Dt α} {d e : Nat} {s : Stamp} {ws : List V} {xs : List α} (hl : dt.L xs ws) (he : dt.sz = e) (hd : d < N) (hf : (freeG Γ d && freeD Δ d) = true) :
  Fm N h0 B Γ (⟨[d],.sl ⟨h0.length,d,0,s,[]⟩ 0 xs.length xs.length e,dt,xs⟩::Δ) (setSlot Hp d [.arr s xs.length e (ws.map .v)]):=by
 subst he
 obtain ⟨L,rfl,h2,h3,h4,h5⟩:=S
 simp only [Bool.and_eq_true] at hf
 refine ⟨L.set d [.arr s xs.length dt.sz (ws.map .v)],rfl,by simpa using h2,h3,fun e he => ?_,fun g hg => ?_⟩
 ·rw [List.getElem?_set_ne (Ne.symm (freeG_ne hf.1 he))]; exact h4 e he
 ·rcases List.mem_cons.1 hg with rfl | hg
  ·exact ⟨ws,hl,.inr (.inl ⟨RL.length (fun h => dt.len h) hl,d,List.mem_singleton.2 rfl,s,[],rfl,by rw [List.getElem?_set_self (by omega)]⟩)⟩
  ·exact (h5 g hg).frame fun x hx => by rw [List.getElem?_set_ne (fun e => freeD_ne hf.2 hg (by rw [e]; exact hx))]
theorem Fm.appG (S : Fm N h0 B Γ Δ Hp) {i j d d0 b e : Nat} {s0 σ : Stamp} {cs : List C} {c : C} {α : Type} {dt : Dt α} {xs ys zs : List α} {own : Bool} {y : V}
  (hi : Γ[i]? = some (d0,s0,cs)) (hj : cs[j]? = some c) (hc : SoC dt xs c) (hnt : ∀ v,c = .v v→v = .p (.slice none 0 0) ∨ v = .fz [] 0 e true) (hy : YsH Hp dt ys y) (hz : ap b xs ys = some zs) (hn : ys.length ≠ 0) (he : dt.sz = e) (hk : e ≠ 0) (hd : d < N)
  (hf : (freeG (Γ.eraseIdx i) d0 && freeD Δ d0) = true) (hf2 : (freeG Γ d && freeD Δ d) = true) :
  ∃ v c' H',apO own e b σ d Hp (cellV ⟨h0.length,d0,0,s0,[]⟩ j c) y = some (v,H')∧Fm N h0 B (Γ.set i (d0,s0,cs.set j c')) (⟨[d],v,dt,zs⟩::Δ) H':=by
 obtain ⟨ws,s,hl,c',_,e1⟩:=app_cell (own:=own) (σ:=σ) (d:=d) (S.atG hi) hj hc hy hz hn he hk hnt
 rw [Nat.zero_add] at e1
 refine ⟨_,c',_,e1,?_⟩
 rw [S.newLoc]
 refine (S.setG (cs':=cs.set j c') hi hf (by simp)).addArr hl he hd ?_
 simp only [Bool.and_eq_true] at hf2 ⊢
 refine ⟨List.all_eq_true.2 fun x hx => ?_,hf2.2⟩
 rcases mem_set hx (List.getElem?_eq_some_iff.1 hi).1 with rfl | hx
 ·have:=List.all_eq_true.1 hf2.1 (d0,s0,cs) (List.mem_of_getElem? hi)
  simpa using this
 ·exact List.all_eq_true.1 hf2.1 _ (mem_erase hx)
theorem mv_cell {l : Loc} {off j k : Nat} {cs : List C} {g : Gw} {σ : Stamp} (S : Fm N h0 B Γ Δ Hp) (hk : Δ[k]? = some g) (hD : noLit g.D = true) (hf : freeL g.D Γ (Δ.eraseIdx k) = true) (hloc : ∀ d ∈ g.D,∀ s,l.key ≠ (⟨h0.length,d,0,s,[]⟩ : Loc).key) (ha : AtC Hp l off cs) (hj : j < cs.length) :
  ∃ c ws H1,layC true Hp g.v = some (c,H1)∧stO true 1 σ Hp (.ref l (off + j)) g.v = some (ptC H1 l off (cs.set j c))∧OwnS c g.d.sz g.xs.length ws∧g.d.L g.xs ws∧AtC H1 l off cs∧Fm N h0 B Γ (Δ.eraseIdx k) H1:=by
 have S' : Fm N h0 B Γ (Δ.eraseIdx k) Hp:=S.wk (fun _ h => h) (fun _ h => mem_erase h)
 obtain ⟨L,rfl,h2,h3,h4,h5⟩:=S
 obtain ⟨ws,q1,q2⟩:=h5 g (List.mem_of_getElem? hk)
 have key : ∀ (v : V) (c : C) (H1 : H),v.cells = [v]→(∀ s n e ds,sameArr l (off + j) (some (.arr s n e ds)) v = false)→layC true (L::pts h0 B) v = some (c,H1)→AtC H1 l off cs→stO true 1 σ (L::pts h0 B) (.ref l (off + j)) v = some (ptC H1 l off (cs.set j c)):=fun v c H1 hv hs hl ha1 => by
  obtain ⟨p,q,hn,hp⟩:=ha
  obtain ⟨p1,q1',hn1,hp1⟩:=ha1
  have hsm : sameArr l (off + j) (p ++ cs ++ q)[off + j]? v = false:=by
   cases hx : (p ++ cs ++ q)[off + j]? with
   | none => rfl
   | some x =>
    cases x with
    | arr s n e ds => exact hs s n e ds
    | _ => rfl
  unfold stO
  simp only [hv,hn,hsm,Option.bind_some,layCs,hl]
  simp only [List.length_cons,List.length_nil,Bool.not_true,Bool.false_or,Nat.zero_add,bne_self_eq_false,Bool.false_eq_true,if_false,hn1,Option.bind_some]
  rw [if_pos (by simp; omega),set_take_drop _ _ _ (by simp; omega),ptC_eq hn1 hp1 (by simp)]
  congr 2
  rw [List.append_assoc,List.set_append_right _ _ (by omega),List.set_append_left _ _ (by omega),← List.append_assoc]
  congr 3
  omega
 rcases q2 with ⟨e1,e2,e3⟩ | ⟨q2,d',hd',s,tl,hv,h6⟩ | ⟨_,_,_,hd⟩
 ·refine ⟨.v g.v,ws,_,?_,key _ _ _ ?_ ?_ ?_ ha,⟨by rw [e1,e2]; simp,.inl ⟨e1,e2,?_⟩⟩,q1,ha,S'⟩
  all_goals rcases e3 with e | e <;> rw [e]
  all_goals first
   | rfl
   | (intro s n e' ds; rfl)
   | (exact .inl rfl)
   | (exact .inr rfl)
 ·have hr : rootC (L::pts h0 B) ⟨h0.length,d',0,s,[]⟩ = some (.arr s g.xs.length g.d.sz (ws.map .v)):=by simp [rootC,pts_length,h6]
  have hs : setRoot (L::pts h0 B) ⟨h0.length,d',0,s,[]⟩ .dead = L.set d' (.dead::tl)::pts h0 B:=by simp [setRoot,pts_length,h6]
  have hlay : layC true (L::pts h0 B) g.v = some (.arr s g.xs.length g.d.sz (ws.map .v),L.set d' (.dead::tl)::pts h0 B):=by
   rw [hv]; simp [layC,pts_length,hr,hs]
  have ha1 : AtC (L.set d' (.dead::tl)::pts h0 B) l off cs:=by
   obtain ⟨p,q,hn,hp⟩:=ha
   refine ⟨p,q,?_,hp⟩
   rw [← hs]
   have : (⟨h0.length,d',0,s,[]⟩ : Loc).key ≠ l.key:=Ne.symm (hloc d' hd' s)
   have e:=root_setRoot_ne (h:=L::pts h0 B) (l:=⟨h0.length,d',0,s,[]⟩) (l':=l) (c:=.dead) this
   rw [← hn]
   simp only [nd,at_,e]
  refine ⟨_,ws,_,hlay,key _ _ _ (by rw [hv]; rfl) ?_ hlay ha1,⟨q2,.inr ⟨s,rfl⟩⟩,q1,ha1,dead_ok S' (mem_one hf hd') (.dead::tl)⟩
  intro s' n' e' ds
  rw [hv]
  simp [sameArr,Loc.hop]
 ·exact (noLit_no hD hd).elim
theorem Fm.mvG (S : Fm N h0 B Γ Δ Hp) {i j k d0 : Nat} {s0 σ : Stamp} {cs : List C} {g : Gw} (hk : Δ[k]? = some g) (hD : noLit g.D = true) (hf : freeL g.D Γ (Δ.eraseIdx k) = true) (hi : Γ[i]? = some (d0,s0,cs)) (hf0 : (freeG (Γ.eraseIdx i) d0 && freeD (Δ.eraseIdx k) d0) = true) (hj : (cs[j]?).isSome = true) :
  ∃ c H',stO true 1 σ Hp (.ref ⟨h0.length,d0,0,s0,[]⟩ j) g.v = some H'∧SoC g.d g.xs c∧(∀ v,c = .v v→v = .p (.slice none 0 0) ∨ v = .fz [] 0 g.d.sz true)∧Fm N h0 B (Γ.set i (d0,s0,cs.set j c)) (Δ.eraseIdx k) H':=by
 have hlt : j < cs.length:=by
  obtain ⟨y,hy⟩:=Option.isSome_iff_exists.1 hj
  exact (List.getElem?_eq_some_iff.1 hy).1
 obtain ⟨c,ws,H1,_,e1,o1,o2,a1,S1⟩:=mv_cell (σ:=σ) S hk hD hf (fun d hd s he => by
  have:=mem_one hf hd
  simp only [Bool.and_eq_true] at this
  have:=freeG_ne this.1 (List.mem_of_getElem? hi)
  simp only [Loc.key,Prod.mk.injEq] at he
  exact this he.2.1) (S.atG hi) hlt
 rw [Nat.zero_add] at e1
 refine ⟨c,_,e1,SoC.own o1 o2,fun v hv => ?_,S1.setG hi hf0 (by simp)⟩
 obtain ⟨_,⟨_,_,h | h⟩ | ⟨s,h⟩⟩:=o1 <;> rw [hv] at h <;> cases h <;> simp
theorem Fm.mvB (S : Fm N h0 B Γ Δ Hp) {i j k off : Nat} {l : Loc} {σ : Stamp} {cs : List C} {g : Gw} (hk : Δ[k]? = some g) (hD : noLit g.D = true) (hf : freeL g.D Γ (Δ.eraseIdx k) = true) (hi : B[i]? = some ⟨l,off,cs⟩) (hj : (cs[j]?).isSome = true) :
  ∃ c H',stO true 1 σ Hp (.ref l (off + j)) g.v = some H'∧SoC g.d g.xs c∧(∀ v,c = .v v→v = .p (.slice none 0 0) ∨ v = .fz [] 0 g.d.sz true)∧Fm N h0 (B.set i ⟨l,off,cs.set j c⟩) Γ (Δ.eraseIdx k) H':=by
 have hlt : j < cs.length:=by
  obtain ⟨y,hy⟩:=Option.isSome_iff_exists.1 hj
  exact (List.getElem?_eq_some_iff.1 hy).1
 have hlow : l.lvl < h0.length:=by
  obtain ⟨L,rfl,h2,h3,h4,h5⟩:=S
  have:=(h3.at hi).lt
  rwa [pts_length] at this
 obtain ⟨c,ws,H1,_,e1,o1,o2,a1,S1⟩:=mv_cell (σ:=σ) S hk hD hf (fun d hd s he => by
  simp only [Loc.key,Prod.mk.injEq] at he
  omega) (S.atB hi) hlt
 refine ⟨c,_,e1,SoC.own o1 o2,fun v hv => ?_,S1.setB hi (by simp)⟩
 obtain ⟨_,⟨_,_,h | h⟩ | ⟨s,h⟩⟩:=o1 <;> rw [hv] at h <;> cases h <;> simp
end
end Go.Ev
namespace Go.Ev
def FrC (c : C) (y : V) : Prop:=(c = .v y∧Still y) ∨ ∃ s n k ws,c = .arr s n k (ws.map .v)∧ws.length = n * k∧y = .fz ws n k false
def FrCs : List C→List V→Prop
 | [],[] => True
 | c::cs,y::ys => FrC c y∧FrCs cs ys
 | _,_ => False
theorem FrC.v {x : V} (h : Still x) : FrC (.v x) x:=.inl ⟨rfl,h⟩
theorem SoC.fr {α : Type} {d : Dt α} {xs : List α} {c : C} (h : SoC d xs c) : ∃ y,FrC c y∧SlF d xs y:=by
 rcases h with ⟨v,rfl,hv⟩ | ⟨s,ws,rfl,hl⟩
 ·exact ⟨v,.inl ⟨rfl,hv.still⟩,hv⟩
 ·have hlen:=RL.length (fun h => d.len h) hl
  exact ⟨_,.inr ⟨s,_,_,ws,rfl,hlen,rfl⟩,ws,.fz hlen _,hl⟩
theorem FrC.still {c : C} {y : V} (h : FrC c y) : Still y:=by
 rcases h with ⟨_,h⟩ | ⟨s,n,k,ws,_,_,rfl⟩
 ·exact h
 ·exact still_fz ..
theorem FrCs.len : ∀ {cs : List C} {ys : List V},FrCs cs ys→ys.length = cs.length
 | [],[],_ => rfl
 | c::cs,y::ys,⟨_,h⟩ => by simp [FrCs.len h]
 | [],_::_,h => by cases h
 | _::_,[],h => by cases h
theorem FrCs.stills : ∀ {cs : List C} {ys : List V},FrCs cs ys→Stills ys
 | [],[],_ => sN
 | c::cs,y::ys,⟨h1,h⟩ => sC h1.still (FrCs.stills h)
 | [],_::_,h => by cases h
 | _::_,[],h => by cases h
theorem lay_fr {H : Ev.H} {l : Loc} {pre post : List C} {c : C} {y : V} (hl : l.lvl = top H) (ha : AtC H l 0 (pre ++ c::post)) (hf : FrC c y) : ∃ x,toV l pre.length c = some x∧layC false H x = some (.v y,ptC H l 0 (pre ++ .v y::post)):=by
 have hj : (pre ++ c::post)[pre.length]? = some c:=by simp
 rcases hf with ⟨rfl,hs⟩ | ⟨s,n,k,ws,rfl,hlen,rfl⟩
 ·exact ⟨y,rfl,by rw [ha.same]; exact hs.lay false H⟩
 ·refine ⟨_,rfl,?_⟩
  have h1 : (l.hop pre.length s).lvl = top H:=hl
  have ha0:=ha
  obtain ⟨p,q,hn,hp⟩:=ha
  have hp0 : p = []:=List.length_eq_zero_iff.1 hp
  subst hp0
  rw [List.nil_append] at hn
  have hcell : ((pre ++ C.arr s n k (ws.map C.v)::post) ++ q)[pre.length]? = some (.arr s n k (ws.map .v)):=by simp
  have h2 : at_ H (l.hop pre.length s) = some (.arr s n k (ws.map .v)):=by rw [at_hop,hn]; simp [C.node]
  have h3 : rng ws 0 (n * k) = some ws:=by unfold rng; rw [if_pos (by omega)]; simp [← hlen]
  simp only [layC,h1,h2,Bool.false_eq_true,if_false,if_true,hop_last,true_and,List.length_map,hlen,plainCells_map,Option.bind_some,h3]
  rw [if_neg (by simp [Loc.hop]),setAt_hop hn hcell,ptC_eq (off:=0) (p:=[]) (q:=q) (cs:=pre ++ C.arr s n k (ws.map C.v)::post) hn rfl (by simp)]
  simp
theorem top_pt {H : Ev.H} (l : Loc) (off : Nat) (cs : List C) : top (ptC H l off cs) = top H:=by simp [top,ptC_length]
theorem frz_all {l : Loc} : ∀ {cs : List C} {ys : List V} {H : Ev.H} {pre : List C},l.lvl = top H→AtC H l 0 (pre ++ cs)→FrCs cs ys →
  ∃ xs,toVs l pre.length cs = some xs∧frzCs H xs = some (ys,ptC H l 0 (pre ++ ys.map .v))∧layCs false H xs = some (ys.map .v,ptC H l 0 (pre ++ ys.map .v))
 | [],[],H,pre,hl,ha,_ => ⟨[],rfl,by rw [show pre ++ [].map C.v = pre ++ [] from rfl,ha.same]; rfl,by rw [show pre ++ [].map C.v = pre ++ [] from rfl,ha.same]; rfl⟩
 | c::cs,y::ys,H,pre,hl,ha,⟨h1,h2⟩ => by
  obtain ⟨x,e1,e2⟩:=lay_fr hl ha h1
  have ha2 : AtC (ptC H l 0 (pre ++ .v y::cs)) l 0 ((pre ++ [.v y]) ++ cs):=by
   have:=ha.put (cs':=pre ++ .v y::cs) (by simp)
   simpa using this
  obtain ⟨xs,q1,q2,q3⟩:=frz_all (pre:=pre ++ [.v y]) (by rw [top_pt]; exact hl) ha2 h2
  have hp : ptC (ptC H l 0 (pre ++ .v y::cs)) l 0 (pre ++ [C.v y] ++ ys.map .v) = ptC H l 0 (pre ++ (y::ys).map .v):=by
   rw [ha.put_put (by simp) (by have:=h2.len; simp; omega)]
   simp
  refine ⟨x::xs,?_,?_,?_⟩
  ·simp only [List.length_append,List.length_cons,List.length_nil] at q1
   simp only [toVs,e1,Option.bind_some,q1]
  ·simp only [frzCs,e2,Option.bind_some,q2,Option.map_some]
   rw [hp]
  ·simp only [layCs,e2,Option.bind_some,q3]
   rw [hp]; rfl
 | [],_::_,_,_,_,_,h => by cases h
 | _::_,[],_,_,_,_,h => by cases h
section
variable {N : Nat} {h0 Hp : H} {B : List Rt} {Γ : List (Nat × Stamp × List C)} {Δ : List Gw}
theorem Fm.frzV (S : Fm N h0 B Γ Δ Hp) {i d n : Nat} {s : Stamp} {cs : List C} {ys : List V} (hi : Γ[i]? = some (d,s,cs)) (hf : (freeG (Γ.eraseIdx i) d && freeD Δ d) = true) (hy : FrCs cs ys) (hn : ys.length = n) (_ : 0 < n) :
  ∃ xs H',xs.length = ys.length∧ldO true n Hp (.ref ⟨h0.length,d,0,s,[]⟩ 0) = some (.agg xs)∧(∀ frz τ,expF frz τ Hp (.agg xs) = some (.v (.agg ys),H'))∧layCs false Hp xs = some (ys.map .v,H')∧Fm N h0 B (Γ.set i (d,s,ys.map .v)) Δ H':=by
 have ha:=S.atG hi
 have hl : (⟨h0.length,d,0,s,[]⟩ : Loc).lvl = top Hp:=by simp [top,S.len]
 have hlen:=hy.len
 obtain ⟨xs,e1,e2,e3⟩:=frz_all (pre:=[]) hl (by simpa using ha) hy
 refine ⟨xs,_,by rw [toVs_length e1,hlen],?_,?_,e3,by simpa using S.setG (cs':=ys.map .v) hi hf (by simp [hlen])⟩
 ·have:=ha.ldAgg (j:=0) (n:=n) (agg:=true) (xs:=xs) (by omega) (by rw [List.drop_zero,List.take_of_length_le (by omega)]; exact e1)
  simpa [mkV] using this
 ·intro frz τ
  cases frz <;> simp [expF,expC,e2]
end
end Go.Ev
namespace Go.Ev
theorem GrowS.to {D : List Nat} {L : Layer} {h : H} {v : V} {k n : Nat} {xs : List V} (ha : GrowS D L h.length v k n xs) {b d m : Nat} {σ : Stamp} {ys : List V} (hd : d < L.length) (hm : m ≠ 0) (hcl : ys.length = m * k) (hb : (n + m) * b ≤ 2 ^ 47) (hb2 : n + m < 2 ^ 61) :
  ∃ v' L',apTo k b σ d (L::h) m (ys.map .v) v = some (v',L'::h)∧GrowS (d::D) L' h.length v' k (n + m) (xs ++ ys)∧L'.length = L.length∧∀ j,j ∉ d::D→L'[j]? = L[j]?:=by
 rcases ha with ⟨rfl,rfl,rfl | rfl⟩ | ⟨h2,d',hd',s,tl,rfl,h3⟩ | ⟨rfl,h2,h3,_⟩
 ·refine ⟨_,L.set d [.arr σ m k (ys.map .v)],?_,.inr (.inl ⟨by simpa using hcl,d,List.mem_cons_self ..,σ,[],by rw [Nat.zero_add],by simp [hd]⟩),by simp,fun j hj => ?_⟩
  ·rw [apTo,if_pos ⟨by simpa using hb,by simpa using hb2⟩]; simp
  ·rw [List.getElem?_set_ne (fun e => hj (by rw [← e]; exact List.mem_cons_self ..))]
 ·refine ⟨_,L.set d [.arr σ (0 + m) k (ys.map .v)],?_,.inr (.inl ⟨by simpa using hcl,d,List.mem_cons_self ..,σ,[],rfl,by simp [hd]⟩),by simp,fun j hj => ?_⟩
  ·rw [apTo,if_pos ⟨rfl,rfl,by simp,by simpa using hb,by simpa using hb2,by simp⟩]; simp
  ·rw [List.getElem?_set_ne (fun e => hj (by rw [← e]; exact List.mem_cons_self ..))]
 ·refine ⟨_,(L.set d' (.dead::tl)).set d [.arr σ (n + m) k (xs.map .v ++ ys.map .v)],?_,.inr (.inl ⟨by rw [List.length_append,h2,hcl,Nat.add_mul],d,List.mem_cons_self ..,σ,[],rfl,by simp [hd]⟩),by simp,fun j hj => ?_⟩
  ·rw [apTo,if_neg (by simp),nd_arr h3]
   simp only [Option.bind_some]
   rw [if_neg (by omega),if_pos ⟨trivial,by simpa using h2,hb,hb2⟩,setAt_root h3]
   simp
  ·rw [List.getElem?_set_ne (fun e => hj (by rw [← e]; exact List.mem_cons_self ..)),List.getElem?_set_ne (fun e => hj (by rw [← e]; exact List.mem_cons_of_mem _ hd'))]
 ·refine ⟨_,L.set d [.arr σ (n + m) k (xs.map .v ++ ys.map .v)],?_,.inr (.inl ⟨by rw [List.length_append,h2,hcl,Nat.add_mul],d,List.mem_cons_self ..,σ,[],rfl,by simp [hd]⟩),by simp,fun j hj => ?_⟩
  ·rw [apTo,if_pos ⟨rfl,rfl,h2,hb,hb2,Still.leafs h3⟩]; simp
  ·rw [List.getElem?_set_ne (fun e => hj (by rw [← e]; exact List.mem_cons_self ..))]
section
variable {N : Nat} {h0 Hp : H} {B : List Rt} {Γ : List (Nat × Stamp × List C)} {Δ : List Gw}
theorem bldS1 {P : Program} {t te e : Nat} {xs : List V} {z : List V} (h1 : telem P t = some te) (h2 : tzero P te = some z) (h3 : (z.length = e∧tsize P te = e∧e ≠ 0∧e ≤ 2 ^ 24)∧True) (hx : xs.length = e) : bSV P t 1 [(0,.agg xs)] = some (.fz xs 1 e true):=by
 obtain ⟨⟨a1,a2,a3,a4⟩,_⟩:=h3
 unfold bSV
 simp only [h1,h2,Option.bind_some,a1,a2,fillV,Nat.zero_mul]
 have hr : rept 1 z = z:=by simp [rept]
 rw [if_neg (by simp; omega),hr]
 simp only [V.cells,hx,a1,ne_eq,not_true_eq_false,false_or,Nat.zero_add]
 rw [if_neg (by omega)]
 simp [← a1]
theorem Fm.appFrz {H : Ev.H} (S : Fm N h0 B Γ Δ Hp) {i d b e : Nat} {g : Gw} {σ : Stamp} {t : Bool} {x : g.α} {ws xs : List V} {zs : List g.α} (hl : layCs false H xs = some (ws.map .v,Hp)) (hi : Δ[i]? = some g) (hx : g.d.R x ws) (hlen : xs.length = ws.length) (hz : ap b g.xs [x] = some zs) (he : g.d.sz = e) (hk : e ≠ 0) (hd : d < N) (hf : freeL (d::g.D) Γ (Δ.eraseIdx i) = true) :
  ∃ v H',apO false e b σ d H g.v (.fz xs 1 e t) = some (v,H')∧Fm N h0 B Γ (Δ.set i ⟨d::g.D,v,g.d,zs⟩) H':=by
 subst he
 obtain ⟨⟨hb1,hb2⟩,rfl⟩:=ap_some hz
 obtain ⟨L,rfl,h2,h3,h4,h5⟩:=S
 obtain ⟨cs,q1,q2⟩:=h5 g (List.mem_of_getElem? hi)
 rw [← pts_length B] at q2
 have hlt:=(List.getElem?_eq_some_iff.1 hi).1
 have hw:=g.d.len hx
 obtain ⟨v',L',e1,e2,e3,e4⟩:=q2.to (b:=b) (σ:=σ) (d:=d) (m:=1) (ys:=ws) (by omega) (by omega) (by omega) hb1 hb2
 have hfr:=List.all_eq_true.1 hf
 refine ⟨v',_,?_,L',rfl,by omega,h3,fun e he => ?_,fun g' hg' => ?_⟩
 ·unfold apO
  simp only [lenOf,cellsOf,Option.bind_some]
  rw [if_neg (by simp [hlen,hw,hk]),if_neg (by simp),hl]
  exact e1
 ·rw [e4 _ fun hm => ?_]
  ·exact h4 e he
  ·have:=hfr _ hm
   simp only [Bool.and_eq_true] at this
   exact freeG_ne this.1 he rfl
 ·rcases mem_set hg' hlt with rfl | hg'
  ·refine ⟨cs ++ ws,q1.append (RL.one hx),?_⟩
   rw [← pts_length B,List.length_append]
   exact e2
  ·exact (h5 g' (mem_erase hg')).frame fun x hx => e4 x fun hm => by
    have:=hfr _ hm
    simp only [Bool.and_eq_true] at this
    exact freeD_ne this.2 hg' hx
end
end Go.Ev
namespace Go.Ev
section
variable {N : Nat} {h0 Hp : H} {B : List Rt} {Γ : List (Nat × Stamp × List C)} {Δ : List Gw}
end
end Go.Ev
namespace Go.Ev
def andL : List Bool→Option Bool
 | [] => some true
 | b::bs => (some b).bind fun r => if r = true then andL bs else some false
def andB : List Bool→Bool
 | [] => true
 | b::bs => b && andB bs
theorem andL_ok : ∀ bs : List Bool,andL bs = some (andB bs)
 | [] => rfl
 | b::bs => by cases b <;> simp [andL,andB,andL_ok bs]
theorem eqS_v {P : Program} {h : H} {t : TypeId} {xs ys : List V} {b : Bool} (hb : flatE P t xs ys = some b) : eqlV P h t (.agg xs) (.agg ys) = some b:=by
 have hb0:=hb
 unfold flatE at hb
 split at hb
 ·rename_i fs hu
  simp only [eqlV,hu,hb0]
 ·rename_i n e hu
  simp only [eqlV,hu,hb0]
 ·cases hb
theorem eqS_ok {P : Program} {h : H} {t : TypeId} {xs ys : List V} {bs : List Bool} (hb : flatE P t xs ys = andL bs) : binV P h .eql t (.agg xs) (.agg ys) = some (.p (.bool (andB bs))):=by
 show (eqlV P h t (.agg xs) (.agg ys)).map _ = _
 rw [eqS_v (hb.trans (andL_ok bs))]; rfl
end Go.Ev
namespace Go.Ev
section
variable {N : Nat} {h0 Hp : H} {B : List Rt} {Γ : List (Nat × Stamp × List C)} {Δ : List Gw}
theorem Fm.cellsD (S : Fm N h0 B Γ Δ Hp) {i : Nat} {g : Gw} (hi : Δ[i]? = some g) : g.v.cells = [g.v]:=by
 obtain ⟨L,rfl,h2,h3,h4,h5⟩:=S
 obtain ⟨cs,q1,q2⟩:=h5 g (List.mem_of_getElem? hi)
 rcases q2 with ⟨e1,e2,e3⟩ | ⟨q2,d',hd',s,tl,hv,h6⟩ | ⟨hv,q2,_⟩
 ·rcases e3 with e | e <;> rw [e] <;> rfl
 ·rw [hv]; rfl
 ·rw [hv]; rfl
end
end Go.Ev
namespace Go.Ev
theorem range_getD {α : Type} (d : α) : ∀ (xs : List α),(List.range xs.length).map (fun i => xs.getD i d) = xs:=fun xs => by
 apply List.ext_getElem
 ·simp
 ·intro i h1 h2; simp [List.getElem?_eq_getElem h2]
theorem dA_int {n : Nat} {k : IntKind} {xs : List Int} {us : List V} (h : (dA n (dI k)).R xs us) : us = (List.range n).map fun i => .p (.int k (xs.getD i 0)):=by
 obtain ⟨hn,hl⟩:=h
 have e:=RL.ints hl
 subst hn
 rw [e]
 conv => lhs; rw [← range_getD 0 xs]
 rw [List.map_map]; rfl
theorem map_lit {α β : Type} {n : Nat} {xs : List α} (h : xs.length = n) (d : α) (f : α→β) : xs.map f = (List.range n).map fun i => f (xs.getD i d):=by
 subst h
 conv => lhs; rw [← range_getD d xs]
 rw [List.map_map]; rfl
theorem iA_ok {α : Type} {xs : List α} {n e : Nat} {l : Loc} {o : Nat} {i : Int} {x : α} (hx : ix xs i = some x) (hn : xs.length = n) : iA n e (.ref l o) i = some (.ref l (o + i.toNat * e)):=by
 obtain ⟨h0,hi,_⟩:=ix_some hx
 unfold iA
 simp only
 rw [if_pos ⟨h0,by omega⟩]
theorem iAV_ok {α : Type} {xs : List α} {ws : List V} {f : α→V} {n : Nat} {i : Int} {x : α} (hx : ix xs i = some x) (hw : ws = xs.map f) (hn : xs.length = n) : iAV n 1 false 1 (.agg ws) i = some (f x):=by
 obtain ⟨h0,hi,rfl⟩:=ix_some hx
 subst hw
 unfold iAV
 simp only
 rw [if_pos ⟨h0,by omega⟩]
 unfold Ev.rng
 rw [if_pos (by simp; omega),Nat.mul_one,Option.bind_some,List.drop_eq_getElem_cons (by simpa using hi)]
 simp [mkV]
section
variable {h : H} {l : Loc} {off j n : Nat} {cs : List C} {α : Type} {xs : List α} {f : α→V}
theorem AtC.ldIx (ha : AtC h l off cs) (hs : (cs.drop j).take n = xs.map fun z => .v (f z)) {i : Int} {x : α} (hx : ix xs i = some x) (hn : xs.length = n) : ldO false 1 h (.ref l (off + j + i.toNat * 1)) = some (f x):=by
 obtain ⟨h0,hi,rfl⟩:=ix_some hx
 rw [Nat.mul_one,Nat.add_assoc]
 refine ha.ld ?_
 have:=congrArg (·[i.toNat]?) hs
 simp only [List.getElem?_take_of_lt (show i.toNat < n by omega),List.getElem?_drop,List.getElem?_map,List.getElem?_eq_getElem hi,Option.map_some] at this
 exact this
theorem take_set {α : Type} {cs : List α} {j n i : Nat} {x : α} (hi : i < n) (hl : j + n ≤ cs.length) : cs.set (j + i) x = cs.take j ++ ((cs.drop j).take n).set i x ++ cs.drop (j + n):=by
 have e : cs = cs.take j ++ (cs.drop j).take n ++ cs.drop (j + n):=by
  rw [List.append_assoc,← List.drop_drop,List.take_append_drop,List.take_append_drop]
 conv => lhs; rw [e]
 rw [List.append_assoc,List.set_append_right _ _ (by simp; omega),List.set_append_left _ _ (by simp; omega),← List.append_assoc]
 congr 3
 simp; omega
theorem slA_ok (ha : AtC h l off cs) (hs : (cs.drop j).take n = xs.map fun z => .v (f z)) {d : Dt α} (hd : d.L xs (xs.map f)) (hn : xs.length = n) (hp : 0 < n) (h1 : d.sz = 1) : slA n 1 h (.ref l (off + j)) none none none = some (.sl l (off + j) n n 1)∧SlH h d xs (.sl l (off + j) n n 1):=by
 have hlen : j + n ≤ cs.length:=by
  have:=congrArg List.length hs
  simp only [List.length_take,List.length_drop,List.length_map] at this
  omega
 obtain ⟨all,e1,e2⟩:=ha.rng hlen
 have hall:=(rng_some e2).1
 constructor
 ·simp only [slA,e1,Option.bind_some,Nat.mul_one]
  rw [if_neg (by omega)]
  simp [bI]
  omega
 ·refine ⟨xs.map f,?_,hd⟩
  rw [h1,hn]
  unfold Ev.rng at e2
  rw [if_pos hall] at e2
  refine .mk_sl e1 (by omega) ?_ (Nat.le_refl _)
  rw [Nat.mul_one,Option.some.inj e2,hs]
  have:=toVs_plain l (off + j) (xs.map f)
  rw [List.map_map] at this
  exact this
end
section
variable {N : Nat} {h0 Hp : H} {B : List Rt} {Γ : List (Nat × Stamp × List C)} {Δ : List Gw}
theorem Fm.stIxG (S : Fm N h0 B Γ Δ Hp) {i d j n : Nat} {s σ : Stamp} {own : Bool} {cs : List C} {α : Type} {xs zs : List α} {f : α→V} {q : Int} {y : α} (hi : Γ[i]? = some (d,s,cs)) (hf : (freeG (Γ.eraseIdx i) d && freeD Δ d) = true) (hst : ∀ a,Still (f a))
  (hs : (cs.drop j).take n = xs.map fun z => .v (f z)) (hz : stx xs q y = some zs) (hn : xs.length = n) (dflt : α) :
  ∃ H',stO own 1 σ Hp (.ref ⟨h0.length,d,0,s,[]⟩ (j + q.toNat * 1)) (f y) = some H'∧Fm N h0 B (Γ.set i (d,s,cs.take j ++ (List.range n).map (fun i => .v (f (zs.getD i dflt))) ++ cs.drop (j + n))) Δ H':=by
 obtain ⟨⟨q0,q1⟩,rfl⟩:=stx_some hz
 have hlen : j + n ≤ cs.length:=by
  have:=congrArg List.length hs
  simp only [List.length_take,List.length_drop,List.length_map] at this
  by_cases h0 : n = 0
  ·subst h0; omega
  ·omega
 have e:=(S.atG hi).st (own:=own) (σ:=σ) (hst y) (j:=j + q.toNat) (by omega)
 rw [Nat.zero_add] at e
 rw [Nat.mul_one]
 refine ⟨_,e,?_⟩
 have:=S.setG (cs':=cs.set (j + q.toNat) (.v (f y))) hi hf (by simp)
 rw [take_set (n:=n) (by omega) hlen,hs] at this
 rw [take_set (n:=n) (by omega) hlen,hs]
 have e2 : (xs.map fun z => C.v (f z)).set q.toNat (.v (f y)) = (List.range n).map (fun i => .v (f ((xs.set q.toNat y).getD i dflt))):=by
  rw [← map_lit (xs:=xs.set q.toNat y) (by simp [hn]) dflt (fun z => C.v (f z)),List.map_set]
 rw [e2] at this ⊢
 exact this
end
end Go.Ev
namespace Go.Ev
theorem rl_val {t : DT} {α : Type} {d : Dt α} (f : t.D→α) (hc : ∀ x,d.R (f x) (t.cells x)) : ∀ l : List t.D,d.L (l.map f) (l.flatMap t.cells)
 | [] => RL.nil
 | x::l => by
  rw [List.map_cons,List.flatMap_cons]
  exact RL.cons (hc x) (rl_val f hc l)
theorem slF_val {b : Nat} {t : DT} {α : Type} {d : Dt α} (f : t.D→α) (hc : ∀ x,d.R (f x) (t.cells x)) (hz : d.sz = t.size) (x : Option (List t.D)) : SlF d ((x.getD []).map f) ((DT.slice b t).val x):=by
 refine ⟨(x.getD []).flatMap t.cells,?_,rl_val f hc _⟩
 rw [hz,List.length_map]
 exact fun h => isSl_val x h
theorem slF_ints {b : Nat} {k : IntKind} (x : Option (List Int)) : SlF (dI k) (x.getD []) ((DT.slice b (.int k)).val x):=by
 have:=slF_val (b:=b) (t:=.int k) (d:=dI k) (fun x => x) (fun x => rfl) rfl x
 rwa [List.map_id'] at this
def StN (x : V) (nv : List V) : Prop:=∀ (own : Bool) (σ : Stamp) (h : H) (l : Loc) (cs : List C) (o : Nat),nd h l = some cs→o + nv.length ≤ cs.length→stO own nv.length σ h (.ref l o) x = some (setNd h l (cs.take o ++ nv.map .v ++ cs.drop (o + nv.length)))
theorem stN_one {x : V} (hx : Still x) : StN x [x]:=fun _ _ _ _ _ _ hn ho => by
 simp only [List.length_cons,List.length_nil,Nat.zero_add] at ho ⊢
 rw [stO_still hx hn (by omega)]
 congr 2
 rw [List.map_cons,List.map_nil,set_take_drop _ _ _ (by omega)]
end Go.Ev
namespace Go.Ev
theorem ap_eq {α : Type} {b : Nat} {xs ys : List α} (hb : b ≤ 64) (h : xs.length + ys.length < 2 ^ 40) : ap b xs ys = some (xs ++ ys):=by
 unfold ap
 refine if_pos ⟨?_,by omega⟩
 have : (xs.length + ys.length) * b ≤ (xs.length + ys.length) * 64:=Nat.mul_le_mul_left _ hb
 omega
theorem clone_eq {α : Type} {b : Nat} {xs : List α} (hb : b ≤ 64) (h : xs.length < 2 ^ 40) : p_clone b xs = some xs:=by
 unfold p_clone; rw [ap_eq hb (by simpa using h)]; rfl
theorem wrap_i64 {n : Int} (h1 : -9223372036854775808 ≤ n) (h2 : n < 9223372036854775808) : IntKind.wrap .i64 n = n:=wrap64 h1 h2
end Go.Ev
namespace Go.Ev
def OwnA {α : Type} (D : List Nat) (h : H) (dt : Dt α) (xs : List α) (v : V) : Prop:=∃ cs L h1,h = L::h1∧dt.L xs cs∧GrowS D L h1.length v dt.sz xs.length cs
def KillA (D : List Nat) (h h' : H) : Prop:=∃ L L' h1,h = L::h1∧h' = L'::h1∧L'.length = L.length∧∀ j,j ∉ D→L'[j]? = L[j]?
theorem OwnA.h {α : Type} {D : List Nat} {h : H} {dt : Dt α} {xs : List α} {v : V} (ho : OwnA D h dt xs v) : SlH h dt xs v:=by
 obtain ⟨cs,L,h1,rfl,hl,hg⟩:=ho
 exact ⟨cs,hg.sl,hl⟩
theorem OwnA.refl {α : Type} {D : List Nat} {h : H} {dt : Dt α} {xs : List α} {v : V} (ho : OwnA D h dt xs v) : KillA D h h:=by
 obtain ⟨cs,L,h1,rfl,_,_⟩:=ho
 exact ⟨L,L,h1,rfl,rfl,rfl,fun _ _ => rfl⟩
theorem GrowS.copy {D : List Nat} {L : Layer} {h : H} {v : V} {k n : Nat} {xs : List V} (ha : GrowS D L h.length v k n xs) (hD : noLit D = true) {a b m : Nat} (hab : a ≤ b) (hb : b ≤ n) {y : V} {ys : List V} (hy : IsSl (L::h) y k m ys) (hs : Stills ys) :
  ∃ L',cpO k (L::h) (subV k v a b) y = some (.p (.int .i64 ((min m (b - a) : Nat) : Int)),L'::h)∧GrowS D L' h.length v k n (xs.take (a * k) ++ ys.take (min m (b - a) * k) ++ xs.drop (a * k + min m (b - a) * k))∧L'.length = L.length∧∀ j,j ∉ D→L'[j]? = L[j]?:=by
 have hyl:=hy.clen
 by_cases h0 : min m (b - a) = 0
 ·refine ⟨L,?_,?_,rfl,fun j _ => rfl⟩
  ·have h1:=(ha.sl.sub hab hb).len
   have hsl : isSl (subV k v a b) = true:=by
    rcases ha with ⟨_,_,rfl | rfl⟩ | ⟨_,_,_,_,_,rfl,_⟩ | ⟨rfl,_⟩ <;> rfl
   unfold cpO
   rw [h1,Option.bind_some,hy.len,Option.bind_some,hy.cells,Option.bind_some,if_neg (by rw [hyl]; simp),if_neg (by rw [hsl]; simp),if_pos h0,h0]
   rfl
  ·rw [h0,Nat.zero_mul,List.take_zero,List.append_nil,Nat.add_zero,List.take_append_drop]
   exact ha
 ·rcases ha with ⟨rfl,_,_⟩ | ⟨h2,d',hd',s,tl,rfl,h3⟩ | ⟨_,_,_,hd⟩
  ·omega
  ·generalize hq : min m (b - a) = q at h0 ⊢
   have hlt:=(List.getElem?_eq_some_iff.1 h3).1
   have hqk : q * k ≤ m * k:=Nat.mul_le_mul_right _ (by omega)
   have hqb : a * k + q * k ≤ n * k:=by rw [← Nat.add_mul]; exact Nat.mul_le_mul_right _ (by omega)
   have hyt : (ys.take (q * k)).length = q * k:=by rw [List.length_take,hyl]; omega
   have hst : Stills (ys.take (q * k)):=fun x hx => hs x (List.mem_of_mem_take hx)
   have hlen : (xs.take (a * k) ++ ys.take (q * k) ++ xs.drop (a * k + q * k)).length = n * k:=by
    rw [List.length_append,List.length_append,hyt,List.length_take,List.length_drop]; omega
   refine ⟨L.set d' (.arr s n k ((xs.take (a * k) ++ ys.take (q * k) ++ xs.drop (a * k + q * k)).map .v)::tl),?_,.inr (.inl ⟨hlen,d',hd',s,tl,rfl,by simp [hlt]⟩),by simp,fun j hj => ?_⟩
   ·unfold cpO
    rw [subV,hy.len,hy.cells]
    simp only [lenOf,Option.bind_some]
    rw [if_neg (by rw [hyl]; simp),if_neg (by simp [isSl]),if_neg (by rw [hq]; exact h0),if_pos (by simp [eszIs]),hq]
    simp only [cpO.ovO]
    rw [if_neg (by rw [hyt]; omega),layCs_still true (L::h) hst,Option.bind_some,nd_arr h3,Option.bind_some]
    simp only [List.length_map,hyt]
    rw [if_pos (by omega),setNd_arr h3,Option.map_some]
    simp [List.map_take,List.map_drop]
   ·rw [List.getElem?_set_ne (fun e => hj (by rw [← e]; exact hd'))]
  ·exact (noLit_no hD hd).elim
theorem SlF.int1 (k : IntKind) (n : Int) : SlF (dI k) [n] (.fz [.p (.int k n)] 1 1 true):=SlF.lit (cs:=[.p (.int k n)]) (RL.cons (show (dI k).R n [.p (.int k n)] from rfl) RL.nil) rfl rfl true
abbrev vOf {α : Type} {d : Dt α} {xs : List α} {v : V} (_ : SlF d xs v) : V:=v
section
variable {β α γ δ : Type} {Q : β→α→Prop} {x : Option β} {K : δ→Option α}
theorem Sim.ci {k : IntKind} {n : Int} {f : Int→Option δ} (s : Sim x ((f n).bind K) Q) : Sim x (((castI k (.p (.int k n))).bind f).bind K) Q:=Sim.op (castI_p _ _) s
theorem Sim.ab {b : Bool} {f : Bool→Option δ} (s : Sim x ((f b).bind K) Q) : Sim x (((asB (.p (.bool b))).bind f).bind K) Q:=Sim.op (asB_p _) s
theorem Sim.nc {l : Loc} {o : Nat} {f : V→Option δ} (s : Sim x ((f (.ref l o)).bind K) Q) : Sim x (((nilChk (.ref l o)).bind f).bind K) Q:=Sim.op (nilChk_ref _ _) s
theorem Sim.fa {l : Loc} {o k : Nat} {f : V→Option δ} (s : Sim x ((f (.ref l (o + k))).bind K) Q) : Sim x (((fA (.ref l o) k).bind f).bind K) Q:=Sim.op (fA_ref _ _ _) s
theorem Sim.or {v : γ} {g : γ→Option δ} (s : Sim x ((g v).bind K) Q) : Sim x (((some v).bind g).bind K) Q:=s
theorem Sim.cq {c : Bool} {a b : Option β} {A B : Option δ} (s : Sim a (A.bind K) Q) (t : Sim b (B.bind K) Q) : Sim (bif c then a else b) ((bif c then A else B).bind K) Q:=Sim.cd (fun _ => s) (fun _ => t)
theorem Sim.cqk {c : Bool} {a b : Option β} {A B : Option γ} {g : γ→Option δ} (s : Sim a ((A.bind g).bind K) Q) (t : Sim b ((B.bind g).bind K) Q) : Sim (bif c then a else b) (((bif c then A else B).bind g).bind K) Q:=Sim.cdk (fun _ => s) (fun _ => t)
end
abbrev Nn (c : C) (k : Nat) : Prop:=∀ v,c = .v v→v = .p (.slice none 0 0) ∨ v = .fz [] 0 k true
end Go.Ev
namespace Go.Ev
def Nq (c : C) (k : Nat) : Prop:=c = .v (.p (.slice none 0 0)) ∨ ∃ s n ws,c = .arr s (n + 1) k ws
def neO {α : Type} (xs : List α) : Option Unit:=if xs.isEmpty then none else some ()
theorem Nq.nil {k : Nat} : Nq (.v (.p (.slice none 0 0))) k:=.inl rfl
theorem Nq.nn {c : C} {k : Nat} (h : Nq c k) : Nn c k:=fun v e => by
 rcases h with h | ⟨s,n,ws,h⟩
 ·rw [h] at e; cases e; exact .inl rfl
 ·rw [h] at e; cases e
theorem SlF.nil_len {α : Type} {d : Dt α} {xs : List α} {v : V} (h : SlF d xs v) (hv : v = .p (.slice none 0 0) ∨ v = .fz [] 0 d.sz true) : xs = []:=by
 obtain ⟨cs,h1,h2⟩:=h
 have h3:=(h1 []).len
 rcases hv with rfl | rfl
 ·exact List.eq_nil_of_length_eq_zero (Option.some.inj h3).symm
 ·exact List.eq_nil_of_length_eq_zero (Option.some.inj h3).symm
theorem Nq.mk {α : Type} {d : Dt α} {xs : List α} {c : C} {k : Nat} {u : Unit} (hS : SoC d xs c) (nt : Nn c k) (hk : d.sz = k) (hne : neO xs = some u) : Nq c k:=by
 unfold neO at hne
 rcases hS with ⟨v,rfl,hv⟩ | ⟨s,ws,rfl,_⟩
 ·have:=hv.nil_len (by rw [hk]; exact nt v rfl)
  subst this
  cases hne
 ·cases xs with
  | nil => cases hne
  | cons x xs => exact .inr ⟨s,xs.length,_,by rw [hk]; rfl⟩
theorem SoC.eqNil {P : Program} {h : H} {t e : TypeId} {α : Type} {d : Dt α} {xs : List α} {c : C} {k : Nat} {l : Loc} {o : Nat} (hu : P.underlying t = some (.slice e)) (hS : SoC d xs c) (hq : Nq c k) : binV P h .eql t (cellV l o c) (.p (.slice none 0 0)) = some (.p (.bool xs.isEmpty)):=by
 rcases hq with rfl | ⟨s,n,ws,rfl⟩
 ·rcases hS with ⟨v,e1,hv⟩ | ⟨s,ws,e1,_⟩
  ·cases e1
   have:=hv.nil_len (.inl rfl)
   subst this
   show (eqlV P h t (.p (.slice none 0 0)) (.p (.slice none 0 0))).map _ = _
   simp only [eqlV,hu]; rfl
  ·cases e1
 ·rcases hS with ⟨v,e1,hv⟩ | ⟨s',ws',e1,_⟩
  ·cases e1
  ·injection e1 with _ e2 _ _
   have : xs.isEmpty = false:=by cases xs with
    | nil => cases e2
    | cons => rfl
   rw [this]
   show (eqlV P h t (.sl _ _ _ _ _) (.p (.slice none 0 0))).map _ = _
   simp only [eqlV,hu]; rfl
section
variable {N : Nat} {h0 Hp : H} {B : List Rt} {Γ : List (Nat × Stamp × List C)} {Δ : List Gw}
theorem dI_map {k : IntKind} : ∀ xs : List Int,(dI k).L xs (xs.map fun n => .p (.int k n))
 | [] => rfl
 | _::xs => ⟨_,_,rfl,rfl,dI_map xs⟩
end
theorem Dt.setL {α : Type} {d : Dt α} {xs zs : List α} {cs : List V} (q1 : d.L xs cs) {k : Int} {old x : α} (ho : ix xs k = some old) (hz : stx xs k x = some zs) {off : Nat} {nv : List V} (hoff : off + nv.length ≤ d.sz)
  (hx : ∀ ws,d.R old ws→d.R x (ws.take off ++ nv ++ ws.drop (off + nv.length))) : d.L zs (cs.take (k.toNat * d.sz + off) ++ nv ++ cs.drop (k.toNat * d.sz + off + nv.length))∧k.toNat * d.sz + off + nv.length ≤ cs.length:=by
 obtain ⟨⟨hk0,hk1⟩,rfl⟩:=stx_some hz
 have hcl:=RL.length (fun h => d.len h) q1
 obtain ⟨_,hix,hold⟩:=ix_some ho
 obtain ⟨ws,hR,hw⟩:=RL.get (fun h => d.len h) q1 hix
 rw [hold] at hR
 have hwl:=d.len hR
 have hin : k.toNat * d.sz + d.sz ≤ cs.length:=by
  have:=Nat.mul_le_mul_right d.sz (Nat.succ_le_of_lt hix)
  rw [Nat.succ_mul] at this; omega
 refine ⟨?_,by omega⟩
 have:=RL.set (k:=d.sz) (fun h => d.len h) (i:=k.toNat) (y:=x) q1 hix (hx ws hR)
 have hsplit : cs = cs.take (k.toNat * d.sz) ++ (ws ++ cs.drop (k.toNat * d.sz + d.sz)):=by
  rw [← hw,← List.drop_drop,List.take_append_drop,List.take_append_drop]
 have hA : (cs.take (k.toNat * d.sz)).length = k.toNat * d.sz:=by rw [List.length_take]; omega
 generalize cs.take (k.toNat * d.sz) = A at hsplit hA this
 generalize cs.drop (k.toNat * d.sz + d.sz) = Bc at hsplit this
 rw [hsplit]
 rw [List.take_append,List.take_append,List.drop_append,List.drop_append,hA,hwl]
 rw [List.take_of_length_le (l:=A) (by omega),List.drop_of_length_le (l:=A) (by omega)]
 have t1 : k.toNat * d.sz + off - k.toNat * d.sz = off:=by omega
 have t2 : k.toNat * d.sz + off + nv.length - k.toNat * d.sz = off + nv.length:=by omega
 have t3 : off - d.sz = 0:=by omega
 have t4 : off + nv.length - d.sz = 0:=by omega
 rw [t1,t2,t3,t4,List.take_zero,List.drop_zero,List.append_nil,List.nil_append]
 simp only [List.append_assoc] at this ⊢
 exact this
theorem Dt.whole {α : Type} {d : Dt α} {old x : α} {nv : List V} {n : Nat} (hR : d.R x nv) (hn : d.sz = n) : ∀ ws,d.R old ws→d.R x (ws.take 0 ++ nv ++ ws.drop (0 + n)):=fun ws hw => by
 have:=d.len hw
 rw [List.take_zero,List.nil_append,Nat.zero_add,List.drop_of_length_le (by omega),List.append_nil]
 exact hR
theorem cell_set {Hp : H} {l : Loc} {off0 j : Nat} {cs0 : List C} {c : C} {α : Type} {d : Dt α} {xs zs : List α} {own : Bool} {σ : Stamp} {k : Int} {old x : α} {nv : List V} {xv : V} {n e off : Nat} (ha : AtC Hp l off0 cs0) (hj : cs0[j]? = some c) (hS : SoC d xs c) (nt : Nn c e)
  (ho : ix xs k = some old) (hz : stx xs k x = some zs) (he : d.sz = e) (hn : nv.length = n) (hoff : off + n ≤ e) (hst : StN xv nv) (hx : ∀ ws,d.R old ws→d.R x (ws.take off ++ nv ++ ws.drop (off + n))) :
  ∃ c',stO own n σ Hp (adr (cellV l (off0 + j) c) (k.toNat * e + off)) xv = some (ptC Hp l off0 (cs0.set j c'))∧SoC d zs c'∧Nq c' e:=by
 subst he; subst hn
 obtain ⟨⟨hk0,hk1⟩,hzs⟩:=stx_some hz
 rcases hS with ⟨v,rfl,hv⟩ | ⟨s,ws,rfl,hl⟩
 ·have:=hv.nil_len (nt v rfl)
  subst this
  simp only [List.length_nil] at hk1; omega
 ·obtain ⟨hL,hle⟩:=Dt.setL hl ho hz hoff hx
  have hA:=ha.hop hj (s:=s) (ds:=ws.map .v) (by simp [C.node])
  obtain ⟨p,q,hnd,hp⟩:=hA
  have hp0 : p = []:=List.eq_nil_of_length_eq_zero hp
  subst hp0
  have e1:=hst own σ Hp (l.hop (off0 + j) s) _ (k.toNat * d.sz + off) hnd (by simp only [List.nil_append,List.length_append,List.length_map]; omega)
  have hlen : (ws.take (k.toNat * d.sz + off) ++ nv ++ ws.drop (k.toNat * d.sz + off + nv.length)).length = ws.length:=by
   simp only [List.length_append,List.length_take,List.length_drop]; omega
  have hpt:=ha.hop_pt hj (s:=s) (ds:=ws.map .v) (ds':=(ws.take (k.toNat * d.sz + off) ++ nv ++ ws.drop (k.toNat * d.sz + off + nv.length)).map .v) (by simp [C.node]) (by simp only [List.length_map]; exact hlen)
  refine ⟨.arr s xs.length d.sz ((ws.take (k.toNat * d.sz + off) ++ nv ++ ws.drop (k.toNat * d.sz + off + nv.length)).map .v),?_,.inr ⟨s,_,?_,hL⟩,?_⟩
  ·show stO own nv.length σ Hp (.ref (l.hop (off0 + j) s) (0 + (k.toNat * d.sz + off))) xv = _
   rw [Nat.zero_add,e1]
   congr 1
   refine Eq.trans ?_ hpt
   rw [ptC_eq (off:=0) (p:=[]) (cs:=ws.map .v) (cs':=(ws.take (k.toNat * d.sz + off) ++ nv ++ ws.drop (k.toNat * d.sz + off + nv.length)).map .v) hnd rfl (by simp only [List.length_map]; exact hlen)]
   congr 1
   simp only [List.nil_append,List.map_append,List.map_take,List.map_drop]
   rw [List.take_append_of_le_length (by simp only [List.length_map]; omega),List.drop_append_of_le_length (by simp only [List.length_map]; omega)]
   simp only [List.append_assoc]
  ·rw [hzs,List.length_set]
  ·obtain ⟨m,hm⟩ : ∃ m,xs.length = m + 1:=⟨xs.length - 1,by omega⟩
   exact .inr ⟨s,m,_,by rw [hm]⟩
section
variable {N : Nat} {h0 Hp : H} {B : List Rt} {Γ : List (Nat × Stamp × List C)} {Δ : List Gw}
theorem Fm.seB (S : Fm N h0 B Γ Δ Hp) {i off0 j : Nat} {l : Loc} {cs0 : List C} {c : C} {α : Type} {d : Dt α} {xs zs : List α} {own : Bool} {σ : Stamp} {k : Int} {old x : α} {nv : List V} {xv : V} {n e off : Nat} (hi : B[i]? = some ⟨l,off0,cs0⟩) (hj : cs0[j]? = some c) (hS : SoC d xs c) (nt : Nn c e)
  (ho : ix xs k = some old) (hz : stx xs k x = some zs) (he : d.sz = e) (hn : nv.length = n) (hoff : off + n ≤ e) (hst : StN xv nv) (hx : ∀ ws,d.R old ws→d.R x (ws.take off ++ nv ++ ws.drop (off + n))) :
  ∃ c' H',stO own n σ Hp (adr (cellV l (off0 + j) c) (k.toNat * e + off)) xv = some H'∧SoC d zs c'∧Nq c' e∧Fm N h0 (B.set i ⟨l,off0,cs0.set j c'⟩) Γ Δ H':=by
 obtain ⟨c',e1,h1,h2⟩:=cell_set (own:=own) (σ:=σ) (S.atB hi) hj hS nt ho hz he hn hoff hst hx
 exact ⟨c',_,e1,h1,h2,S.setB hi (by simp)⟩
end
end Go.Ev
namespace Go.Ev
theorem lo_nil {H : Ev.H} : layCs true H [] = some (([] : List C),H):=rfl
theorem lo_pl {H H' : Ev.H} {x : V} {xs : List V} {cs : List C} (hx : Still x) (t : layCs true H xs = some (cs,H')) : layCs true H (x::xs) = some (.v x::cs,H'):=by
 simp only [layCs,hx.lay,Option.bind_some,t]
theorem lo_ow {H H1 H' : Ev.H} {x : V} {c : C} {xs : List V} {cs : List C} (hx : layC true H x = some (c,H1)) (t : layCs true H1 xs = some (cs,H')) : layCs true H (x::xs) = some (c::cs,H'):=by
 simp only [layCs,hx,Option.bind_some,t]
section
variable {N : Nat} {h0 Hp : H} {B : List Rt} {Γ : List (Nat × Stamp × List C)} {Δ : List Gw}
theorem Fm.layO (S : Fm N h0 B Γ Δ Hp) {k : Nat} {g : Gw} (hk : Δ[k]? = some g) (hD : noLit g.D = true) (hf : freeL g.D Γ (Δ.eraseIdx k) = true) :
  ∃ c H1,layC true Hp g.v = some (c,H1)∧SoC g.d g.xs c∧Nn c g.d.sz∧Fm N h0 B Γ (Δ.eraseIdx k) H1:=by
 have S' : Fm N h0 B Γ (Δ.eraseIdx k) Hp:=S.wk (fun _ h => h) (fun _ h => mem_erase h)
 obtain ⟨L,rfl,h2,h3,h4,h5⟩:=S
 obtain ⟨ws,q1,q2⟩:=h5 g (List.mem_of_getElem? hk)
 rcases q2 with ⟨e1,e2,e3⟩ | ⟨q2,d',hd',s,tl,hv,h6⟩ | ⟨_,_,_,hd⟩
 ·have o : OwnS (.v g.v) g.d.sz g.xs.length ws:=⟨by rw [e1,e2]; simp,.inl ⟨e1,e2,by rcases e3 with e | e <;> rw [e] <;> simp⟩⟩
  refine ⟨.v g.v,_,?_,SoC.own o q1,fun v hv => ?_,S'⟩
  ·rcases e3 with e | e <;> rw [e] <;> rfl
  ·cases hv; exact e3
 ·have hr : rootC (L::pts h0 B) ⟨h0.length,d',0,s,[]⟩ = some (.arr s g.xs.length g.d.sz (ws.map .v)):=by simp [rootC,pts_length,h6]
  have hs : setRoot (L::pts h0 B) ⟨h0.length,d',0,s,[]⟩ .dead = L.set d' (.dead::tl)::pts h0 B:=by simp [setRoot,pts_length,h6]
  have o : OwnS (.arr s g.xs.length g.d.sz (ws.map .v)) g.d.sz g.xs.length ws:=⟨q2,.inr ⟨s,rfl⟩⟩
  refine ⟨_,L.set d' (.dead::tl)::pts h0 B,?_,SoC.own o q1,?_,dead_ok S' (mem_one hf hd') (.dead::tl)⟩
  ·rw [hv]; simp [layC,pts_length,hr,hs]
  ·intro v hv; cases hv
 ·exact (noLit_no hD hd).elim
theorem Fm.boxL {H1 : Ev.H} (S : Fm N h0 B Γ Δ H1) {d : Nat} {s : Stamp} {xs : List V} {cs : List C} (e : layCs true Hp xs = some (cs,H1)) (hd : d < N) (hf : (freeG Γ d && freeD Δ d) = true) :
  ∃ H',boxO true s d Hp (.agg xs) = some (.ref ⟨h0.length,d,0,s,[]⟩ 0,H')∧Fm N h0 B ((d,s,cs)::Γ) Δ H' :=
 ⟨_,by unfold boxO; rw [show (V.agg xs).cells = xs from rfl,e]; simp only [Option.bind_some]; rw [S.newLoc],S.add hd hf⟩
theorem Fm.clipC (S : Fm N h0 B Γ Δ Hp) {G : Cfg} {X : CallF} {f n e i d0 j d : Nat} {s0 σ : Stamp} {cs : List C} {c : C} {α : Type} {dt : Dt α} {xs : List α} (entry : ∀ (x : V) (h : H),cvBody G (ev G X) (cvL G X) f σ [x] h = clipBody e n σ x h)
  (hi : Γ[i]? = some (d0,s0,cs)) (hf : (freeG (Γ.eraseIdx i) d0 && freeD Δ d0) = true) (hj : cs[j]? = some c) (hS : SoC dt xs c) (nt : Nn c e) (he : dt.sz = e) (hX : ∀ y,X f σ [y] Hp = none) :
  ∃ y,callO (ev G X) f σ [cellV ⟨h0.length,d0,0,s0,[]⟩ j c] Hp (some d) = some (y,Hp)∧∃ c2 a H',(∀ τ,expF false τ Hp y = some (c2,H'))∧OwnS c2 dt.sz xs.length a∧dt.L xs a∧Fm N h0 B (Γ.eraseIdx i) Δ H':=by
 subst he
 have Se : ∀ {H' : Ev.H} {cs' : List C},Fm N h0 B (Γ.set i (d0,s0,cs')) Δ H'→Fm N h0 B (Γ.eraseIdx i) Δ H':=fun S => by
  have:=S.wk (Γ':=(Γ.set i (d0,s0,_)).eraseIdx i) (fun _ h => mem_erase h) (fun _ h => h)
  rwa [List.eraseIdx_set_eq] at this
 have ha:=S.atG hi
 have hsl:=hS.sl ha hj
 rw [Nat.zero_add] at hsl
 have len:=hsl.len
 have hlt:=(List.getElem?_eq_some_iff.1 hj).1
 have key : ∃ y,slS dt.sz (cellV ⟨h0.length,d0,0,s0,[]⟩ j c) none (some xs.length) (some xs.length) = some y∧fin false σ (List.replicate n []::Hp) [y] = some ([.v y],Hp)∧∃ c2 a H',(∀ τ,expF false τ Hp y = some (c2,H'))∧OwnS c2 dt.sz xs.length a∧dt.L xs a∧Fm N h0 B (Γ.eraseIdx i) Δ H':=by
  have same : Γ.set i (d0,s0,cs) = Γ:=by rw [← (List.getElem?_eq_some_iff.1 hi).2]; exact List.set_getElem_self ..
  rcases hS with ⟨v,rfl,hv⟩ | ⟨s,ws,rfl,hl⟩
  ·have hx:=hv.nil_len (nt v rfl)
   subst hx
   rcases nt v rfl with rfl | rfl
   ·exact ⟨_,rfl,fin_1 still_nilS,_,[],Hp,fun τ => still_nilS.exp ..,⟨by simp,.inl ⟨rfl,rfl,.inl rfl⟩⟩,rfl,Se (by rw [same]; exact S)⟩
   ·exact ⟨.fz [] 0 dt.sz true,by simp [cellV,toV,slS,bI],fin_1 (still_fz ..),_,[],Hp,fun τ => (still_fz ..).exp ..,⟨by simp,.inl ⟨rfl,rfl,.inr rfl⟩⟩,rfl,Se (by rw [same]; exact S)⟩
  ·have hlen:=RL.length (fun h => dt.len h) hl
   by_cases h0' : xs.length = 0
   ·have : xs = []:=List.eq_nil_of_length_eq_zero h0'
    subst this
    exact ⟨.fz [] 0 dt.sz true,by simp [cellV,toV,slS,bI],fin_1 (still_fz ..),_,[],Hp,fun τ => (still_fz ..).exp ..,⟨by simp,.inl ⟨rfl,rfl,.inr rfl⟩⟩,rfl,Se (by rw [same]; exact S)⟩
   ·have hT : h0.length < Hp.length:=by
     obtain ⟨L,rfl,_⟩:=S
     simp [pts_length]
    have htop : top Hp = h0.length:=by
     obtain ⟨L,rfl,_⟩:=S
     simp [top,pts_length]
    refine ⟨.sl ((⟨h0.length,d0,0,s0,[]⟩ : Loc).hop j s) 0 xs.length xs.length dt.sz,by simp [cellV,toV,slS,bI,h0'],fin_low (by simpa [Loc.hop] using hT),.arr s xs.length dt.sz (ws.map .v),ws,_,fun τ => ?_,⟨hlen,.inr ⟨s,rfl⟩⟩,hl,Se (S.setG (cs':=cs.set j .dead) hi hf (by simp))⟩
    have hat : at_ Hp ((⟨h0.length,d0,0,s0,[]⟩ : Loc).hop j s) = some (.arr s xs.length dt.sz (ws.map .v)):=by
     obtain ⟨p,q,hn,hp⟩:=ha
     have hp0 : p = []:=List.length_eq_zero_iff.1 hp
     subst hp0
     rw [at_hop,hn]
     simp only [Option.bind_some]
     rw [List.nil_append,List.getElem?_append_left hlt,hj]
     simp [C.node]
    have hk:=at_killed ha hj (s:=s) (by simp [C.node])
    rw [Nat.zero_add] at hk
    have hr : rng (ws.map C.v) 0 (xs.length * dt.sz) = some (ws.map C.v):=by
     unfold rng; rw [if_pos (by simp; omega),← hlen,List.drop_zero,List.take_of_length_le (by simp)]
    have hlv : ((⟨h0.length,d0,0,s0,[]⟩ : Loc).hop j s).lvl = top Hp:=htop.symm
    simp only [expF,expC,hlv,if_true,hat,hr,Option.bind_some,hk]
 obtain ⟨y,k1,k2,k3⟩:=key
 exact ⟨y,callO_1 (ev_cv (hX _) (by rw [entry]; exact clip_body len k1 k2)),k3⟩
end
end Go.Ev
namespace Go.Ev
def SlU {α : Type} (m : Nat) (h : H) (d : Dt α) (xs : List α) (v : V) : Prop:=m ≤ h.length∧SlH (h.drop (h.length - m)) d xs v
theorem drop_setRoot {l : Loc} {c : C} {m : Nat} (hl : m ≤ l.lvl) : ∀ h : H,m ≤ h.length→(setRoot h l c).drop (h.length - m) = h.drop (h.length - m)
 | [],_ => rfl
 | L::h,hm => by
  unfold setRoot
  by_cases e : l.lvl = h.length
  ·rw [if_pos e,show (L::h).length - m = (h.length - m) + 1 by rw [List.length_cons]; omega,List.drop_succ_cons,List.drop_succ_cons]
  ·rw [if_neg e]
   by_cases hlt : m ≤ h.length
   ·rw [show (L::h).length - m = (h.length - m) + 1 by rw [List.length_cons]; omega,List.drop_succ_cons,List.drop_succ_cons]
    exact drop_setRoot hl h hlt
   ·rw [List.length_cons] at hm
    have hm2 : (L::h).length - m = 0:=by rw [List.length_cons]; omega
    have hq : h.length < l.lvl:=by omega
    rw [hm2,List.drop_zero,List.drop_zero]
    congr 1
    have : ∀ h : H,h.length ≤ l.lvl→setRoot h l c = h:=by
     intro h
     induction h with
     | nil => intro _; rfl
     | cons L h ih =>
      intro hh
      rw [List.length_cons] at hh
      unfold setRoot
      rw [if_neg (by omega),ih (by omega)]
    exact this h (by omega)
theorem drop_setNd {l : Loc} {cs : List C} {m : Nat} (hl : m ≤ l.lvl) {h : H} (hm : m ≤ h.length) : (setNd h l cs).drop (h.length - m) = h.drop (h.length - m):=by
 unfold setNd
 split
 ·unfold setAt
  split
  ·exact drop_setRoot hl h hm
  ·rfl
 ·rfl
theorem drop_ptC {l : Loc} {off : Nat} {cs : List C} {m : Nat} (hl : m ≤ l.lvl) {h : H} (hm : m ≤ h.length) : (ptC h l off cs).drop (h.length - m) = h.drop (h.length - m):=by
 unfold ptC
 split
 ·exact drop_setNd hl hm
 ·rfl
theorem drop_pts {m : Nat} {h : H} (hm : m ≤ h.length) : ∀ B : List Rt,(∀ r ∈ B,m ≤ r.l.lvl)→(pts h B).drop (h.length - m) = h.drop (h.length - m)
 | [],_ => rfl
 | r::rs,hB => by
  have h1:=drop_ptC (l:=r.l) (off:=r.off) (cs:=r.cs) (hB r (List.mem_cons_self ..)) (h:=pts h rs) (by rw [pts_length]; exact hm)
  rw [pts_length] at h1
  exact h1.trans (drop_pts hm rs fun q hq => hB q (List.mem_cons_of_mem _ hq))
theorem SlH.ups {α : Type} {d : Dt α} {xs : List α} {v : V} : ∀ (k : Nat) {h : H},SlH (h.drop k) d xs v→SlH h d xs v
 | 0,_,hv => hv
 | k + 1,[],hv => by simpa using hv
 | k + 1,L::h,hv => by
  obtain ⟨cs,q1,q2⟩:=SlH.ups k (h:=h) (by simpa using hv)
  exact ⟨cs,q1.up L,q2⟩
theorem SlU.sl {α : Type} {m : Nat} {h : H} {d : Dt α} {xs : List α} {v : V} (hu : SlU m h d xs v) : SlH h d xs v:=SlH.ups _ hu.2
theorem SlF.u {α : Type} {m : Nat} {h : H} {d : Dt α} {xs : List α} {v : V} (hv : SlF d xs v) (hm : m ≤ h.length) : SlU m h d xs v:=⟨hm,hv.h _⟩
theorem SlH.cells {α : Type} {h : H} {d : Dt α} {xs : List α} {v : V} (hv : SlH h d xs v) : v.cells = [v]:=by
 obtain ⟨cs,q1,_⟩:=hv
 rcases q1.cases with ⟨rfl,_,_⟩ | ⟨t,rfl⟩ | ⟨l,off,av,ds,rfl,_⟩ <;> rfl
theorem lo_lw {H H' : Ev.H} {x : V} {xs : List V} {cs : List C} (hx : layC true H x = some (.v x,H)) (t : layCs true H xs = some (cs,H')) : layCs true H (x::xs) = some (.v x::cs,H'):=by
 simp only [layCs,hx,Option.bind_some,t]
section
variable {N : Nat} {h0 Hp : H} {B : List Rt} {Γ : List (Nat × Stamp × List C)} {Δ : List Gw} {α : Type} {d : Dt α} {xs : List α} {v : V} {m : Nat}
theorem Fm.bot (S : Fm N h0 B Γ Δ Hp) (hB : ∀ r ∈ B,m ≤ r.l.lvl) (hm : m ≤ h0.length) : m ≤ Hp.length∧Hp.drop (Hp.length - m) = h0.drop (h0.length - m):=by
 obtain ⟨L,rfl,_⟩:=S
 refine ⟨by rw [List.length_cons,pts_length]; omega,?_⟩
 rw [List.length_cons,pts_length,show h0.length + 1 - m = (h0.length - m) + 1 by omega,List.drop_succ_cons]
 exact drop_pts hm B hB
theorem Fm.upU (S : Fm N h0 B Γ Δ Hp) (hB : ∀ r ∈ B,m ≤ r.l.lvl) (hu : SlU m h0 d xs v) : SlU m Hp d xs v:=by
 obtain ⟨h1,h2⟩:=S.bot hB hu.1
 exact ⟨h1,by rw [h2]; exact hu.2⟩
theorem Fm.dnU (S : Fm N h0 B Γ Δ Hp) (hB : ∀ r ∈ B,m ≤ r.l.lvl) (hm : m ≤ h0.length) (hu : SlU m Hp d xs v) : SlU m h0 d xs v:=by
 obtain ⟨h1,h2⟩:=S.bot hB hm
 exact ⟨hm,by rw [← h2]; exact hu.2⟩
theorem SlH.u (hv : SlH h0 d xs v) : SlU h0.length h0 d xs v:=⟨Nat.le_refl _,by rw [Nat.sub_self]; exact hv⟩
theorem Fm.layLow (S : Fm N h0 B Γ Δ Hp) (hv : SlH h0 d xs v) {own : Bool} : layC own Hp v = some (.v v,Hp):=by
 have ht : top Hp = h0.length:=by
  obtain ⟨L,rfl,_⟩:=S
  simp [top,pts_length]
 obtain ⟨cs,q1,_⟩:=hv
 rcases q1.cases with ⟨rfl,_,_⟩ | ⟨t,rfl⟩ | ⟨l,off,av,ds,rfl,hn,_⟩
 ·rfl
 ·rfl
 ·have:=nd_lt hn
  have h1 : ¬ (l.lvl = top Hp):=by omega
  cases own <;> simp [layC,h1]
end
theorem all_one {P : Rt→Prop} {r : Rt} (h : P r) : ∀ q ∈ [r],P q:=fun q hq => by rw [List.mem_singleton.1 hq]; exact h
end Go.Ev
namespace Go.Ev
set_option linter.unusedVariables false
structure TaiChoice where
 Class : Int
 Costs : (List Int)
 Goods : (List Int)
def TaiChoice.tp (x : TaiChoice) : (Int × ((List Int) × ((List Int) × Unit))):=(x.Class,(x.Costs,(x.Goods,())))
def dTaiChoice : Dt TaiChoice:=(dP (dI .i64) (dP (dSl (dI .i64)) (dP (dSl (dI .i64)) dU))).via TaiChoice.tp
theorem dTaiChoice.inv {x : TaiChoice} {vs : List V} (h : dTaiChoice.R x vs) : ∃ v1 v2,vs = [.p (.int .i64 x.Class),v1,v2]∧SlF (dI .i64) x.Costs v1∧SlF (dI .i64) x.Goods v2:=by
 obtain ⟨u0,w0,e0,h0,u1,w1,e1,h1,u2,w2,e2,h2,hend⟩:=h
 obtain rfl : u0 = [.p (.int .i64 x.Class)]:=h0
 obtain ⟨v1,rfl,s1⟩:=h1
 obtain ⟨v2,rfl,s2⟩:=h2
 obtain rfl:=(show _ = [] from hend)
 subst e2
 subst e1
 subst e0
 exact ⟨v1,v2,rfl,s1,s2⟩
theorem dTaiChoice.mk {y_Class : Int} {y_Costs : (List Int)} {y_Goods : (List Int)} {v1 : V} {v2 : V} (s1 : SlF (dI .i64) y_Costs v1) (s2 : SlF (dI .i64) y_Goods v2) : dTaiChoice.R (⟨y_Class,y_Costs,y_Goods⟩ : TaiChoice) [.p (.int .i64 y_Class),v1,v2]:=⟨[.p (.int .i64 y_Class)],[v1,v2],rfl,rfl,⟨[v1],[v2],rfl,⟨v1,rfl,s1⟩,⟨[v2],[],rfl,⟨v2,rfl,s2⟩,rfl⟩⟩⟩
structure Tz18numbers where
 l : (List Int)
 f_at : Int
def Tz18numbers.tp (x : Tz18numbers) : ((List Int) × (Int × Unit)):=(x.l,(x.f_at,()))
def dTz18numbers : Dt Tz18numbers:=(dP (dSl (dI .i64)) (dP (dI .i64) dU)).via Tz18numbers.tp
theorem dTz18numbers.inv {x : Tz18numbers} {vs : List V} (h : dTz18numbers.R x vs) : ∃ v0,vs = [v0,.p (.int .i64 x.f_at)]∧SlF (dI .i64) x.l v0:=by
 obtain ⟨u0,w0,e0,h0,u1,w1,e1,h1,hend⟩:=h
 obtain ⟨v0,rfl,s0⟩:=h0
 obtain rfl : u1 = [.p (.int .i64 x.f_at)]:=h1
 obtain rfl:=(show _ = [] from hend)
 subst e1
 subst e0
 exact ⟨v0,rfl,s0⟩
theorem dTz18numbers.mk {y_l : (List Int)} {y_f_at : Int} {v0 : V} (s0 : SlF (dI .i64) y_l v0) : dTz18numbers.R (⟨y_l,y_f_at⟩ : Tz18numbers) [v0,.p (.int .i64 y_f_at)]:=⟨[v0],[.p (.int .i64 y_f_at)],rfl,⟨v0,rfl,s0⟩,⟨[.p (.int .i64 y_f_at)],[],rfl,rfl,rfl⟩⟩
structure T_knap_search where
 l : (List TaiChoice)
 now : (List Int)
 best : (List Int)
 good : (List Int)
 cost : Int
def T_knap_search.tp (x : T_knap_search) : ((List TaiChoice) × ((List Int) × ((List Int) × ((List Int) × (Int × Unit))))):=(x.l,(x.now,(x.best,(x.good,(x.cost,())))))
end Go.Ev
namespace Go.Ev
open Go.Proofs
def ownT : TypeId→Bool:=fun t => [67,70,80].contains t
def frzF : FuncId→Bool:=fun f => [23,45,28].contains f
def frzIn : FuncId→Bool:=fun f => [].contains f
def frzMk : TypeId→Bool:=fun t => [].contains t
noncomputable def G : Cfg:=⟨Try.prog,ownT,frzF,frzIn,frzMk⟩
noncomputable def X0 : CallF:=fun _ _ _ _ => none
theorem x_ok (B : Nat) : CallOk G B X0:=no_ext B
theorem mixed : G.P.follows .mixedOrders = true:=by kernel_rfl
end Go.Ev
namespace Go.Ev
open Go.Proofs
set_option linter.unusedVariables false
set_option linter.unusedSimpArgs false
set_option maxRecDepth 100000
noncomputable section
abbrev KT1:=Exit→Env→H→Option (List C × H)
variable (rec : CallF) (loop : LoopV) (σ : Stamp)
def knap_Fits_c0 : Code:=(codeAt (bodyOf Try.f30) [1,1,0,1,0,0])
def knap_Fits_l0 : Lv:=⟨7,64,[(0,7)]⟩
def knap_Fits_k0 : KT1:=(kBlock 0 (kSeq G rec loop (codeAt (bodyOf Try.f30) [1,1,1]) ⟨64,64,[]⟩ (1::1::0::σ) (finC G false Try.f30 (1::σ))))
theorem knap_Fits_entry (x0 : V) (x1 : V) (x2 : Int) (h : H) : cvBody G rec loop 30 σ [x0,x1,(.p (.int .i64 x2))] h =
(lenO x0).bind fun t1 =>
(castI .i64 t1).bind fun n2 =>
(lenO x1).bind fun t3 =>
(castI .i64 t3).bind fun n4 =>
bif n2 != n4 then (
fin false σ (List.replicate 34 []::h) [(.p (.bool false))])
else (
(lenO x1).bind fun t5 =>
(castI .i64 t5).bind fun n6 =>
(loop knap_Fits_c0 knap_Fits_l0 (1::0::1::1::0::σ) (envL [(0,x0),(1,x1),(2,(.p (.int .i64 x2))),(14,x1),(15,(.p (.int .i64 n6))),(16,(.p (.int .i64 0)))]) (List.replicate 34 []::h)).bind fun r7 => knap_Fits_k0 rec loop σ r7.1 r7.2.1 r7.2.2):=by kernel_rfl
theorem knap_Fits_r0 (x0 : V) (x1 : V) (x2 : Int) (x14 : V) (x15 : Int) (x16 : Int) (h : H) : cvRound G rec loop knap_Fits_c0 knap_Fits_l0 σ (envL [(0,x0),(1,x1),(2,(.p (.int .i64 x2))),(14,x14),(15,(.p (.int .i64 x15))),(16,(.p (.int .i64 x16)))]) h =
bif decide (x16 < x15) then (
(iS 1 x14 x16).bind fun t8 =>
(ldO false 1 h t8).bind fun t9 =>
(castI .i64 t9).bind fun n10 =>
(iS 3 x0 x16).bind fun t11 =>
(ldO true 3 h t11).bind fun t12 =>
(callO rec 50 (5::0::1::0::1::1::0::σ) [t12,(.p (.int .i64 n10))] h (some 26)).bind fun q13 =>
(asB q13.1).bind fun b14 =>
bif !b14 then (
some (.ret,(envL [(6,(.p (.bool false)))]),q13.2))
else (
loop knap_Fits_c0 knap_Fits_l0 (1::σ) (envL [(0,x0),(1,x1),(2,(.p (.int .i64 x2))),(14,x14),(15,(.p (.int .i64 x15))),(16,(.p (.int .i64 (IntKind.wrap .i64 (x16 + 1)))))]) q13.2))
else (
some ((.exit 0),(envL [(0,x0),(1,x1),(2,(.p (.int .i64 x2)))]),h)):=by kernel_rfl
theorem knap_Fits_a0_0 (x0 : V) (x1 : V) (x2 : Int) (h : H) : knap_Fits_k0 rec loop σ (.exit 0) (envL [(0,x0),(1,x1),(2,(.p (.int .i64 x2)))]) h =
(callO rec 34 (2::0::1::1::1::0::σ) [x0,x1] h (some 31)).bind fun q15 =>
(castI .i64 q15.1).bind fun n16 =>
fin false σ q15.2 [(.p (.bool (decide (n16 ≤ x2))))]:=by kernel_rfl
theorem knap_Fits_a0_ret (x6 : Bool) (h : H) : knap_Fits_k0 rec loop σ .ret (envL [(6,(.p (.bool x6)))]) h =
fin false σ h [(.p (.bool x6))]:=by kernel_rfl
def knap_Cost_c0 : Code:=(codeAt (bodyOf Try.f34) [1,1,0,1,0,0])
def knap_Cost_l0 : Lv:=⟨32,16,[(0,32)]⟩
def knap_Cost_k0 : KT1:=(kBlock 0 (kSeq G rec loop (codeAt (bodyOf Try.f34) [1,1,1]) ⟨16,16,[]⟩ (1::1::0::σ) (finC G false Try.f34 (1::σ))))
theorem knap_Cost_entry (x0 : V) (x1 : V) (h : H) : cvBody G rec loop 34 σ [x0,x1] h =
(lenO x1).bind fun t1 =>
(castI .i64 t1).bind fun n2 =>
(lenO x0).bind fun t3 =>
(castI .i64 t3).bind fun n4 =>
(slS 1 x1 none (some ((if n4 < n2 then n4 else n2))) none).bind fun t5 =>
(lenO t5).bind fun t6 =>
(castI .i64 t6).bind fun n7 =>
(loop knap_Cost_c0 knap_Cost_l0 (1::0::1::1::0::σ) (envL [(0,x0),(5,(.p (.int .i64 0))),(14,t5),(15,(.p (.int .i64 n7))),(16,(.p (.int .i64 0)))]) (List.replicate 39 []::h)).bind fun r8 => knap_Cost_k0 rec loop σ r8.1 r8.2.1 r8.2.2:=by kernel_rfl
theorem knap_Cost_r0 (x0 : V) (x5 : Int) (x14 : V) (x15 : Int) (x16 : Int) (h : H) : cvRound G rec loop knap_Cost_c0 knap_Cost_l0 σ (envL [(0,x0),(5,(.p (.int .i64 x5))),(14,x14),(15,(.p (.int .i64 x15))),(16,(.p (.int .i64 x16)))]) h =
bif decide (x16 < x15) then (
(iS 1 x14 x16).bind fun t9 =>
(ldO false 1 h t9).bind fun t10 =>
(castI .i64 t10).bind fun n11 =>
(iS 3 x0 x16).bind fun t12 =>
(ldO true 3 h t12).bind fun t13 =>
(callO rec 53 (5::0::1::0::1::1::0::σ) [t13,(.p (.int .i64 n11))] h (some 26)).bind fun q14 =>
(asB q14.1).bind fun b15 =>
bif b15 then (
(iS 3 x0 x16).bind fun t16 =>
(fA t16 1).bind fun t17 =>
(ldO false 1 q14.2 t17).bind fun t18 =>
(iS 1 t18 n11).bind fun t19 =>
(ldO false 1 q14.2 t19).bind fun t20 =>
(castI .i64 t20).bind fun n21 =>
(callO rec 54 (9::1::1::0::1::1::0::σ) [(.p (.int .i64 x5)),(.p (.int .i64 n21))] q14.2 (some 36)).bind fun q22 =>
(castI .i64 q22.1).bind fun n23 =>
loop knap_Cost_c0 knap_Cost_l0 (1::σ) (envL [(0,x0),(5,(.p (.int .i64 n23))),(14,x14),(15,(.p (.int .i64 x15))),(16,(.p (.int .i64 (IntKind.wrap .i64 (x16 + 1)))))]) q22.2)
else (
loop knap_Cost_c0 knap_Cost_l0 (1::σ) (envL [(0,x0),(5,(.p (.int .i64 x5))),(14,x14),(15,(.p (.int .i64 x15))),(16,(.p (.int .i64 (IntKind.wrap .i64 (x16 + 1)))))]) q14.2))
else (
some ((.exit 0),(envL [(5,(.p (.int .i64 x5)))]),h)):=by kernel_rfl
theorem knap_Cost_a0_0 (x5 : Int) (h : H) : knap_Cost_k0 rec loop σ (.exit 0) (envL [(5,(.p (.int .i64 x5)))]) h =
fin false σ h [(.p (.int .i64 x5))]:=by kernel_rfl
theorem knap_add_entry (x0 : Int) (x1 : Int) (h : H) : cvBody G rec loop 54 σ [(.p (.int .i64 x0)),(.p (.int .i64 x1))] h =
bif decide (x0 > (IntKind.wrap .i64 (9223372036854775807 - x1))) then (
fin false σ (List.replicate 12 []::h) [(.p (.int .i64 9223372036854775807))])
else (
fin false σ (List.replicate 12 []::h) [(.p (.int .i64 (IntKind.wrap .i64 (x0 + x1))))]):=by kernel_rfl
end
end Go.Ev
namespace Go.Ev
open Go.Proofs
set_option linter.unusedVariables false
set_option linter.unusedSimpArgs false
set_option maxRecDepth 100000
section
variable {β α : Type} {Q : β→α→Prop} {K : Exit × Env × H→Option α}
def p_knap_add (x0 : Int) (x1 : Int) : Option (Int) :=
bif decide (x0 > (IntKind.wrap .i64 (9223372036854775807 - x1))) then (
some (9223372036854775807))
else (
some ((IntKind.wrap .i64 (x0 + x1))))
theorem knap_add_ok {h : H} {σ : Stamp} (x0 : Int) (x1 : Int) : Sim (p_knap_add x0 x1) (ev G X0 54 σ [(.p (.int .i64 x0)),(.p (.int .i64 x1))] h) (fun r s => s = ([.v (.p (.int .i64 r))],h)):=by
 refine .ev rfl (Sim.ext (knap_add_entry _ _ _ _ _ _) ?_)
 rw [p_knap_add]
 have S0 : Fm 12 h [] [] [] (List.replicate 12 []::h):=Fm.start0
 refine .cq ?_ ?_
 ·exact .fin (S0.finN (lC (sI _ _).lv lN)) rfl
 exact .fin (S0.finN (lC (sI _ _).lv lN)) rfl
end
end Go.Ev
namespace Go.Ev
open Go.Proofs
set_option linter.unusedVariables false
set_option linter.unusedSimpArgs false
set_option maxRecDepth 100000
noncomputable section
abbrev KT2:=Exit→Env→H→Option (List C × H)
variable (rec : CallF) (loop : LoopV) (σ : Stamp)
theorem knap_has_entry (x0 : V) (x1 : Int) (h : H) : cvBody G rec loop 53 σ [x0,(.p (.int .i64 x1))] h =
(boxO false (0::0::0::σ) 2 (List.replicate 23 []::h) x0).bind fun q1 =>
(bif decide (x1 ≥ 0) then ((fA q1.1 1).bind fun t2 =>
(ldO false 1 q1.2 t2).bind fun t3 =>
(lenO t3).bind fun t4 =>
(castI .i64 t4).bind fun n5 =>
some (decide (x1 < ((if n5 < 4 then n5 else 4))))) else (some false)).bind fun b6 =>
(bif b6 then ((fA q1.1 1).bind fun t7 =>
(ldO false 1 q1.2 t7).bind fun t8 =>
(iS 1 t8 x1).bind fun t9 =>
(ldO false 1 q1.2 t9).bind fun t10 =>
(castI .i64 t10).bind fun n11 =>
some (decide (n11 ≥ 0))) else (some false)).bind fun b12 =>
fin false σ q1.2 [(.p (.bool b12))]:=by kernel_rfl
end
end Go.Ev
namespace Go.Ev
open Go.Proofs
set_option linter.unusedVariables false
set_option linter.unusedSimpArgs false
set_option maxRecDepth 100000
section
variable {β α : Type} {Q : β→α→Prop} {K : Exit × Env × H→Option α}
def p_knap_has (x0 : TaiChoice) (x1 : Int) : Option (Bool) :=
(bif decide (x1 ≥ 0) then (some (decide (x1 < ((if ((x0.Costs.length : Int)) < 4 then ((x0.Costs.length : Int)) else 4))))) else (some false)).bind fun b9 =>
(bif b9 then ((ix x0.Costs x1).bind fun a13 =>
some (decide (a13 ≥ 0))) else (some false)).bind fun b16 =>
some (b16)
theorem knap_has_ok {h : H} {σ : Stamp} (x0 : TaiChoice) {u0 : List V} (hu0 : dTaiChoice.R x0 u0) (x1 : Int) : Sim (p_knap_has x0 x1) (ev G X0 53 σ [(.agg u0),(.p (.int .i64 x1))] h) (fun r s => s = ([.v (.p (.bool r))],h)):=by
 refine .ev rfl (Sim.ext (knap_has_entry _ _ _ _ _ _) ?_)
 rw [p_knap_has]
 obtain ⟨v1,v3,rfl,h2,h4⟩:=dTaiChoice.inv hu0
 have S0 : Fm 23 h [] [] [] (List.replicate 23 []::h):=Fm.start0
 obtain ⟨H5,e6,S7⟩:=S0.box (own:=false) (d:=2) (s:=(0::0::0::σ)) (xs:=[(.p (.int .i64 x0.Class)),v1,v3]) (sC (sI _ _) (sC h2.still (sC h4.still sN))) (by decide) rfl
 refine .op (e6) ?_
 refine .ch (P:=fun r y => r = y) ?_ (fun b9 y10 h11 h12 => ?_)
 ·refine .cq ?_ ?_
  ·refine .fa ?_
   refine .op ((S7.atG (i:=0) rfl).ld (j:=1) rfl) ?_
   refine .op ((h2.h H5).len) ?_
   refine .ci ?_
   exact .ret rfl rfl
  ·exact .ret rfl rfl
 subst h12
 refine .ch (P:=fun r y => r = y) ?_ (fun b16 y17 h18 h19 => ?_)
 ·refine .cq ?_ ?_
  ·refine .fa ?_
   refine .op ((S7.atG (i:=0) rfl).ld (j:=1) rfl) ?_
   refine .bd fun a13 h14 => ?_
   refine .op ((h2.h H5).iS h14 rfl) ?_
   obtain ⟨_,rfl,hE15⟩:=(h2.h H5).el h14 rfl
   refine .op (hE15.ld (j:=0) rfl) ?_
   refine .ci ?_
   exact .ret rfl rfl
  ·exact .ret rfl rfl
 subst h19
 exact .fin (S7.finN (lC (sB _).lv lN)) rfl
def p_knap_Cost_l0 {β : Type} (k : Nat) (kE0 : Int→Option β) (x0 : (List TaiChoice)) (x5 : Int) (x14 : (List Int)) (x15 : Int) (x16 : Int) : Option β:=match k with
| 0 => none
| k + 1 =>
bif decide (x16 < x15) then (
(ix x14 x16).bind fun a10 =>
(ix x0 x16).bind fun a13 =>
(p_knap_has a13 a10).bind fun r22 =>
bif r22 then (
(ix x0 x16).bind fun a28 =>
(ix a28.Costs a10).bind fun a44 =>
(p_knap_add x5 a44).bind fun r47 =>
p_knap_Cost_l0 k kE0 x0 r47 x14 x15 (IntKind.wrap .i64 (x16 + 1)))
else (
p_knap_Cost_l0 k kE0 x0 x5 x14 x15 (IntKind.wrap .i64 (x16 + 1))))
else (
kE0 x5)
def p_knap_Cost (k : Nat) (x0 : (List TaiChoice)) (x1 : (List Int)) : Option (Int) :=
(sub x1 0 ((if ((x0.length : Int)) < ((x1.length : Int)) then ((x0.length : Int)) else ((x1.length : Int))))).bind fun a1 =>
p_knap_Cost_l0 k (fun r54_5 =>
some (r54_5)) x0 0 a1 ((a1.length : Int)) 0
theorem knap_Cost_l0_ok {h : H}  {kE0 : Int→Option β} (hE0 : ∀ (q5 : Int) (H52 : Go.Ev.H) (_ : Fm 39 h [] [] [] H52),Sim (kE0 q5) (K ((.exit 0),(envL [(5,(.p (.int .i64 q5)))]),H52)) Q) (k : Nat) : ∀ (x0 : (List TaiChoice)) (x5 : Int) (x14 : (List Int)) (x15 : Int) (x16 : Int) (v5 : V) (h6 : SlH h dTaiChoice x0 v5) (v7 : V) (h8 : SlH h (dI .i64) x14 v7) (H3 : Go.Ev.H) (_ : Fm 39 h [] [] [] H3) {σ : Stamp},Sim (p_knap_Cost_l0 k kE0 x0 x5 x14 x15 x16) ((cvL G X0 knap_Cost_c0 knap_Cost_l0 σ (envL [(0,v5),(5,(.p (.int .i64 x5))),(14,v7),(15,(.p (.int .i64 x15))),(16,(.p (.int .i64 x16)))]) H3).bind K) Q:=by
 induction k with
 | zero => intros; exact .no
 | succ k ih =>
  intro x0 x5 x14 x15 x16 v5 h6 v7 h8 H3 S4 σ
  rw [p_knap_Cost_l0]
  refine .round (Sim.ext (knap_Cost_r0 _ _ _ _ _ _ _ _ _) ?_)
  refine .cq ?_ ?_
  ·refine .bd fun a10 h11 => ?_
   refine .op ((S4.low h8).iS h11 rfl) ?_
   obtain ⟨_,rfl,hE12⟩:=(S4.low h8).el h11 rfl
   refine .op (hE12.ld (j:=0) rfl) ?_
   refine .ci ?_
   refine .bd fun a13 h14 => ?_
   refine .op ((S4.low h6).iS h14 rfl) ?_
   obtain ⟨w16,h17,hE15⟩:=(S4.low h6).el h14 rfl
   obtain ⟨v18,v20,rfl,h19,h21⟩:=dTaiChoice.inv h17
   refine .op (hE15.all (by simp)) ?_
   refine .call (knap_has_ok a13 (show dTaiChoice.R a13 [.p (.int .i64 a13.Class),v18,v20] from (dTaiChoice.mk h19 h21)) a10) fun r22 cs23 H24 h25 q26 => ?_
   cases q26
   refine .ab ?_
   refine .cq ?_ ?_
   ·refine .bd fun a28 h29 => ?_
    refine .op ((S4.low h6).iS h29 rfl) ?_
    obtain ⟨w31,h32,hE30⟩:=(S4.low h6).el h29 rfl
    obtain ⟨v33,v35,rfl,h34,h36⟩:=dTaiChoice.inv h32
    refine .op (hE30.fa (j:=1) (by simp)) ?_
    obtain ⟨w38,h39,hE37⟩:=(S4.low h6).el h29 rfl
    obtain ⟨v40,v42,rfl,h41,h43⟩:=dTaiChoice.inv h39
    refine .op (hE37.ld (j:=1) rfl) ?_
    refine .bd fun a44 h45 => ?_
    refine .op ((h41.h H3).iS h45 rfl) ?_
    obtain ⟨_,rfl,hE46⟩:=(h41.h H3).el h45 rfl
    refine .op (hE46.ld (j:=0) rfl) ?_
    refine .ci ?_
    refine .call (knap_add_ok x5 a44) fun r47 cs48 H49 h50 q51 => ?_
    cases q51
    refine .ci ?_
    exact ih x0 r47 x14 x15 (IntKind.wrap .i64 (x16 + 1)) v5 h6 v7 h8 H3 (S4.wk2 aN aN)
   exact ih x0 x5 x14 x15 (IntKind.wrap .i64 (x16 + 1)) v5 h6 v7 h8 H3 (S4.wk2 aN aN)
  exact hE0 x5 H3 (S4.wk2 aN aN)
theorem knap_Cost_ok (k : Nat) {h : H} {σ : Stamp} (x0 : List TaiChoice) {u0 : V} (hu0 : SlH h dTaiChoice x0 u0) (x1 : List Int) {u1 : V} (hu1 : SlH h (dI .i64) x1 u1) : Sim (p_knap_Cost k x0 x1) (ev G X0 34 σ [u0,u1] h) (fun r s => s = ([.v (.p (.int .i64 r))],h)):=by
 refine .ev rfl (Sim.ext (knap_Cost_entry _ _ _ _ _ _) ?_)
 rw [p_knap_Cost]
 have S0 : Fm 39 h [] [] [] (List.replicate 39 []::h):=Fm.start0
 refine .op ((S0.low hu1).len) ?_
 refine .ci ?_
 refine .op ((S0.low hu0).len) ?_
 refine .ci ?_
 refine .bd fun a1 h2 => ?_
 refine .op ((S0.low hu1).slS h2 rfl rfl rfl) ?_
 refine .op (((S0.low hu1).sub h2 (e:=1) rfl).len) ?_
 refine .ci ?_
 refine .as (knap_Cost_l0_ok ?_ k x0 0 a1 ((a1.length : Int)) 0 u0 hu0 (subV 1 u1 (Int.toNat (0)) (Int.toNat ((if ((x0.length : Int)) < ((x1.length : Int)) then ((x0.length : Int)) else ((x1.length : Int)))))) (hu1.sub h2 (e:=1) rfl) (List.replicate 39 []::h) (S0.wk2 aN aN))
 ·intro r54_5 H55 S56
  refine .ext (knap_Cost_a0_0 _ _ _ _ _) ?_
  exact .fin (S56.finN (lC (sI _ _).lv lN)) rfl
end
end Go.Ev
namespace Go.Ev
open Go.Proofs
set_option linter.unusedVariables false
set_option linter.unusedSimpArgs false
set_option maxRecDepth 100000
noncomputable section
abbrev KT3:=Exit→Env→H→Option (List C × H)
variable (rec : CallF) (loop : LoopV) (σ : Stamp)
theorem knap_fits_entry (x0 : V) (x1 : Int) (h : H) : cvBody G rec loop 50 σ [x0,(.p (.int .i64 x1))] h =
(boxO false (0::0::0::σ) 2 (List.replicate 29 []::h) x0).bind fun q1 =>
(bif x1 == (-1) then (some ((.p (.bool true)),q1.2)) else ((ldO true 3 q1.2 q1.1).bind fun t2 =>
(callO rec 53 (5::0::1::0::σ) [t2,(.p (.int .i64 x1))] q1.2 (some 10)).bind fun q3 =>
(asB q3.1).bind fun b4 =>
(bif b4 then ((fA q1.1 2).bind fun t5 =>
(ldO false 1 q3.2 t5).bind fun t6 =>
(lenO t6).bind fun t7 =>
(castI .i64 t7).bind fun n8 =>
some (decide (x1 < n8))) else (some false)).bind fun b9 =>
(bif b9 then ((fA q1.1 0).bind fun t10 =>
(ldO false 1 q3.2 t10).bind fun t11 =>
(castI .i64 t11).bind fun n12 =>
some (decide (n12 ≥ 0))) else (some false)).bind fun b13 =>
(bif b13 then ((fA q1.1 0).bind fun t14 =>
(ldO false 1 q3.2 t14).bind fun t15 =>
(castI .i64 t15).bind fun n16 =>
some (decide (n16 < 4))) else (some false)).bind fun b17 =>
some ((.p (.bool b17)),q3.2))).bind fun q18 =>
(asB q18.1).bind fun b19 =>
fin false σ q18.2 [(.p (.bool b19))]:=by kernel_rfl
end
end Go.Ev
namespace Go.Ev
open Go.Proofs
set_option linter.unusedVariables false
set_option linter.unusedSimpArgs false
set_option maxRecDepth 100000
section
variable {β α : Type} {Q : β→α→Prop} {K : Exit × Env × H→Option α}
def p_knap_fits (x0 : TaiChoice) (x1 : Int) : Option (Bool) :=
(bif x1 == (-1) then (some true) else ((p_knap_has x0 x1).bind fun r9 =>
(bif r9 then (some (decide (x1 < ((x0.Goods.length : Int))))) else (some false)).bind fun b14 =>
(bif b14 then (some (decide (x0.Class ≥ 0))) else (some false)).bind fun b18 =>
(bif b18 then (some (decide (x0.Class < 4))) else (some false)).bind fun b22 =>
some b22)).bind fun b26 =>
some (b26)
theorem knap_fits_ok {h : H} {σ : Stamp} (x0 : TaiChoice) {u0 : List V} (hu0 : dTaiChoice.R x0 u0) (x1 : Int) : Sim (p_knap_fits x0 x1) (ev G X0 50 σ [(.agg u0),(.p (.int .i64 x1))] h) (fun r s => s = ([.v (.p (.bool r))],h)):=by
 refine .ev rfl (Sim.ext (knap_fits_entry _ _ _ _ _ _) ?_)
 rw [p_knap_fits]
 obtain ⟨v1,v3,rfl,h2,h4⟩:=dTaiChoice.inv hu0
 have S0 : Fm 29 h [] [] [] (List.replicate 29 []::h):=Fm.start0
 obtain ⟨H5,e6,S7⟩:=S0.box (own:=false) (d:=2) (s:=(0::0::0::σ)) (xs:=[(.p (.int .i64 x0.Class)),v1,v3]) (sC (sI _ _) (sC h2.still (sC h4.still sN))) (by decide) rfl
 refine .op (e6) ?_
 refine .ch (P:=fun r y => (.p (.bool r),H5) = y) ?_ (fun b26 y27 h28 h29 => ?_)
 ·refine .cq ?_ ?_
  ·exact .ret rfl rfl
  ·refine .op ((S7.atG (i:=0) rfl).ldVs (j:=0) (xs:=[(.p (.int .i64 x0.Class)),v1,v3]) rfl rfl (by decide)) ?_
   refine .call (knap_has_ok x0 hu0 x1) fun r9 cs10 H11 h12 q13 => ?_
   cases q13
   refine .ab ?_
   refine .ch (P:=fun r y => r = y) ?_ (fun b14 y15 h16 h17 => ?_)
   ·refine .cq ?_ ?_
    ·refine .fa ?_
     refine .op ((S7.atG (i:=0) rfl).ld (j:=2) rfl) ?_
     refine .op ((h4.h H5).len) ?_
     refine .ci ?_
     exact .ret rfl rfl
    ·exact .ret rfl rfl
   subst h17
   refine .ch (P:=fun r y => r = y) ?_ (fun b18 y19 h20 h21 => ?_)
   ·refine .cq ?_ ?_
    ·refine .fa ?_
     refine .op ((S7.atG (i:=0) rfl).ld (j:=0) rfl) ?_
     refine .ci ?_
     exact .ret rfl rfl
    ·exact .ret rfl rfl
   subst h21
   refine .ch (P:=fun r y => r = y) ?_ (fun b22 y23 h24 h25 => ?_)
   ·refine .cq ?_ ?_
    ·refine .fa ?_
     refine .op ((S7.atG (i:=0) rfl).ld (j:=0) rfl) ?_
     refine .ci ?_
     exact .ret rfl rfl
    ·exact .ret rfl rfl
   subst h25
   exact .ret rfl rfl
 subst h29
 refine .ab ?_
 exact .fin (S7.finN (lC (sB _).lv lN)) rfl
def p_knap_Fits_l0 {β : Type} (k : Nat) (kE0 : (List TaiChoice)→(List Int)→Int→Option β) (kE1 : Bool→Option β) (x0 : (List TaiChoice)) (x1 : (List Int)) (x2 : Int) (x14 : (List Int)) (x15 : Int) (x16 : Int) : Option β:=match k with
| 0 => none
| k + 1 =>
bif decide (x16 < x15) then (
(ix x14 x16).bind fun a11 =>
(ix x0 x16).bind fun a14 =>
(p_knap_fits a14 a11).bind fun r23 =>
bif !r23 then (
kE1 false)
else (
p_knap_Fits_l0 k kE0 kE1 x0 x1 x2 x14 x15 (IntKind.wrap .i64 (x16 + 1))))
else (
kE0 x0 x1 x2)
def p_knap_Fits (k : Nat) (x0 : (List TaiChoice)) (x1 : (List Int)) (x2 : Int) : Option (Bool) :=
bif ((x0.length : Int)) != ((x1.length : Int)) then (
some (false))
else (
p_knap_Fits_l0 k (fun r37_0 r37_1 r37_2 =>
(p_knap_Cost k r37_0 r37_1).bind fun r44 =>
some ((decide (r44 ≤ r37_2)))) (fun r49_6 =>
some (r49_6)) x0 x1 x2 x1 ((x1.length : Int)) 0)
theorem knap_Fits_l0_ok {h : H}  {kE0 : (List TaiChoice)→(List Int)→Int→Option β} {kE1 : Bool→Option β} (hE0 : ∀ (q0 : (List TaiChoice)) (q1 : (List Int)) (q2 : Int) (v31 : V) (h32 : SlH h dTaiChoice q0 v31) (v33 : V) (h34 : SlH h (dI .i64) q1 v33) (H29 : Go.Ev.H) (_ : Fm 34 h [] [] [] H29),Sim (kE0 q0 q1 q2) (K ((.exit 0),(envL [(0,v31),(1,v33),(2,(.p (.int .i64 q2)))]),H29)) Q) (hE1 : ∀ (q6 : Bool) (H35 : Go.Ev.H) (_ : Fm 34 h [] [] [] H35),Sim (kE1 q6) (K (.ret,(envL [(6,(.p (.bool q6)))]),H35)) Q) (k : Nat) : ∀ (x0 : (List TaiChoice)) (x1 : (List Int)) (x2 : Int) (x14 : (List Int)) (x15 : Int) (x16 : Int) (v4 : V) (h5 : SlH h dTaiChoice x0 v4) (v6 : V) (h7 : SlH h (dI .i64) x1 v6) (v8 : V) (h9 : SlH h (dI .i64) x14 v8) (H2 : Go.Ev.H) (_ : Fm 34 h [] [] [] H2) {σ : Stamp},Sim (p_knap_Fits_l0 k kE0 kE1 x0 x1 x2 x14 x15 x16) ((cvL G X0 knap_Fits_c0 knap_Fits_l0 σ (envL [(0,v4),(1,v6),(2,(.p (.int .i64 x2))),(14,v8),(15,(.p (.int .i64 x15))),(16,(.p (.int .i64 x16)))]) H2).bind K) Q:=by
 induction k with
 | zero => intros; exact .no
 | succ k ih =>
  intro x0 x1 x2 x14 x15 x16 v4 h5 v6 h7 v8 h9 H2 S3 σ
  rw [p_knap_Fits_l0]
  refine .round (Sim.ext (knap_Fits_r0 _ _ _ _ _ _ _ _ _ _) ?_)
  refine .cq ?_ ?_
  ·refine .bd fun a11 h12 => ?_
   refine .op ((S3.low h9).iS h12 rfl) ?_
   obtain ⟨_,rfl,hE13⟩:=(S3.low h9).el h12 rfl
   refine .op (hE13.ld (j:=0) rfl) ?_
   refine .ci ?_
   refine .bd fun a14 h15 => ?_
   refine .op ((S3.low h5).iS h15 rfl) ?_
   obtain ⟨w17,h18,hE16⟩:=(S3.low h5).el h15 rfl
   obtain ⟨v19,v21,rfl,h20,h22⟩:=dTaiChoice.inv h18
   refine .op (hE16.all (by simp)) ?_
   refine .call (knap_fits_ok a14 (show dTaiChoice.R a14 [.p (.int .i64 a14.Class),v19,v21] from (dTaiChoice.mk h20 h22)) a11) fun r23 cs24 H25 h26 q27 => ?_
   cases q27
   refine .ab ?_
   refine .cq ?_ ?_
   ·exact hE1 false H2 (S3.wk2 aN aN)
   exact ih x0 x1 x2 x14 x15 (IntKind.wrap .i64 (x16 + 1)) v4 h5 v6 h7 v8 h9 H2 (S3.wk2 aN aN)
  exact hE0 x0 x1 x2 v4 h5 v6 h7 H2 (S3.wk2 aN aN)
theorem knap_Fits_ok (k : Nat) {h : H} {σ : Stamp} (x0 : List TaiChoice) {u0 : V} (hu0 : SlH h dTaiChoice x0 u0) (x1 : List Int) {u1 : V} (hu1 : SlH h (dI .i64) x1 u1) (x2 : Int) : Sim (p_knap_Fits k x0 x1 x2) (ev G X0 30 σ [u0,u1,(.p (.int .i64 x2))] h) (fun r s => s = ([.v (.p (.bool r))],h)):=by
 refine .ev rfl (Sim.ext (knap_Fits_entry _ _ _ _ _ _ _) ?_)
 rw [p_knap_Fits]
 have S0 : Fm 34 h [] [] [] (List.replicate 34 []::h):=Fm.start0
 refine .op ((S0.low hu0).len) ?_
 refine .ci ?_
 refine .op ((S0.low hu1).len) ?_
 refine .ci ?_
 refine .cq ?_ ?_
 ·exact .fin (S0.finN (lC (sB _).lv lN)) rfl
 refine .op ((S0.low hu1).len) ?_
 refine .ci ?_
 refine .as (knap_Fits_l0_ok ?_ ?_ k x0 x1 x2 x1 ((x1.length : Int)) 0 u0 hu0 u1 hu1 u1 hu1 (List.replicate 34 []::h) (S0.wk2 aN aN))
 ·intro r37_0 r37_1 r37_2 v40 h41 v42 h43 H38 S39
  refine .ext (knap_Fits_a0_0 _ _ _ _ _ _ _) ?_
  refine .call (knap_Cost_ok k r37_0 (S39.low h41) r37_1 (S39.low h43)) fun r44 cs45 H46 h47 q48 => ?_
  cases q48
  refine .ci ?_
  exact .fin (S39.finN (lC (sB _).lv lN)) rfl
 ·intro r49_6 H50 S51
  refine .ext (knap_Fits_a0_ret _ _ _ _ _) ?_
  exact .fin (S51.finN (lC (sB _).lv lN)) rfl
end
end Go.Ev
namespace Go.Ev
open Go.Proofs
set_option linter.unusedVariables false
set_option linter.unusedSimpArgs false
set_option maxRecDepth 100000
noncomputable section
abbrev KT4:=Exit→Env→H→Option (List C × H)
variable (rec : CallF) (loop : LoopV) (σ : Stamp)
def knap_Good_c0 : Code:=(codeAt (bodyOf Try.f32) [1,1,0,1,0,0])
def knap_Good_l0 : Lv:=⟨48,16,[(0,48)]⟩
def knap_Good_k0 : KT4:=(kBlock 0 (kSeq G rec loop (codeAt (bodyOf Try.f32) [1,1,1]) ⟨16,16,[]⟩ (1::1::0::σ) (finC G false Try.f32 (1::σ))))
theorem knap_Good_entry (x0 : V) (x1 : V) (h : H) : cvBody G rec loop 32 σ [x0,x1] h =
(some (alO [.p (.int .i64 0),.p (.int .i64 0),.p (.int .i64 0),.p (.int .i64 0)] (0::0::0::σ) 4 (List.replicate 52 []::h))).bind fun q1 =>
(some (alO [.p (.int .i64 0),.p (.int .i64 0),.p (.int .i64 0),.p (.int .i64 0)] (0::0::1::0::σ) 5 q1.2)).bind fun q2 =>
(lenO x1).bind fun t3 =>
(castI .i64 t3).bind fun n4 =>
(lenO x0).bind fun t5 =>
(castI .i64 t5).bind fun n6 =>
(slS 1 x1 none (some ((if n6 < n4 then n6 else n4))) none).bind fun t7 =>
(lenO t7).bind fun t8 =>
(castI .i64 t8).bind fun n9 =>
(loop knap_Good_c0 knap_Good_l0 (1::0::1::1::0::σ) (envL [(0,x0),(4,q1.1),(5,q2.1),(14,t7),(15,(.p (.int .i64 n9))),(16,(.p (.int .i64 0)))]) q2.2).bind fun r10 => knap_Good_k0 rec loop σ r10.1 r10.2.1 r10.2.2:=by kernel_rfl
theorem knap_Good_r0 (x0 : V) (x4 : V) (x5 : V) (x14 : V) (x15 : Int) (x16 : Int) (h : H) : cvRound G rec loop knap_Good_c0 knap_Good_l0 σ (envL [(0,x0),(4,x4),(5,x5),(14,x14),(15,(.p (.int .i64 x15))),(16,(.p (.int .i64 x16)))]) h =
bif decide (x16 < x15) then (
(iS 1 x14 x16).bind fun t11 =>
(ldO false 1 h t11).bind fun t12 =>
(castI .i64 t12).bind fun n13 =>
(bif decide (n13 ≥ 0) then ((iS 3 x0 x16).bind fun t14 =>
(ldO true 3 h t14).bind fun t15 =>
(callO rec 50 (8::0::1::0::1::1::0::σ) [t15,(.p (.int .i64 n13))] h (some 29)).bind fun q16 =>
(asB q16.1).bind fun b17 =>
some ((.p (.bool b17)),q16.2)) else (some ((.p (.bool false)),h))).bind fun q18 =>
(asB q18.1).bind fun b19 =>
bif b19 then (
(iS 3 x0 x16).bind fun t20 =>
(fA t20 0).bind fun t21 =>
(ldO false 1 q18.2 t21).bind fun t22 =>
(castI .i64 t22).bind fun n23 =>
(iA 4 1 x5 n23).bind fun t24 =>
(ldO false 1 q18.2 t24).bind fun t25 =>
(castI .i64 t25).bind fun n26 =>
(iS 3 x0 x16).bind fun t27 =>
(fA t27 2).bind fun t28 =>
(ldO false 1 q18.2 t28).bind fun t29 =>
(iS 1 t29 n13).bind fun t30 =>
(ldO false 1 q18.2 t30).bind fun t31 =>
(castI .i64 t31).bind fun n32 =>
(iA 4 1 x5 n23).bind fun t33 =>
((stO true 1 (19::1::1::0::1::1::0::σ) q18.2 t33 (.p (.int .i64 (IntKind.wrap .i64 (n26 + ((if ((if 1073741824 < n32 then 1073741824 else n32)) > 0 then ((if 1073741824 < n32 then 1073741824 else n32)) else 0))))))).map fun h => (udf,h)).bind fun q34 =>
loop knap_Good_c0 knap_Good_l0 (1::σ) (envL [(0,x0),(4,x4),(5,x5),(14,x14),(15,(.p (.int .i64 x15))),(16,(.p (.int .i64 (IntKind.wrap .i64 (x16 + 1)))))]) q34.2)
else (
loop knap_Good_c0 knap_Good_l0 (1::σ) (envL [(0,x0),(4,x4),(5,x5),(14,x14),(15,(.p (.int .i64 x15))),(16,(.p (.int .i64 (IntKind.wrap .i64 (x16 + 1)))))]) q18.2))
else (
some ((.exit 0),(envL [(4,x4),(5,x5)]),h)):=by kernel_rfl
theorem knap_Good_a0_0 (x4 : V) (x5 : V) (h : H) : knap_Good_k0 rec loop σ (.exit 0) (envL [(4,x4),(5,x5)]) h =
(ldO true 4 h x5).bind fun t35 =>
((stO false 4 (1::0::1::1::1::0::σ) h x4 t35).map fun h => (udf,h)).bind fun q36 =>
((ldO true 4 q36.2 x4).bind fun t37 => (some []).map (t37::·)).bind fun t38 => fin false σ q36.2 t38:=by kernel_rfl
end
end Go.Ev
namespace Go.Ev
open Go.Proofs
set_option linter.unusedVariables false
set_option linter.unusedSimpArgs false
set_option maxRecDepth 100000
section
variable {β α : Type} {Q : β→α→Prop} {K : Exit × Env × H→Option α}
def p_knap_Good_l0 {β : Type} (k : Nat) (kE0 : (List Int)→(List Int)→Option β) (x0 : (List TaiChoice)) (x14 : (List Int)) (x15 : Int) (x16 : Int) (yg4 : (List Int)) (yg8 : (List Int)) : Option β:=match k with
| 0 => none
| k + 1 =>
bif decide (x16 < x15) then (
(ix x14 x16).bind fun a22 =>
(bif decide (a22 ≥ 0) then ((ix x0 x16).bind fun a25 =>
(p_knap_fits a25 a22).bind fun r34 =>
some r34) else (some false)).bind fun b39 =>
bif b39 then (
(ix x0 x16).bind fun a44 =>
(ix [((yg8.getD 0 0)),((yg8.getD 1 0)),((yg8.getD 2 0)),((yg8.getD 3 0))] a44.Class).bind fun a60 =>
(ix x0 x16).bind fun a62 =>
(ix a62.Goods a22).bind fun a78 =>
(ix [((yg8.getD 0 0)),((yg8.getD 1 0)),((yg8.getD 2 0)),((yg8.getD 3 0))] a44.Class).bind fun a81 =>
(stx [((yg8.getD 0 0)),((yg8.getD 1 0)),((yg8.getD 2 0)),((yg8.getD 3 0))] a44.Class (IntKind.wrap .i64 (a60 + ((if ((if 1073741824 < a78 then 1073741824 else a78)) > 0 then ((if 1073741824 < a78 then 1073741824 else a78)) else 0))))).bind fun a86 =>
p_knap_Good_l0 k kE0 x0 x14 x15 (IntKind.wrap .i64 (x16 + 1)) ([((yg4.getD 0 0)),((yg4.getD 1 0)),((yg4.getD 2 0)),((yg4.getD 3 0))]) ([((a86.getD 0 0)),((a86.getD 1 0)),((a86.getD 2 0)),((a86.getD 3 0))]))
else (
p_knap_Good_l0 k kE0 x0 x14 x15 (IntKind.wrap .i64 (x16 + 1)) ([((yg4.getD 0 0)),((yg4.getD 1 0)),((yg4.getD 2 0)),((yg4.getD 3 0))]) ([((yg8.getD 0 0)),((yg8.getD 1 0)),((yg8.getD 2 0)),((yg8.getD 3 0))])))
else (
kE0 ([((yg4.getD 0 0)),((yg4.getD 1 0)),((yg4.getD 2 0)),((yg4.getD 3 0))]) ([((yg8.getD 0 0)),((yg8.getD 1 0)),((yg8.getD 2 0)),((yg8.getD 3 0))]))
def p_knap_Good (k : Nat) (x0 : (List TaiChoice)) (x1 : (List Int)) : Option ((List Int)) :=
(sub x1 0 ((if ((x0.length : Int)) < ((x1.length : Int)) then ((x0.length : Int)) else ((x1.length : Int))))).bind fun a9 =>
p_knap_Good_l0 k (fun yg18 yg20 =>
some (([((yg20.getD 0 0)),((yg20.getD 1 0)),((yg20.getD 2 0)),((yg20.getD 3 0))]))) x0 a9 ((a9.length : Int)) 0 ([0,0,0,0]) ([0,0,0,0])
theorem knap_Good_l0_ok {h : H}  {kE0 : (List Int)→(List Int)→Option β} (hE0 : ∀ (yg18 : (List Int)) (yg20 : (List Int)) (s90 : Stamp) (s92 : Stamp) (H88 : Go.Ev.H) (_ : Fm 52 h [] [(4,s90,List.map C.v [(.p (.int .i64 ((yg18.getD 0 0)))),(.p (.int .i64 ((yg18.getD 1 0)))),(.p (.int .i64 ((yg18.getD 2 0)))),(.p (.int .i64 ((yg18.getD 3 0))))]),(5,s92,List.map C.v [(.p (.int .i64 ((yg20.getD 0 0)))),(.p (.int .i64 ((yg20.getD 1 0)))),(.p (.int .i64 ((yg20.getD 2 0)))),(.p (.int .i64 ((yg20.getD 3 0))))])] [] H88),Sim (kE0 yg18 yg20) (K ((.exit 0),(envL [(4,(.ref ⟨h.length,4,0,s90,[]⟩ 0)),(5,(.ref ⟨h.length,5,0,s92,[]⟩ 0))]),H88)) Q) (k : Nat) : ∀ (x0 : (List TaiChoice)) (x14 : (List Int)) (x15 : Int) (x16 : Int) (yg4 : (List Int)) (yg8 : (List Int)) (v13 : V) (h14 : SlH h dTaiChoice x0 v13) (v15 : V) (h16 : SlH h (dI .i64) x14 v15) (s17 : Stamp) (s19 : Stamp) (H11 : Go.Ev.H) (_ : Fm 52 h [] [(4,s17,List.map C.v [(.p (.int .i64 ((yg4.getD 0 0)))),(.p (.int .i64 ((yg4.getD 1 0)))),(.p (.int .i64 ((yg4.getD 2 0)))),(.p (.int .i64 ((yg4.getD 3 0))))]),(5,s19,List.map C.v [(.p (.int .i64 ((yg8.getD 0 0)))),(.p (.int .i64 ((yg8.getD 1 0)))),(.p (.int .i64 ((yg8.getD 2 0)))),(.p (.int .i64 ((yg8.getD 3 0))))])] [] H11) {σ : Stamp},Sim (p_knap_Good_l0 k kE0 x0 x14 x15 x16 yg4 yg8) ((cvL G X0 knap_Good_c0 knap_Good_l0 σ (envL [(0,v13),(4,(.ref ⟨h.length,4,0,s17,[]⟩ 0)),(5,(.ref ⟨h.length,5,0,s19,[]⟩ 0)),(14,v15),(15,(.p (.int .i64 x15))),(16,(.p (.int .i64 x16)))]) H11).bind K) Q:=by
 induction k with
 | zero => intros; exact .no
 | succ k ih =>
  intro x0 x14 x15 x16 yg4 yg8 v13 h14 v15 h16 s17 s19 H11 S12 σ
  rw [p_knap_Good_l0]
  refine .round (Sim.ext (knap_Good_r0 _ _ _ _ _ _ _ _ _ _) ?_)
  refine .cq ?_ ?_
  ·refine .bd fun a22 h23 => ?_
   refine .op ((S12.low h16).iS h23 rfl) ?_
   obtain ⟨_,rfl,hE24⟩:=(S12.low h16).el h23 rfl
   refine .op (hE24.ld (j:=0) rfl) ?_
   refine .ci ?_
   refine .ch (P:=fun r y => (.p (.bool r),H11) = y) ?_ (fun b39 y40 h41 h42 => ?_)
   ·refine .cq ?_ ?_
    ·refine .bd fun a25 h26 => ?_
     refine .op ((S12.low h14).iS h26 rfl) ?_
     obtain ⟨w28,h29,hE27⟩:=(S12.low h14).el h26 rfl
     obtain ⟨v30,v32,rfl,h31,h33⟩:=dTaiChoice.inv h29
     refine .op (hE27.all (by simp)) ?_
     refine .call (knap_fits_ok a25 (show dTaiChoice.R a25 [.p (.int .i64 a25.Class),v30,v32] from (dTaiChoice.mk h31 h33)) a22) fun r34 cs35 H36 h37 q38 => ?_
     cases q38
     refine .ab ?_
     exact .ret rfl rfl
    ·exact .ret rfl rfl
   subst h42
   refine .ab ?_
   refine .cq ?_ ?_
   ·refine .bd fun a44 h45 => ?_
    refine .op ((S12.low h14).iS h45 rfl) ?_
    obtain ⟨w47,h48,hE46⟩:=(S12.low h14).el h45 rfl
    obtain ⟨v49,v51,rfl,h50,h52⟩:=dTaiChoice.inv h48
    refine .op (hE46.fa (j:=0) (by simp)) ?_
    obtain ⟨w54,h55,hE53⟩:=(S12.low h14).el h45 rfl
    obtain ⟨v56,v58,rfl,h57,h59⟩:=dTaiChoice.inv h55
    refine .op (hE53.ld (j:=0) rfl) ?_
    refine .ci ?_
    refine .bd fun a60 h61 => ?_
    refine .op (iA_ok h61 rfl) ?_
    refine .op ((S12.atG (i:=1) rfl).ldIx (xs:=[((yg8.getD 0 0)),((yg8.getD 1 0)),((yg8.getD 2 0)),((yg8.getD 3 0))]) (j:=0) (n:=4) (f:=fun z => .p (.int .i64 z)) rfl h61 rfl) ?_
    refine .ci ?_
    refine .bd fun a62 h63 => ?_
    refine .op ((S12.low h14).iS h63 rfl) ?_
    obtain ⟨w65,h66,hE64⟩:=(S12.low h14).el h63 rfl
    obtain ⟨v67,v69,rfl,h68,h70⟩:=dTaiChoice.inv h66
    refine .op (hE64.fa (j:=2) (by simp)) ?_
    obtain ⟨w72,h73,hE71⟩:=(S12.low h14).el h63 rfl
    obtain ⟨v74,v76,rfl,h75,h77⟩:=dTaiChoice.inv h73
    refine .op (hE71.ld (j:=2) rfl) ?_
    refine .bd fun a78 h79 => ?_
    refine .op ((h77.h H11).iS h79 rfl) ?_
    obtain ⟨_,rfl,hE80⟩:=(h77.h H11).el h79 rfl
    refine .op (hE80.ld (j:=0) rfl) ?_
    refine .ci ?_
    refine .bd fun a81 h82 => ?_
    refine .op (iA_ok h82 rfl) ?_
    refine .bd fun a86 h87 => ?_
    obtain ⟨H83,e84,S85⟩:=S12.stIxG (i:=1) (j:=0) (n:=4) (own:=true) (σ:=(19::1::1::0::1::1::0::σ)) (xs:=[((yg8.getD 0 0)),((yg8.getD 1 0)),((yg8.getD 2 0)),((yg8.getD 3 0))]) (f:=fun z => .p (.int .i64 z)) (y:=(IntKind.wrap .i64 (a60 + ((if ((if 1073741824 < a78 then 1073741824 else a78)) > 0 then ((if 1073741824 < a78 then 1073741824 else a78)) else 0))))) rfl rfl (fun _ => sI _ _) rfl h87 rfl 0
    refine .op (sM e84) ?_
    exact ih x0 x14 x15 (IntKind.wrap .i64 (x16 + 1)) ([((yg4.getD 0 0)),((yg4.getD 1 0)),((yg4.getD 2 0)),((yg4.getD 3 0))]) ([((a86.getD 0 0)),((a86.getD 1 0)),((a86.getD 2 0)),((a86.getD 3 0))]) v13 h14 v15 h16 s17 s19 H83 (S85.wk2 (aC (aM 0 rfl) (aC (aM 1 rfl) aN)) aN)
   exact ih x0 x14 x15 (IntKind.wrap .i64 (x16 + 1)) ([((yg4.getD 0 0)),((yg4.getD 1 0)),((yg4.getD 2 0)),((yg4.getD 3 0))]) ([((yg8.getD 0 0)),((yg8.getD 1 0)),((yg8.getD 2 0)),((yg8.getD 3 0))]) v13 h14 v15 h16 s17 s19 H11 (S12.wk2 (aC (aM 0 rfl) (aC (aM 1 rfl) aN)) aN)
  exact hE0 ([((yg4.getD 0 0)),((yg4.getD 1 0)),((yg4.getD 2 0)),((yg4.getD 3 0))]) ([((yg8.getD 0 0)),((yg8.getD 1 0)),((yg8.getD 2 0)),((yg8.getD 3 0))]) s17 s19 H11 (S12.wk2 (aC (aM 0 rfl) (aC (aM 1 rfl) aN)) aN)
theorem knap_Good_ok (k : Nat) {h : H} {σ : Stamp} (x0 : List TaiChoice) {u0 : V} (hu0 : SlH h dTaiChoice x0 u0) (x1 : List Int) {u1 : V} (hu1 : SlH h (dI .i64) x1 u1) : Sim (p_knap_Good k x0 x1) (ev G X0 32 σ [u0,u1] h) (fun r s => ∃ (w0 : List V),(dA 4 (dI .i64)).R r w0∧s = ([.v (.agg w0)],h)):=by
 refine .ev rfl (Sim.ext (knap_Good_entry _ _ _ _ _ _) ?_)
 rw [p_knap_Good]
 have S0 : Fm 52 h [] [] [] (List.replicate 52 []::h):=Fm.start0
 obtain ⟨H1,e2,S3⟩:=S0.al (d:=4) (s:=(0::0::0::σ)) (z:=[(.p (.int .i64 0)),(.p (.int .i64 0)),(.p (.int .i64 0)),(.p (.int .i64 0))]) (by decide) rfl
 refine .op (congrArg some e2) ?_
 obtain ⟨H5,e6,S7⟩:=S3.al (d:=5) (s:=(0::0::1::0::σ)) (z:=[(.p (.int .i64 0)),(.p (.int .i64 0)),(.p (.int .i64 0)),(.p (.int .i64 0))]) (by decide) rfl
 refine .op (congrArg some e6) ?_
 refine .op ((S7.low hu1).len) ?_
 refine .ci ?_
 refine .op ((S7.low hu0).len) ?_
 refine .ci ?_
 refine .bd fun a9 h10 => ?_
 refine .op ((S7.low hu1).slS h10 rfl rfl rfl) ?_
 refine .op (((S7.low hu1).sub h10 (e:=1) rfl).len) ?_
 refine .ci ?_
 refine .as (knap_Good_l0_ok ?_ k x0 a9 ((a9.length : Int)) 0 ([0,0,0,0]) ([0,0,0,0]) u0 hu0 (subV 1 u1 (Int.toNat (0)) (Int.toNat ((if ((x0.length : Int)) < ((x1.length : Int)) then ((x0.length : Int)) else ((x1.length : Int)))))) (hu1.sub h10 (e:=1) rfl) (0::0::0::σ) (0::0::1::0::σ) H5 (S7.wk2 (aC (aM 1 rfl) (aC (aM 0 rfl) aN)) aN))
 ·intro yg18 yg20 s97 s99 H95 S96
  refine .ext (knap_Good_a0_0 _ _ _ _ _ _) ?_
  refine .op ((S96.atG (i:=1) rfl).ldVs (j:=0) (xs:=[.p (.int .i64 ((yg20.getD 0 0))),.p (.int .i64 ((yg20.getD 1 0))),.p (.int .i64 ((yg20.getD 2 0))),.p (.int .i64 ((yg20.getD 3 0)))]) rfl rfl (by decide)) ?_
  obtain ⟨H101,e102,S103⟩:=S96.stGv (i:=0) (j:=0) (own:=false) (σ:=(1::0::1::1::1::0::σ)) (xs:=[.p (.int .i64 ((yg20.getD 0 0))),.p (.int .i64 ((yg20.getD 1 0))),.p (.int .i64 ((yg20.getD 2 0))),.p (.int .i64 ((yg20.getD 3 0)))]) rfl rfl (sC (sI _ _) (sC (sI _ _) (sC (sI _ _) (sC (sI _ _) sN)))) rfl rfl
  refine .op (sM e102) ?_
  have e104 : ldO true 4 H101 (.ref ⟨h.length,4,0,s97,[]⟩ 0) = some (.agg [.p (.int .i64 ((yg20.getD 0 0))),.p (.int .i64 ((yg20.getD 1 0))),.p (.int .i64 ((yg20.getD 2 0))),.p (.int .i64 ((yg20.getD 3 0)))]):=(S103.atG (i:=0) rfl).ldVs (j:=0) rfl rfl (by decide)
  refine .op (congrArg (Option.bind · _) e104) ?_
  exact .fin (S103.finN (lC (Stills.lv ((dA 4 (dI .i64)).still (⟨rfl,dI_map [((yg20.getD 0 0)),((yg20.getD 1 0)),((yg20.getD 2 0)),((yg20.getD 3 0))]⟩ : (dA 4 (dI .i64)).R [((yg20.getD 0 0)),((yg20.getD 1 0)),((yg20.getD 2 0)),((yg20.getD 3 0))] [.p (.int .i64 ((yg20.getD 0 0))),.p (.int .i64 ((yg20.getD 1 0))),.p (.int .i64 ((yg20.getD 2 0))),.p (.int .i64 ((yg20.getD 3 0)))]))) lN)) ⟨_,(⟨rfl,dI_map [((yg20.getD 0 0)),((yg20.getD 1 0)),((yg20.getD 2 0)),((yg20.getD 3 0))]⟩ : (dA 4 (dI .i64)).R [((yg20.getD 0 0)),((yg20.getD 1 0)),((yg20.getD 2 0)),((yg20.getD 3 0))] [.p (.int .i64 ((yg20.getD 0 0))),.p (.int .i64 ((yg20.getD 1 0))),.p (.int .i64 ((yg20.getD 2 0))),.p (.int .i64 ((yg20.getD 3 0)))]),rfl⟩
end
end Go.Ev
namespace Go.Ev
open Go.Proofs
set_option linter.unusedVariables false
set_option linter.unusedSimpArgs false
set_option maxRecDepth 100000
noncomputable section
abbrev KT5:=Exit→Env→H→Option (List C × H)
variable (rec : CallF) (loop : LoopV) (σ : Stamp)
theorem knap_Better_entry (x0 : V) (x1 : V) (h : H) : cvBody G rec loop 33 σ [x0,x1] h =
(boxO false (0::0::0::σ) 2 (List.replicate 9 []::h) x0).bind fun q1 =>
(boxO false (1::0::0::σ) 3 q1.2 x1).bind fun q2 =>
(slA 4 1 q2.2 q1.1 none none none).bind fun t3 =>
(slA 4 1 q2.2 q2.1 none none none).bind fun t4 =>
(callO rec 52 (2::0::1::0::σ) [t3,t4] q2.2 (some 7)).bind fun q5 =>
(castI .i64 q5.1).bind fun n6 =>
fin false σ q5.2 [(.p (.bool (decide (n6 > 0))))]:=by kernel_rfl
def slices_Compare_Lint_int_c0 : Code:=(codeAt (bodyOf Try.f52) [1,0,1,0,0])
def slices_Compare_Lint_int_l0 : Lv:=⟨3,16,[(0,3)]⟩
def slices_Compare_Lint_int_k0 : KT5:=(kBlock 0 (kSeq G rec loop (codeAt (bodyOf Try.f52) [1,1]) ⟨16,16,[]⟩ (1::0::σ) (finC G false Try.f52 (1::σ))))
theorem slices_Compare_Lint_int_entry (x0 : V) (x1 : V) (h : H) : cvBody G rec loop 52 σ [x0,x1] h =
(lenO x0).bind fun t1 =>
(castI .i64 t1).bind fun n2 =>
(loop slices_Compare_Lint_int_c0 slices_Compare_Lint_int_l0 (1::0::1::0::σ) (envL [(0,x0),(1,x1),(9,x0),(10,(.p (.int .i64 n2))),(11,(.p (.int .i64 0)))]) (List.replicate 36 []::h)).bind fun r3 => slices_Compare_Lint_int_k0 rec loop σ r3.1 r3.2.1 r3.2.2:=by kernel_rfl
theorem slices_Compare_Lint_int_r0 (x0 : V) (x1 : V) (x9 : V) (x10 : Int) (x11 : Int) (h : H) : cvRound G rec loop slices_Compare_Lint_int_c0 slices_Compare_Lint_int_l0 σ (envL [(0,x0),(1,x1),(9,x9),(10,(.p (.int .i64 x10))),(11,(.p (.int .i64 x11)))]) h =
bif decide (x11 < x10) then (
(iS 1 x9 x11).bind fun t4 =>
(ldO false 1 h t4).bind fun t5 =>
(castI .i64 t5).bind fun n6 =>
(lenO x1).bind fun t7 =>
(castI .i64 t7).bind fun n8 =>
bif decide (x11 ≥ n8) then (
some (.ret,(envL [(4,(.p (.int .i64 1)))]),h))
else (
(iS 1 x1 x11).bind fun t9 =>
(ldO false 1 h t9).bind fun t10 =>
(castI .i64 t10).bind fun n11 =>
(callO rec 57 (2::0::1::1::1::0::1::1::0::σ) [(.p (.int .i64 n6)),(.p (.int .i64 n11))] h (some 26)).bind fun q12 =>
(castI .i64 q12.1).bind fun n13 =>
bif n13 != 0 then (
some (.ret,(envL [(4,(.p (.int .i64 n13)))]),q12.2))
else (
loop slices_Compare_Lint_int_c0 slices_Compare_Lint_int_l0 (1::σ) (envL [(0,x0),(1,x1),(9,x9),(10,(.p (.int .i64 x10))),(11,(.p (.int .i64 (IntKind.wrap .i64 (x11 + 1)))))]) q12.2)))
else (
some ((.exit 0),(envL [(0,x0),(1,x1)]),h)):=by kernel_rfl
theorem slices_Compare_Lint_int_a0_0 (x0 : V) (x1 : V) (h : H) : slices_Compare_Lint_int_k0 rec loop σ (.exit 0) (envL [(0,x0),(1,x1)]) h =
(lenO x0).bind fun t14 =>
(castI .i64 t14).bind fun n15 =>
(lenO x1).bind fun t16 =>
(castI .i64 t16).bind fun n17 =>
bif decide (n15 < n17) then (
fin false σ h [(.p (.int .i64 (-1)))])
else (
fin false σ h [(.p (.int .i64 0))]):=by kernel_rfl
theorem slices_Compare_Lint_int_a0_ret (x4 : Int) (h : H) : slices_Compare_Lint_int_k0 rec loop σ .ret (envL [(4,(.p (.int .i64 x4)))]) h =
fin false σ h [(.p (.int .i64 x4))]:=by kernel_rfl
theorem cmp_Compare_int_entry (x0 : Int) (x1 : Int) (h : H) : cvBody G rec loop 57 σ [(.p (.int .i64 x0)),(.p (.int .i64 x1))] h =
(callO rec 58 (1::0::1::0::σ) [(.p (.int .i64 x0))] (List.replicate 20 []::h) (some 8)).bind fun q1 =>
(asB q1.1).bind fun b2 =>
(callO rec 58 (1::0::1::1::0::σ) [(.p (.int .i64 x1))] q1.2 (some 10)).bind fun q3 =>
(asB q3.1).bind fun b4 =>
bif b2 then (
bif b4 then (
fin false σ q3.2 [(.p (.int .i64 0))])
else (
fin false σ q3.2 [(.p (.int .i64 (-1)))]))
else (
bif b4 then (
fin false σ q3.2 [(.p (.int .i64 1))])
else (
bif decide (x0 < x1) then (
fin false σ q3.2 [(.p (.int .i64 (-1)))])
else (
bif decide (x0 > x1) then (
fin false σ q3.2 [(.p (.int .i64 1))])
else (
fin false σ q3.2 [(.p (.int .i64 0))])))):=by kernel_rfl
theorem cmp_isNaN_int_entry (x0 : Int) (h : H) : cvBody G rec loop 58 σ [(.p (.int .i64 x0))] h =
fin false σ (List.replicate 6 []::h) [(.p (.bool (x0 != x0)))]:=by kernel_rfl
end
end Go.Ev
namespace Go.Ev
open Go.Proofs
set_option linter.unusedVariables false
set_option linter.unusedSimpArgs false
set_option maxRecDepth 100000
section
variable {β α : Type} {Q : β→α→Prop} {K : Exit × Env × H→Option α}
def p_cmp_isNaN_int (x0 : Int) : Option (Bool) :=
some ((x0 != x0))
theorem cmp_isNaN_int_ok {h : H} {σ : Stamp} (x0 : Int) : Sim (p_cmp_isNaN_int x0) (ev G X0 58 σ [(.p (.int .i64 x0))] h) (fun r s => s = ([.v (.p (.bool r))],h)):=by
 refine .ev rfl (Sim.ext (cmp_isNaN_int_entry _ _ _ _ _) ?_)
 rw [p_cmp_isNaN_int]
 have S0 : Fm 6 h [] [] [] (List.replicate 6 []::h):=Fm.start0
 exact .fin (S0.finN (lC (sB _).lv lN)) rfl
def p_cmp_Compare_int (x0 : Int) (x1 : Int) : Option (Int) :=
(p_cmp_isNaN_int x0).bind fun r1 =>
(p_cmp_isNaN_int x1).bind fun r6 =>
bif r1 then (
bif r6 then (
some (0))
else (
some ((-1))))
else (
bif r6 then (
some (1))
else (
bif decide (x0 < x1) then (
some ((-1)))
else (
bif decide (x0 > x1) then (
some (1))
else (
some (0)))))
theorem cmp_Compare_int_ok {h : H} {σ : Stamp} (x0 : Int) (x1 : Int) : Sim (p_cmp_Compare_int x0 x1) (ev G X0 57 σ [(.p (.int .i64 x0)),(.p (.int .i64 x1))] h) (fun r s => s = ([.v (.p (.int .i64 r))],h)):=by
 refine .ev rfl (Sim.ext (cmp_Compare_int_entry _ _ _ _ _ _) ?_)
 rw [p_cmp_Compare_int]
 have S0 : Fm 20 h [] [] [] (List.replicate 20 []::h):=Fm.start0
 refine .call (cmp_isNaN_int_ok x0) fun r1 cs2 H3 h4 q5 => ?_
 cases q5
 refine .ab ?_
 refine .call (cmp_isNaN_int_ok x1) fun r6 cs7 H8 h9 q10 => ?_
 cases q10
 refine .ab ?_
 refine .cq ?_ ?_
 ·refine .cq ?_ ?_
  ·exact .fin (S0.finN (lC (sI _ _).lv lN)) rfl
  exact .fin (S0.finN (lC (sI _ _).lv lN)) rfl
 refine .cq ?_ ?_
 ·exact .fin (S0.finN (lC (sI _ _).lv lN)) rfl
 refine .cq ?_ ?_
 ·exact .fin (S0.finN (lC (sI _ _).lv lN)) rfl
 refine .cq ?_ ?_
 ·exact .fin (S0.finN (lC (sI _ _).lv lN)) rfl
 exact .fin (S0.finN (lC (sI _ _).lv lN)) rfl
def p_slices_Compare_Lint_int_l0 {β : Type} (k : Nat) (kE0 : (List Int)→(List Int)→Option β) (kE1 : Int→Option β) (x0 : (List Int)) (x1 : (List Int)) (x9 : (List Int)) (x10 : Int) (x11 : Int) : Option β:=match k with
| 0 => none
| k + 1 =>
bif decide (x11 < x10) then (
(ix x9 x11).bind fun a10 =>
bif decide (x11 ≥ ((x1.length : Int))) then (
kE1 1)
else (
(ix x1 x11).bind fun a14 =>
(p_cmp_Compare_int a10 a14).bind fun r17 =>
bif r17 != 0 then (
kE1 r17)
else (
p_slices_Compare_Lint_int_l0 k kE0 kE1 x0 x1 x9 x10 (IntKind.wrap .i64 (x11 + 1)))))
else (
kE0 x0 x1)
def p_slices_Compare_Lint_int (k : Nat) (x0 : (List Int)) (x1 : (List Int)) : Option (Int) :=
p_slices_Compare_Lint_int_l0 k (fun r31_0 r31_1 =>
bif decide (((r31_0.length : Int)) < ((r31_1.length : Int))) then (
some ((-1)))
else (
some (0))) (fun r39_4 =>
some (r39_4)) x0 x1 x0 ((x0.length : Int)) 0
theorem slices_Compare_Lint_int_l0_ok {h : H}  {kE0 : (List Int)→(List Int)→Option β} {kE1 : Int→Option β} (hE0 : ∀ (q0 : (List Int)) (q1 : (List Int)) (v25 : V) (h26 : SlH h (dI .i64) q0 v25) (v27 : V) (h28 : SlH h (dI .i64) q1 v27) (H23 : Go.Ev.H) (_ : Fm 36 h [] [] [] H23),Sim (kE0 q0 q1) (K ((.exit 0),(envL [(0,v25),(1,v27)]),H23)) Q) (hE1 : ∀ (q4 : Int) (H29 : Go.Ev.H) (_ : Fm 36 h [] [] [] H29),Sim (kE1 q4) (K (.ret,(envL [(4,(.p (.int .i64 q4)))]),H29)) Q) (k : Nat) : ∀ (x0 : (List Int)) (x1 : (List Int)) (x9 : (List Int)) (x10 : Int) (x11 : Int) (v3 : V) (h4 : SlH h (dI .i64) x0 v3) (v5 : V) (h6 : SlH h (dI .i64) x1 v5) (v7 : V) (h8 : SlH h (dI .i64) x9 v7) (H1 : Go.Ev.H) (_ : Fm 36 h [] [] [] H1) {σ : Stamp},Sim (p_slices_Compare_Lint_int_l0 k kE0 kE1 x0 x1 x9 x10 x11) ((cvL G X0 slices_Compare_Lint_int_c0 slices_Compare_Lint_int_l0 σ (envL [(0,v3),(1,v5),(9,v7),(10,(.p (.int .i64 x10))),(11,(.p (.int .i64 x11)))]) H1).bind K) Q:=by
 induction k with
 | zero => intros; exact .no
 | succ k ih =>
  intro x0 x1 x9 x10 x11 v3 h4 v5 h6 v7 h8 H1 S2 σ
  rw [p_slices_Compare_Lint_int_l0]
  refine .round (Sim.ext (slices_Compare_Lint_int_r0 _ _ _ _ _ _ _ _ _) ?_)
  refine .cq ?_ ?_
  ·refine .bd fun a10 h11 => ?_
   refine .op ((S2.low h8).iS h11 rfl) ?_
   obtain ⟨_,rfl,hE12⟩:=(S2.low h8).el h11 rfl
   refine .op (hE12.ld (j:=0) rfl) ?_
   refine .ci ?_
   refine .op ((S2.low h6).len) ?_
   refine .ci ?_
   refine .cq ?_ ?_
   ·exact hE1 1 H1 (S2.wk2 aN aN)
   refine .bd fun a14 h15 => ?_
   refine .op ((S2.low h6).iS h15 rfl) ?_
   obtain ⟨_,rfl,hE16⟩:=(S2.low h6).el h15 rfl
   refine .op (hE16.ld (j:=0) rfl) ?_
   refine .ci ?_
   refine .call (cmp_Compare_int_ok a10 a14) fun r17 cs18 H19 h20 q21 => ?_
   cases q21
   refine .ci ?_
   refine .cq ?_ ?_
   ·exact hE1 r17 H1 (S2.wk2 aN aN)
   exact ih x0 x1 x9 x10 (IntKind.wrap .i64 (x11 + 1)) v3 h4 v5 h6 v7 h8 H1 (S2.wk2 aN aN)
  exact hE0 x0 x1 v3 h4 v5 h6 H1 (S2.wk2 aN aN)
theorem slices_Compare_Lint_int_ok (k : Nat) {h : H} {σ : Stamp} (x0 : List Int) {u0 : V} (hu0 : SlH h (dI .i64) x0 u0) (x1 : List Int) {u1 : V} (hu1 : SlH h (dI .i64) x1 u1) : Sim (p_slices_Compare_Lint_int k x0 x1) (ev G X0 52 σ [u0,u1] h) (fun r s => s = ([.v (.p (.int .i64 r))],h)):=by
 refine .ev rfl (Sim.ext (slices_Compare_Lint_int_entry _ _ _ _ _ _) ?_)
 rw [p_slices_Compare_Lint_int]
 have S0 : Fm 36 h [] [] [] (List.replicate 36 []::h):=Fm.start0
 refine .op ((S0.low hu0).len) ?_
 refine .ci ?_
 refine .as (slices_Compare_Lint_int_l0_ok ?_ ?_ k x0 x1 x0 ((x0.length : Int)) 0 u0 hu0 u1 hu1 u0 hu0 (List.replicate 36 []::h) (S0.wk2 aN aN))
 ·intro r31_0 r31_1 v34 h35 v36 h37 H32 S33
  refine .ext (slices_Compare_Lint_int_a0_0 _ _ _ _ _ _) ?_
  refine .op ((S33.low h35).len) ?_
  refine .ci ?_
  refine .op ((S33.low h37).len) ?_
  refine .ci ?_
  refine .cq ?_ ?_
  ·exact .fin (S33.finN (lC (sI _ _).lv lN)) rfl
  exact .fin (S33.finN (lC (sI _ _).lv lN)) rfl
 ·intro r39_4 H40 S41
  refine .ext (slices_Compare_Lint_int_a0_ret _ _ _ _ _) ?_
  exact .fin (S41.finN (lC (sI _ _).lv lN)) rfl
def p_knap_Better (k : Nat) (x0 : (List Int)) (x1 : (List Int)) : Option (Bool) :=
(p_slices_Compare_Lint_int k ([((x0.getD 0 0)),((x0.getD 1 0)),((x0.getD 2 0)),((x0.getD 3 0))]) ([((x1.getD 0 0)),((x1.getD 1 0)),((x1.getD 2 0)),((x1.getD 3 0))])).bind fun r9 =>
some ((decide (r9 > 0)))
theorem knap_Better_ok (k : Nat) {h : H} {σ : Stamp} (x0 : (List Int)) {u0 : List V} (hu0 : (dA 4 (dI .i64)).R x0 u0) (x1 : (List Int)) {u1 : List V} (hu1 : (dA 4 (dI .i64)).R x1 u1) : Sim (p_knap_Better k x0 x1) (ev G X0 33 σ [(.agg u0),(.agg u1)] h) (fun r s => s = ([.v (.p (.bool r))],h)):=by
 refine .ev rfl (Sim.ext (knap_Better_entry _ _ _ _ _ _) ?_)
 rw [p_knap_Better]
 obtain rfl : u0 = [(.p (.int .i64 ((x0.getD 0 0)))),(.p (.int .i64 ((x0.getD 1 0)))),(.p (.int .i64 ((x0.getD 2 0)))),(.p (.int .i64 ((x0.getD 3 0))))]:=dA_int hu0
 obtain rfl : u1 = [(.p (.int .i64 ((x1.getD 0 0)))),(.p (.int .i64 ((x1.getD 1 0)))),(.p (.int .i64 ((x1.getD 2 0)))),(.p (.int .i64 ((x1.getD 3 0))))]:=dA_int hu1
 have S0 : Fm 9 h [] [] [] (List.replicate 9 []::h):=Fm.start0
 obtain ⟨H1,e2,S3⟩:=S0.box (own:=false) (d:=2) (s:=(0::0::0::σ)) (xs:=[(.p (.int .i64 ((x0.getD 0 0)))),(.p (.int .i64 ((x0.getD 1 0)))),(.p (.int .i64 ((x0.getD 2 0)))),(.p (.int .i64 ((x0.getD 3 0))))]) (sC (sI _ _) (sC (sI _ _) (sC (sI _ _) (sC (sI _ _) sN)))) (by decide) rfl
 refine .op (e2) ?_
 obtain ⟨H5,e6,S7⟩:=S3.box (own:=false) (d:=3) (s:=(1::0::0::σ)) (xs:=[(.p (.int .i64 ((x1.getD 0 0)))),(.p (.int .i64 ((x1.getD 1 0)))),(.p (.int .i64 ((x1.getD 2 0)))),(.p (.int .i64 ((x1.getD 3 0))))]) (sC (sI _ _) (sC (sI _ _) (sC (sI _ _) (sC (sI _ _) sN)))) (by decide) rfl
 refine .op (e6) ?_
 refine .op ((slA_ok (S7.atG (i:=1) rfl) (xs:=[((x0.getD 0 0)),((x0.getD 1 0)),((x0.getD 2 0)),((x0.getD 3 0))]) (j:=0) (n:=4) (f:=fun z => .p (.int .i64 z)) rfl (dI_map _) rfl (by decide) rfl).1) ?_
 refine .op ((slA_ok (S7.atG (i:=0) rfl) (xs:=[((x1.getD 0 0)),((x1.getD 1 0)),((x1.getD 2 0)),((x1.getD 3 0))]) (j:=0) (n:=4) (f:=fun z => .p (.int .i64 z)) rfl (dI_map _) rfl (by decide) rfl).1) ?_
 refine .call (slices_Compare_Lint_int_ok k ([((x0.getD 0 0)),((x0.getD 1 0)),((x0.getD 2 0)),((x0.getD 3 0))]) (slA_ok (S7.atG (i:=1) rfl) (xs:=[((x0.getD 0 0)),((x0.getD 1 0)),((x0.getD 2 0)),((x0.getD 3 0))]) (j:=0) (n:=4) (f:=fun z => .p (.int .i64 z)) rfl (dI_map _) rfl (by decide) rfl).2 ([((x1.getD 0 0)),((x1.getD 1 0)),((x1.getD 2 0)),((x1.getD 3 0))]) (slA_ok (S7.atG (i:=0) rfl) (xs:=[((x1.getD 0 0)),((x1.getD 1 0)),((x1.getD 2 0)),((x1.getD 3 0))]) (j:=0) (n:=4) (f:=fun z => .p (.int .i64 z)) rfl (dI_map _) rfl (by decide) rfl).2) fun r9 cs10 H11 h12 q13 => ?_
 cases q13
 refine .ci ?_
 exact .fin (S7.finN (lC (sB _).lv lN)) rfl
end
end Go.Ev
namespace Go.Ev
namespace Knap
structure OkC (c : TaiChoice) : Prop where
 c0 : 0 ≤ c.Class
 c4 : c.Class < 4
 len : c.Costs.length = c.Goods.length
 l4 : c.Costs.length ≤ 4
 cb : ∀ q,c.Costs.getD q 0 ≤ 1048576
 g0 : ∀ q,0 ≤ c.Goods.getD q 0
 gb : ∀ q,c.Goods.getD q 0 ≤ 1048576
def ch (l : List TaiChoice) (q : Nat) : TaiChoice:=l.getD q ⟨0,[],[]⟩
def OkL (l : List TaiChoice) : Prop:=∀ q,OkC (ch l q)
def hasB (c : TaiChoice) (p : Int) : Bool:=decide (0 ≤ p∧p < (c.Costs.length : Int)∧0 ≤ c.Costs.getD p.toNat 0)
def fitB (c : TaiChoice) (p : Int) : Bool:=p == -1 || hasB c p
def cst (c : TaiChoice) (p : Int) : Int:=if hasB c p = true then c.Costs.getD p.toNat 0 else 0
def gdv (c : TaiChoice) (p : Int) : Int:=if hasB c p = true then c.Goods.getD p.toNat 0 else 0
def sm (f : Nat→Int) : Nat→Int
 | 0 => 0
 | n + 1 => sm f n + f n
def cf (l : List TaiChoice) (z : List Int) (q : Nat) : Int:=cst (ch l q) (z.getD q 0)
def gf (l : List TaiChoice) (z : List Int) (j : Int) (q : Nat) : Int:=if (ch l q).Class = j then gdv (ch l q) (z.getD q 0) else 0
def costL (l : List TaiChoice) (z : List Int) : Int:=sm (cf l z) z.length
def goodL (l : List TaiChoice) (z : List Int) : List Int:=[sm (gf l z 0) z.length,sm (gf l z 1) z.length,sm (gf l z 2) z.length,sm (gf l z 3) z.length]
theorem cst_has {c : TaiChoice} {p : Int} (h : hasB c p = true) : cst c p = c.Costs.getD p.toNat 0:=if_pos h
theorem cst_no {c : TaiChoice} {p : Int} (h : hasB c p = false) : cst c p = 0:=if_neg (by rw [h]; exact Bool.false_ne_true)
theorem gdv_has {c : TaiChoice} {p : Int} (h : hasB c p = true) : gdv c p = c.Goods.getD p.toNat 0:=if_pos h
theorem gdv_no {c : TaiChoice} {p : Int} (h : hasB c p = false) : gdv c p = 0:=if_neg (by rw [h]; exact Bool.false_ne_true)
theorem cst_lo {c : TaiChoice} {p : Int} : 0 ≤ cst c p:=by
 unfold cst
 split
 ·rename_i h
  simp only [hasB,decide_eq_true_eq] at h
  exact h.2.2
 ·omega
theorem cst_hi {c : TaiChoice} (h : OkC c) {p : Int} : cst c p ≤ 1048576:=by
 unfold cst
 split
 ·exact h.cb _
 ·omega
theorem gdv_lo {c : TaiChoice} (h : OkC c) {p : Int} : 0 ≤ gdv c p:=by
 unfold gdv
 split
 ·exact h.g0 _
 ·omega
theorem gdv_hi {c : TaiChoice} (h : OkC c) {p : Int} : gdv c p ≤ 1048576:=by
 unfold gdv
 split
 ·exact h.gb _
 ·omega
theorem sm_bd {f : Nat→Int} (h0 : ∀ q,0 ≤ f q) (h1 : ∀ q,f q ≤ 1048576) : ∀ n : Nat,0 ≤ sm f n∧sm f n ≤ 1048576 * n
 | 0 => ⟨by simp [sm],by simp [sm]⟩
 | n + 1 => by
  have:=sm_bd h0 h1 n
  have a:=h0 n
  have b:=h1 n
  simp only [sm]
  omega
theorem cf_bd {l : List TaiChoice} (hl : OkL l) (z : List Int) (n : Nat) : 0 ≤ sm (cf l z) n∧sm (cf l z) n ≤ 1048576 * n:=sm_bd (fun _ => cst_lo) (fun q => cst_hi (hl q)) n
theorem gf_bd {l : List TaiChoice} (hl : OkL l) (z : List Int) (j : Int) (n : Nat) : 0 ≤ sm (gf l z j) n∧sm (gf l z j) n ≤ 1048576 * n :=
 sm_bd (fun q => by unfold gf; split; exact gdv_lo (hl q); omega) (fun q => by unfold gf; split; exact gdv_hi (hl q); omega) n
theorem ix_get {α : Type} {xs : List α} {i : Int} {d : α} (h0 : 0 ≤ i) (h1 : i < xs.length) : ix xs i = some (xs.getD i.toNat d):=by
 unfold ix
 rw [if_pos h0,List.getElem?_eq_getElem (by omega)]
 simp [List.getD,List.getElem?_eq_getElem (show i.toNat < xs.length by omega)]
theorem ix_ch {l : List TaiChoice} {i : Nat} (h : i < l.length) : ix l (i : Int) = some (ch l i):=ix_get (by omega) (by omega)
theorem ix_z {z : List Int} {i : Nat} (h : i < z.length) : ix z (i : Int) = some (z.getD i 0):=ix_get (by omega) (by omega)
theorem has_ok {c : TaiChoice} (h : OkC c) (p : Int) : p_knap_has c p = some (hasB c p):=by
 unfold p_knap_has
 have hmin : (if ((c.Costs.length : Int)) < 4 then ((c.Costs.length : Int)) else 4) = (c.Costs.length : Int):=by
  have:=h.l4
  split <;> omega
 rw [hmin]
 by_cases h0 : 0 ≤ p
 ·by_cases h1 : p < (c.Costs.length : Int)
  ·rw [ix_get (d:=0) h0 h1]
   simp [hasB,h0,h1]
  ·simp [hasB,h0,h1]
 ·simp [hasB,h0]
theorem fits_ok {c : TaiChoice} (h : OkC c) (p : Int) : p_knap_fits c p = some (fitB c p):=by
 unfold p_knap_fits
 rw [has_ok h]
 cases hp : (p == -1)
 ·cases hh : hasB c p
  ·simp [fitB,hp,hh]
  ·have hh2:=hh
   simp only [hasB,decide_eq_true_eq] at hh2
   have:=h.len
   have e1 : decide (p < (c.Goods.length : Int)) = true:=by simp; omega
   have e2 : decide (c.Class ≥ 0) = true:=by simpa using h.c0
   have e3 : decide (c.Class < 4) = true:=by simpa using h.c4
   simp [fitB,hp,hh,e1,e2,e3]
 ·simp [fitB,hp]
theorem has_neg {c : TaiChoice} : hasB c (-1) = false:=by simp [hasB]
theorem add_ok {a b : Int} (ha : 0 ≤ a) (ha2 : a ≤ 2147483648) (hb : 0 ≤ b) (hb2 : b ≤ 2147483648) : p_knap_add a b = some (a + b):=by
 unfold p_knap_add
 rw [wrap_i64 (n:=9223372036854775807 - b) (by omega) (by omega),wrap_i64 (n:=a + b) (by omega) (by omega)]
 have : decide (a > 9223372036854775807 - b) = false:=by simp; omega
 rw [this,cond_false]
theorem wrap_nat {i : Nat} (h : i < 1000) : IntKind.wrap .i64 ((i : Int) + 1) = ((i + 1 : Nat) : Int):=by rw [wrap_i64 (by omega) (by omega)]; omega
theorem cost_loop {β : Type} {l : List TaiChoice} {z : List Int} (hl : OkL l) (hlz : z.length ≤ l.length) (h8 : l.length ≤ 8) (kE : Int→Option β) : ∀ m i k : Nat,i + m = z.length→m < k→p_knap_Cost_l0 k kE l (sm (cf l z) i) z (z.length : Int) (i : Int) = kE (costL l z):=by
 intro m
 induction m with
 | zero =>
  intro i k hi hk
  obtain ⟨k,rfl⟩ : ∃ j,k = j + 1:=⟨k - 1,by omega⟩
  rw [p_knap_Cost_l0]
  have : decide ((i : Int) < (z.length : Int)) = false:=by simp; omega
  rw [this,cond_false]
  have : i = z.length:=by omega
  rw [this]; rfl
 | succ m ih =>
  intro i k hi hk
  obtain ⟨k,rfl⟩ : ∃ j,k = j + 1:=⟨k - 1,by omega⟩
  rw [p_knap_Cost_l0]
  have e1 : decide ((i : Int) < (z.length : Int)) = true:=by simp; omega
  have e2:=has_ok (hl i) (z.getD i 0)
  have nx:=ih (i + 1) k (by omega) (by omega)
  have hs : sm (cf l z) (i + 1) = sm (cf l z) i + cst (ch l i) (z.getD i 0):=rfl
  rw [e1,cond_true,ix_z (by omega),Option.bind_some,ix_ch (by omega),Option.bind_some,e2,Option.bind_some,wrap_nat (by omega)]
  cases hb : hasB (ch l i) (z.getD i 0)
  ·rw [cond_false,← nx,hs,cst_no hb,Int.add_zero]
  ·have hb2:=hb
   simp only [hasB,decide_eq_true_eq] at hb2
   have hc : cst (ch l i) (z.getD i 0) = (ch l i).Costs.getD (z.getD i 0).toNat 0:=cst_has hb
   have bd:=cf_bd hl z i
   have hh:=(hl i).cb (z.getD i 0).toNat
   rw [cond_true,Option.bind_some,ix_get (d:=0) hb2.1 hb2.2.1,Option.bind_some,add_ok bd.1 (by omega) hb2.2.2 (by omega),Option.bind_some,← nx,hs,hc]
theorem sub_all {α : Type} {z : List α} {n : Int} (h : n = z.length) : sub z 0 n = some z:=by
 subst h
 unfold sub
 rw [if_pos ⟨by omega,by omega,by omega⟩]
 simp
theorem cost_ok {l : List TaiChoice} {z : List Int} {k : Nat} (hl : OkL l) (hlz : z.length = l.length) (h8 : l.length ≤ 8) (hk : 10 ≤ k) : p_knap_Cost k l z = some (costL l z):=by
 unfold p_knap_Cost
 have hmin : (if ((l.length : Int)) < ((z.length : Int)) then ((l.length : Int)) else ((z.length : Int))) = (z.length : Int):=by
  split <;> omega
 rw [hmin,sub_all rfl,Option.bind_some]
 exact cost_loop (z:=z) hl (by omega) h8 _ z.length 0 k (by omega) (by omega)
theorem set4 {a b c d : Int} {cls x : Int} (h0 : 0 ≤ cls) (h4 : cls < 4) : stx [a,b,c,d] cls x = some [if cls = 0 then x else a,if cls = 1 then x else b,if cls = 2 then x else c,if cls = 3 then x else d]:=by
 have : cls = 0 ∨ cls = 1 ∨ cls = 2 ∨ cls = 3:=by omega
 rcases this with rfl | rfl | rfl | rfl <;> rfl
theorem ix4 {a b c d : Int} {cls : Int} (h0 : 0 ≤ cls) (h4 : cls < 4) : ix [a,b,c,d] cls = some (if cls = 0 then a else if cls = 1 then b else if cls = 2 then c else d):=by
 have : cls = 0 ∨ cls = 1 ∨ cls = 2 ∨ cls = 3:=by omega
 rcases this with rfl | rfl | rfl | rfl <;> rfl
theorem good_loop {β : Type} {l : List TaiChoice} {z : List Int} (hl : OkL l) (hlz : z.length ≤ l.length) (h8 : l.length ≤ 8) (kE : List Int→List Int→Option β) : ∀ m i k : Nat,i + m = z.length→m < k →
  p_knap_Good_l0 k kE l z (z.length : Int) (i : Int) [0,0,0,0] [sm (gf l z 0) i,sm (gf l z 1) i,sm (gf l z 2) i,sm (gf l z 3) i] = kE [0,0,0,0] (goodL l z):=by
 intro m
 induction m with
 | zero =>
  intro i k hi hk
  obtain ⟨k,rfl⟩ : ∃ j,k = j + 1:=⟨k - 1,by omega⟩
  rw [p_knap_Good_l0]
  have : decide ((i : Int) < (z.length : Int)) = false:=by simp; omega
  rw [this,cond_false]
  have : i = z.length:=by omega
  rw [this]; rfl
 | succ m ih =>
  intro i k hi hk
  obtain ⟨k,rfl⟩ : ∃ j,k = j + 1:=⟨k - 1,by omega⟩
  rw [p_knap_Good_l0]
  have e1 : decide ((i : Int) < (z.length : Int)) = true:=by simp; omega
  have e2:=fits_ok (hl i) (z.getD i 0)
  have nx:=ih (i + 1) k (by omega) (by omega)
  have hs : ∀ j,sm (gf l z j) (i + 1) = sm (gf l z j) i + gf l z j i:=fun _ => rfl
  rw [e1,cond_true,ix_z (by omega),Option.bind_some,ix_ch (by omega),Option.bind_some,e2,wrap_nat (by omega)]
  simp only [Option.bind_some]
  cases hb : hasB (ch l i) (z.getD i 0)
  ·have hz : (bif decide (z.getD i 0 ≥ 0) then some (fitB (ch l i) (z.getD i 0)) else some false) = some false:=by
    by_cases h0 : z.getD i 0 ≥ 0
    ·have : (z.getD i 0 == -1) = false:=beq_eq_false_iff_ne.2 (by omega)
     simp only [h0,fitB,hb,this,decide_true,cond_true,Bool.or_false]
    ·simp only [h0,decide_false,cond_false]
   have hg : ∀ j,sm (gf l z j) (i + 1) = sm (gf l z j) i:=fun j => by rw [hs,gf,gdv_no hb]; simp
   rw [hz]
   simp only [Option.bind_some,cond_false]
   rw [← nx,hg,hg,hg,hg]
   rfl
  ·have hb2:=hb
   simp only [hasB,decide_eq_true_eq] at hb2
   have h0 : decide (z.getD i 0 ≥ 0) = true:=by simpa using hb2.1
   have hf : fitB (ch l i) (z.getD i 0) = true:=by rw [fitB,hb,Bool.or_true]
   have c0:=(hl i).c0
   have c4:=(hl i).c4
   have hlen:=(hl i).len
   have hgl:=(hl i).g0 (z.getD i 0).toNat
   have hgh:=(hl i).gb (z.getD i 0).toNat
   have hgd : gdv (ch l i) (z.getD i 0) = (ch l i).Goods.getD (z.getD i 0).toNat 0:=gdv_has hb
   have b0:=gf_bd hl z 0 i
   have b1:=gf_bd hl z 1 i
   have b2:=gf_bd hl z 2 i
   have b3:=gf_bd hl z 3 i
   rw [h0,hf]
   simp only [cond_true,Option.bind_some]
   simp only [List.getD_cons_zero,List.getD_cons_succ]
   rw [ix4 c0 c4,ix_get (d:=0) (xs:=(ch l i).Goods) hb2.1 (by omega)]
   simp only [Option.bind_some]
   generalize (ch l i).Goods.getD (z.getD i 0).toNat 0 = y at *
   have hy : (if (if 1073741824 < y then 1073741824 else y) > 0 then (if 1073741824 < y then 1073741824 else y) else 0) = y:=by
    rw [if_neg (show ¬ 1073741824 < y by omega)]
    split <;> omega
   rw [hy]
   have hw : IntKind.wrap .i64 ((if (ch l i).Class = 0 then sm (gf l z 0) i else if (ch l i).Class = 1 then sm (gf l z 1) i else if (ch l i).Class = 2 then sm (gf l z 2) i else sm (gf l z 3) i) + y) = (if (ch l i).Class = 0 then sm (gf l z 0) i else if (ch l i).Class = 1 then sm (gf l z 1) i else if (ch l i).Class = 2 then sm (gf l z 2) i else sm (gf l z 3) i) + y:=by
    refine wrap_i64 ?_ ?_
    ·(repeat' split) <;> omega
    ·(repeat' split) <;> omega
   rw [hw,set4 c0 c4]
   simp only [Option.bind_some,List.getD_cons_zero,List.getD_cons_succ]
   rw [← nx]
   congr 1
   have hgf : ∀ j,gf l z j i = if (ch l i).Class = j then y else 0:=fun j => by unfold gf; rw [hgd]
   rw [hs,hs,hs,hs,hgf,hgf,hgf,hgf]
   have : (ch l i).Class = 0 ∨ (ch l i).Class = 1 ∨ (ch l i).Class = 2 ∨ (ch l i).Class = 3:=by omega
   rcases this with h | h | h | h <;> rw [h] <;> simp
theorem good_ok {l : List TaiChoice} {z : List Int} {k : Nat} (hl : OkL l) (hlz : z.length = l.length) (h8 : l.length ≤ 8) (hk : 10 ≤ k) : p_knap_Good k l z = some (goodL l z):=by
 unfold p_knap_Good
 have hmin : (if ((l.length : Int)) < ((z.length : Int)) then ((l.length : Int)) else ((z.length : Int))) = (z.length : Int):=by
  split <;> omega
 rw [hmin,sub_all rfl,Option.bind_some]
 have:=good_loop (z:=z) hl (by omega) h8 (fun yg18 yg20 => some [yg20.getD 0 0,yg20.getD 1 0,yg20.getD 2 0,yg20.getD 3 0]) z.length 0 k (by omega) (by omega)
 exact this
end Knap
end Go.Ev
namespace Go.Ev
namespace Knap
theorem cmp_ok (a b : Int) : p_cmp_Compare_int a b = some (if a < b then -1 else if b < a then 1 else 0):=by
 unfold p_cmp_Compare_int p_cmp_isNaN_int
 by_cases h1 : a < b
 ·simp [h1]
 ·by_cases h2 : b < a
  ·simp [h1,h2]
  ·simp [h1,h2]
theorem cmp_step {β : Type} {kE0 : List Int→List Int→Option β} {kE1 : Int→Option β} {a b : List Int} (ha : a.length = 4) (hb : b.length = 4) {i k : Nat} (hi : i < 4) :
  p_slices_Compare_Lint_int_l0 (k + 1) kE0 kE1 a b a 4 (i : Int) = if a.getD i 0 < b.getD i 0 then kE1 (-1) else if b.getD i 0 < a.getD i 0 then kE1 1 else p_slices_Compare_Lint_int_l0 k kE0 kE1 a b a 4 ((i + 1 : Nat) : Int):=by
 rw [p_slices_Compare_Lint_int_l0]
 have e1 : decide ((i : Int) < 4) = true:=by simp; omega
 have e2 : decide ((i : Int) ≥ (b.length : Int)) = false:=by simp; omega
 rw [e1,cond_true,ix_z (by omega),Option.bind_some,e2,cond_false,ix_z (by omega),Option.bind_some,cmp_ok,Option.bind_some,wrap_nat (by omega)]
 split
 ·rfl
 ·split
  ·rfl
  ·rfl
theorem cmp_end {β : Type} {kE0 : List Int→List Int→Option β} {kE1 : Int→Option β} {a b : List Int} {k : Nat} :
  p_slices_Compare_Lint_int_l0 (k + 1) kE0 kE1 a b a 4 ((4 : Nat) : Int) = kE0 a b:=by
 rw [p_slices_Compare_Lint_int_l0]; rfl
def key (a : List Int) : Int:=a.getD 0 0 * 4722366482869645213696 + a.getD 1 0 * 281474976710656 + a.getD 2 0 * 16777216 + a.getD 3 0
structure G4 (a : List Int) : Prop where
 len : a = [a.getD 0 0,a.getD 1 0,a.getD 2 0,a.getD 3 0]
 h0 : 0 ≤ a.getD 0 0∧a.getD 0 0 ≤ 8388608
 h1 : 0 ≤ a.getD 1 0∧a.getD 1 0 ≤ 8388608
 h2 : 0 ≤ a.getD 2 0∧a.getD 2 0 ≤ 8388608
 h3 : 0 ≤ a.getD 3 0∧a.getD 3 0 ≤ 8388608
theorem better_ok {a b : List Int} (ha : G4 a) (hb : G4 b) {k : Nat} (hk : 10 ≤ k) : p_knap_Better k a b = some (decide (key b < key a)):=by
 obtain ⟨k,rfl⟩ : ∃ j,k = j + 1 + 1 + 1 + 1 + 1:=⟨k - 5,by omega⟩
 unfold p_knap_Better p_slices_Compare_Lint_int
 have la : [a.getD 0 0,a.getD 1 0,a.getD 2 0,a.getD 3 0].length = 4:=rfl
 have lb : [b.getD 0 0,b.getD 1 0,b.getD 2 0,b.getD 3 0].length = 4:=rfl
 obtain ⟨_,a0,a1,a2,a3⟩:=ha
 obtain ⟨_,b0,b1,b2,b3⟩:=hb
 unfold key
 generalize a.getD 0 0 = x0 at *
 generalize a.getD 1 0 = x1 at *
 generalize a.getD 2 0 = x2 at *
 generalize a.getD 3 0 = x3 at *
 generalize b.getD 0 0 = y0 at *
 generalize b.getD 1 0 = y1 at *
 generalize b.getD 2 0 = y2 at *
 generalize b.getD 3 0 = y3 at *
 have s0:=@cmp_step Int (fun r31_0 r31_1 => bif decide (((r31_0.length : Int)) < ((r31_1.length : Int))) then some (-1) else some 0) (fun r => some r) _ _ la lb 0 (k + 1 + 1 + 1 + 1) (by omega)
 have s1:=@cmp_step Int (fun r31_0 r31_1 => bif decide (((r31_0.length : Int)) < ((r31_1.length : Int))) then some (-1) else some 0) (fun r => some r) _ _ la lb 1 (k + 1 + 1 + 1) (by omega)
 have s2:=@cmp_step Int (fun r31_0 r31_1 => bif decide (((r31_0.length : Int)) < ((r31_1.length : Int))) then some (-1) else some 0) (fun r => some r) _ _ la lb 2 (k + 1 + 1) (by omega)
 have s3:=@cmp_step Int (fun r31_0 r31_1 => bif decide (((r31_0.length : Int)) < ((r31_1.length : Int))) then some (-1) else some 0) (fun r => some r) _ _ la lb 3 (k + 1) (by omega)
 have s4:=@cmp_end Int (fun r31_0 r31_1 => bif decide (((r31_0.length : Int)) < ((r31_1.length : Int))) then some (-1) else some 0) (fun r => some r) [x0,x1,x2,x3] [y0,y1,y2,y3] k
 have e4 : (([x0,x1,x2,x3].length : Nat) : Int) = 4:=rfl
 rw [s1,s2,s3,s4] at s0
 rw [e4]
 refine (congrArg (Option.bind · _) s0).trans ?_
 simp only [List.getD_cons_zero,List.getD_cons_succ]
 by_cases c0 : x0 < y0
 ·simp only [c0,if_true,Option.bind_some]; congr 1; simp; omega
 ·by_cases d0 : y0 < x0
  ·simp only [c0,d0,if_true,if_false,Option.bind_some]; congr 1; simp; omega
  ·by_cases c1 : x1 < y1
   ·simp only [c0,d0,c1,if_true,if_false,Option.bind_some]; congr 1; simp; omega
   ·by_cases d1 : y1 < x1
    ·simp only [c0,d0,c1,d1,if_true,if_false,Option.bind_some]; congr 1; simp; omega
    ·by_cases c2 : x2 < y2
     ·simp only [c0,d0,c1,d1,c2,if_true,if_false,Option.bind_some]; congr 1; simp; omega
     ·by_cases d2 : y2 < x2
      ·simp only [c0,d0,c1,d1,c2,d2,if_true,if_false,Option.bind_some]; congr 1; simp; omega
      ·by_cases c3 : x3 < y3
       ·simp only [c0,d0,c1,d1,c2,d2,c3,if_true,if_false,Option.bind_some]; congr 1; simp; omega
       ·by_cases d3 : y3 < x3
        ·simp only [c0,d0,c1,d1,c2,d2,c3,d3,if_true,if_false,Option.bind_some]; congr 1; simp; omega
        ·simp only [c0,d0,c1,d1,c2,d2,c3,d3,if_false]
         show some (decide ((0 : Int) > 0)) = _
         congr 1; simp; omega
theorem eq4 {a b : List Int} (ha : G4 a) (hb : G4 b) : andB [a.getD 0 0 == b.getD 0 0,a.getD 1 0 == b.getD 1 0,a.getD 2 0 == b.getD 2 0,a.getD 3 0 == b.getD 3 0] = decide (key a = key b):=by
 obtain ⟨_,a0,a1,a2,a3⟩:=ha
 obtain ⟨_,b0,b1,b2,b3⟩:=hb
 unfold key
 generalize a.getD 0 0 = x0 at *
 generalize a.getD 1 0 = x1 at *
 generalize a.getD 2 0 = x2 at *
 generalize a.getD 3 0 = x3 at *
 generalize b.getD 0 0 = y0 at *
 generalize b.getD 1 0 = y1 at *
 generalize b.getD 2 0 = y2 at *
 generalize b.getD 3 0 = y3 at *
 rw [Bool.eq_iff_iff]
 simp only [andB,Bool.and_true,Bool.and_eq_true,beq_iff_eq,decide_eq_true_eq]
 omega
theorem goodL_4 {l : List TaiChoice} (hl : OkL l) {z : List Int} (hz : z.length ≤ 8) : G4 (goodL l z):=by
 have b0:=gf_bd hl z 0 z.length
 have b1:=gf_bd hl z 1 z.length
 have b2:=gf_bd hl z 2 z.length
 have b3:=gf_bd hl z 3 z.length
 exact ⟨rfl,⟨b0.1,show sm (gf l z 0) z.length ≤ _ by omega⟩,⟨b1.1,show sm (gf l z 1) z.length ≤ _ by omega⟩,⟨b2.1,show sm (gf l z 2) z.length ≤ _ by omega⟩,⟨b3.1,show sm (gf l z 3) z.length ≤ _ by omega⟩⟩
def obj (l : List TaiChoice) (z : List Int) : Int:=key (goodL l z) * 16777216 - costL l z
def FA (l : List TaiChoice) (z : List Int) : Prop:=∀ q,q < l.length→fitB (ch l q) (z.getD q 0) = true
end Knap
end Go.Ev
namespace Go.Ev
open Go.Proofs
set_option linter.unusedVariables false
set_option linter.unusedSimpArgs false
set_option maxRecDepth 100000
noncomputable section
abbrev KT6:=Exit→Env→H→Option (List C × H)
variable (rec : CallF) (loop : LoopV) (σ : Stamp)
def knap_Best_c0 : Code:=(codeAt (bodyOf Try.f29) [1,1,1,1,1,1,0,1,0,0])
def knap_Best_l0 : Lv:=⟨128,16,[(0,128)]⟩
def knap_Best_k0 : KT6:=(kBlock 0 (kSeq G rec loop (codeAt (bodyOf Try.f29) [1,1,1,1,1,1,1]) ⟨16,16,[]⟩ (1::1::1::1::1::1::0::σ) (finC G false Try.f29 (1::σ))))
theorem knap_Best_entry (x0 : V) (x1 : Int) (h : H) : cvBody G rec loop 29 σ [x0,(.p (.int .i64 x1))] h =
(lenO x0).bind fun t1 =>
(castI .i64 t1).bind fun n2 =>
bif ((if n2 < 8 then n2 else 8)) == 0 then (
fin false σ (List.replicate 41 []::h) [(.p (.slice .none 0 0))])
else (
(slS 3 x0 none (some ((if n2 < 8 then n2 else 8))) none).bind fun t3 =>
(mkO 1 8 [.p (.int .i64 0)] (4::0::1::1::1::0::σ) 17 (List.replicate 41 []::h) ((if n2 < 8 then n2 else 8)) ((if n2 < 8 then n2 else 8))).bind fun q4 =>
need (slS 3 x0 none (some ((if n2 < 8 then n2 else 8))) none = some t3) (
(buildV Try.prog 80 [(0,t3),(1,q4.1)]).bind fun t5 =>
(boxO true (6::0::1::1::1::0::σ) 19 q4.2 t5).bind fun q6 =>
(callO rec 49 (4::0::1::1::1::1::0::σ) [q6.1,(.p (.int .i64 0)),(.p (.int .i64 ((if ((if 4096 < x1 then 4096 else x1)) > 0 then ((if 4096 < x1 then 4096 else x1)) else 0))))] q6.2 (some 24)).bind fun q7 =>
(nilChk q6.1).bind fun t8 =>
(fA t8 2).bind fun t9 =>
(ldO false 1 q7.2 t9).bind fun t10 =>
(lenO x0).bind fun t11 =>
(castI .i64 t11).bind fun n12 =>
(loop knap_Best_c0 knap_Best_l0 (1::0::1::1::1::1::1::1::0::σ) (envL [(7,t10),(32,(.p (.int .i64 (IntKind.wrap .i64 (n12 - ((if n2 < 8 then n2 else 8))))))),(33,(.p (.int .i64 0)))]) q7.2).bind fun r13 => knap_Best_k0 rec loop σ r13.1 r13.2.1 r13.2.2)):=by kernel_rfl
theorem knap_Best_r0 (x7 : V) (x32 : Int) (x33 : Int) (h : H) : cvRound G rec loop knap_Best_c0 knap_Best_l0 σ (envL [(7,x7),(32,(.p (.int .i64 x32))),(33,(.p (.int .i64 x33)))]) h =
bif decide (x33 < x32) then (
(bSV Try.prog 24 1 [(0,(.p (.int .i64 (-1))))]).bind fun t14 =>
(apO true 1 8 (2::0::1::1::0::σ) 37 h x7 t14).bind fun q15 =>
loop knap_Best_c0 knap_Best_l0 (1::σ) (envL [(7,q15.1),(32,(.p (.int .i64 x32))),(33,(.p (.int .i64 (IntKind.wrap .i64 (x33 + 1)))))]) q15.2)
else (
some ((.exit 0),(envL [(7,x7)]),h)):=by kernel_rfl
theorem knap_Best_a0_0 (x7 : V) (h : H) : knap_Best_k0 rec loop σ (.exit 0) (envL [(7,x7)]) h =
(callO rec 47 (1::0::1::1::1::1::1::1::1::0::σ) [x7] h (some 40)).bind fun q16 =>
fin false σ q16.2 [q16.1]:=by kernel_rfl
theorem slices_Clip_Lint_int_entry (x0 : V) (h : H) : cvBody G rec loop 47 σ [x0] h =
(lenO x0).bind fun t1 =>
(castI .i64 t1).bind fun n2 =>
(lenO x0).bind fun t3 =>
(castI .i64 t3).bind fun n4 =>
(slS 1 x0 none (some n2) (some n4)).bind fun t5 =>
fin false σ (List.replicate 9 []::h) [t5]:=by kernel_rfl
def knap_search_try_c0 : Code:=(codeAt (bodyOf Try.f49) [1,1,0,0])
def knap_search_try_l0 : Lv:=⟨0,0,[(0,0)]⟩
def knap_search_try_k0 (rec : CallF) (loop : LoopV) (σ : Stamp) : KT6:=(kBlock 0 (finC G false Try.f49 (1::σ)))
theorem knap_search_try_entry (x0 : V) (x1 : Int) (x2 : Int) (h : H) : cvBody G rec loop 49 σ [x0,(.p (.int .i64 x1)),(.p (.int .i64 x2))] h =
(nilChk x0).bind fun t1 =>
(fA t1 0).bind fun t2 =>
(ldO false 1 (List.replicate 143 []::h) t2).bind fun t3 =>
(lenO t3).bind fun t4 =>
(castI .i64 t4).bind fun n5 =>
bif x1 == n5 then (
need (∃ z,tzero Try.prog 53 = some z∧slotOf (alO [.p (.int .i64 0),.p (.int .i64 0),.p (.int .i64 0),.p (.int .i64 0)] (18::0::1::0::0::σ) 6 (List.replicate 143 []::h)).2 6 = some [.own (18::0::1::0::0::σ) (z.map .v)]) (
(nilChk x0).bind fun t6 =>
(fA t6 0).bind fun t7 =>
(ldO false 1 (alO [.p (.int .i64 0),.p (.int .i64 0),.p (.int .i64 0),.p (.int .i64 0)] (18::0::1::0::0::σ) 6 (List.replicate 143 []::h)).2 t7).bind fun t8 =>
(nilChk x0).bind fun t9 =>
(fA t9 1).bind fun t10 =>
(ldO false 1 (alO [.p (.int .i64 0),.p (.int .i64 0),.p (.int .i64 0),.p (.int .i64 0)] (18::0::1::0::0::σ) 6 (List.replicate 143 []::h)).2 t10).bind fun t11 =>
(nilChk x0).bind fun t12 =>
(fA t12 0).bind fun t13 =>
(ldO false 1 (alO [.p (.int .i64 0),.p (.int .i64 0),.p (.int .i64 0),.p (.int .i64 0)] (18::0::1::0::0::σ) 6 (List.replicate 143 []::h)).2 t13).bind fun t14 =>
(nilChk x0).bind fun t15 =>
(fA t15 1).bind fun t16 =>
(ldO false 1 (alO [.p (.int .i64 0),.p (.int .i64 0),.p (.int .i64 0),.p (.int .i64 0)] (18::0::1::0::0::σ) 6 (List.replicate 143 []::h)).2 t16).bind fun t17 =>
(callO rec 32 (8::0::1::0::0::σ) [t8,t11] (alO [.p (.int .i64 0),.p (.int .i64 0),.p (.int .i64 0),.p (.int .i64 0)] (18::0::1::0::0::σ) 6 (List.replicate 143 []::h)).2 (some 24)).bind fun q18 =>
need (ldO false 1 q18.2 t16 = some t17) (
need (ldO false 1 q18.2 t13 = some t14) (
need (∃ z,tzero Try.prog 53 = some z∧slotOf q18.2 6 = some [.own (18::0::1::0::0::σ) (z.map .v)]) (
(callO rec 34 (17::0::1::0::0::σ) [t14,t17] q18.2 (some 33)).bind fun q19 =>
(castI .i64 q19.1).bind fun n20 =>
need (∃ z,tzero Try.prog 53 = some z∧slotOf q19.2 6 = some [.own (18::0::1::0::0::σ) (z.map .v)]) (
((stO false 4 (19::0::1::0::0::σ) q19.2 (.ref (newLoc (alO [.p (.int .i64 0),.p (.int .i64 0),.p (.int .i64 0),.p (.int .i64 0)] (18::0::1::0::0::σ) 6 (List.replicate 143 []::h)).2 6 (18::0::1::0::0::σ)) 0) q18.1).map fun h => (udf,h)).bind fun q21 =>
(nilChk x0).bind fun t22 =>
(fA t22 2).bind fun t23 =>
(ldO false 1 q21.2 t23).bind fun t24 =>
(binV Try.prog q21.2 .eql 24 t24 (.p (.slice .none 0 0))).bind fun t25 =>
(asB t25).bind fun b26 =>
(bif b26 then (some ((.p (.bool true)),q21.2)) else ((ldO true 4 q21.2 (.ref (newLoc (alO [.p (.int .i64 0),.p (.int .i64 0),.p (.int .i64 0),.p (.int .i64 0)] (18::0::1::0::0::σ) 6 (List.replicate 143 []::h)).2 6 (18::0::1::0::0::σ)) 0)).bind fun t27 =>
(nilChk x0).bind fun t28 =>
(fA t28 3).bind fun t29 =>
(ldO true 4 q21.2 t29).bind fun t30 =>
(callO rec 33 (11::0::0::1::1::0::0::σ) [t27,t30] q21.2 (some 45)).bind fun q31 =>
(asB q31.1).bind fun b32 =>
some ((.p (.bool b32)),q31.2))).bind fun q33 =>
(asB q33.1).bind fun b34 =>
(bif b34 then (some true) else ((ldO true 4 q33.2 (.ref (newLoc (alO [.p (.int .i64 0),.p (.int .i64 0),.p (.int .i64 0),.p (.int .i64 0)] (18::0::1::0::0::σ) 6 (List.replicate 143 []::h)).2 6 (18::0::1::0::0::σ)) 0)).bind fun t35 =>
(nilChk x0).bind fun t36 =>
(fA t36 3).bind fun t37 =>
(ldO true 4 q33.2 t37).bind fun t38 =>
(binV Try.prog q33.2 .eql 53 t35 t38).bind fun t39 =>
(asB t39).bind fun b40 =>
(bif b40 then ((nilChk x0).bind fun t41 =>
(fA t41 7).bind fun t42 =>
(ldO false 1 q33.2 t42).bind fun t43 =>
(castI .i64 t43).bind fun n44 =>
some (decide (n20 < n44))) else (some false)).bind fun b45 =>
some b45)).bind fun b46 =>
bif b46 then (
(nilChk x0).bind fun t47 =>
(fA t47 1).bind fun t48 =>
(ldO false 1 q33.2 t48).bind fun t49 =>
(ldO true 4 q33.2 (.ref (newLoc (alO [.p (.int .i64 0),.p (.int .i64 0),.p (.int .i64 0),.p (.int .i64 0)] (18::0::1::0::0::σ) 6 (List.replicate 143 []::h)).2 6 (18::0::1::0::0::σ)) 0)).bind fun t50 =>
(callO rec 56 (7::1::0::1::1::0::0::σ) [t49] q33.2 (some 70)).bind fun q51 =>
need (ldO true 4 q51.2 (.ref (newLoc (alO [.p (.int .i64 0),.p (.int .i64 0),.p (.int .i64 0),.p (.int .i64 0)] (18::0::1::0::0::σ) 6 (List.replicate 143 []::h)).2 6 (18::0::1::0::0::σ)) 0) = some t50) (
(nilChk x0).bind fun t52 =>
(fA t52 2).bind fun t53 =>
((stO true 1 (12::1::0::1::1::0::0::σ) q51.2 t53 q51.1).map fun h => (udf,h)).bind fun q54 =>
need (ldO true 4 q54.2 (.ref (newLoc (alO [.p (.int .i64 0),.p (.int .i64 0),.p (.int .i64 0),.p (.int .i64 0)] (18::0::1::0::0::σ) 6 (List.replicate 143 []::h)).2 6 (18::0::1::0::0::σ)) 0) = some t50) (
(nilChk x0).bind fun t55 =>
(fA t55 3).bind fun t56 =>
((stO false 4 (15::1::0::1::1::0::0::σ) q54.2 t56 t50).map fun h => (udf,h)).bind fun q57 =>
(nilChk x0).bind fun t58 =>
(fA t58 7).bind fun t59 =>
((stO true 1 (18::1::0::1::1::0::0::σ) q57.2 t59 (.p (.int .i64 n20))).map fun h => (udf,h)).bind fun q60 =>
fin false σ q60.2 [])))
else (
fin false σ q33.2 [])))))))
else (
(loop knap_search_try_c0 knap_search_try_l0 (1::1::0::σ) (envL [(0,x0),(1,(.p (.int .i64 x1))),(2,(.p (.int .i64 x2))),(8,(.p (.int .i64 (-1))))]) (List.replicate 143 []::h)).bind fun r61 => knap_search_try_k0 rec loop σ r61.1 r61.2.1 r61.2.2):=by kernel_rfl
theorem knap_search_try_r0 (x0 : V) (x1 : Int) (x2 : Int) (x8 : Int) (h : H) : cvRound G rec loop knap_search_try_c0 knap_search_try_l0 σ (envL [(0,x0),(1,(.p (.int .i64 x1))),(2,(.p (.int .i64 x2))),(8,(.p (.int .i64 x8)))]) h =
bif decide (x8 < 4) then (
(nilChk x0).bind fun t62 =>
(fA t62 0).bind fun t63 =>
(ldO false 1 h t63).bind fun t64 =>
(iS 3 t64 x1).bind fun t65 =>
(ldO true 3 h t65).bind fun t66 =>
(callO rec 50 (8::0::0::0::1::0::σ) [t66,(.p (.int .i64 x8))] h (some 91)).bind fun q67 =>
(asB q67.1).bind fun b68 =>
(bif !b68 then (some true) else ((bif decide (x8 ≥ 0) then ((nilChk x0).bind fun t69 =>
(fA t69 0).bind fun t70 =>
(ldO false 1 q67.2 t70).bind fun t71 =>
(iS 3 t71 x1).bind fun t72 =>
(fA t72 1).bind fun t73 =>
(ldO false 1 q67.2 t73).bind fun t74 =>
(iS 1 t74 x8).bind fun t75 =>
(ldO false 1 q67.2 t75).bind fun t76 =>
(castI .i64 t76).bind fun n77 =>
some (decide (n77 > x2))) else (some false)).bind fun b78 =>
some b78)).bind fun b79 =>
bif b79 then (
loop knap_search_try_c0 knap_search_try_l0 (1::σ) (envL [(0,x0),(1,(.p (.int .i64 x1))),(2,(.p (.int .i64 x2))),(8,(.p (.int .i64 (IntKind.wrap .i64 (x8 + 1)))))]) q67.2)
else (
(nilChk x0).bind fun t80 =>
(fA t80 1).bind fun t81 =>
(ldO false 1 q67.2 t81).bind fun t82 =>
(iS 1 t82 x1).bind fun t83 =>
((stO true 1 (7::0::1::0::1::0::σ) q67.2 t83 (.p (.int .i64 x8))).map fun h => (udf,h)).bind fun q84 =>
bif decide (x8 ≥ 0) then (
(nilChk x0).bind fun t85 =>
(fA t85 0).bind fun t86 =>
(ldO false 1 q84.2 t86).bind fun t87 =>
(iS 3 t87 x1).bind fun t88 =>
(fA t88 1).bind fun t89 =>
(ldO false 1 q84.2 t89).bind fun t90 =>
(iS 1 t90 x8).bind fun t91 =>
(ldO false 1 q84.2 t91).bind fun t92 =>
(castI .i64 t92).bind fun n93 =>
(callO rec 49 (16::1::1::1::0::1::0::σ) [x0,(.p (.int .i64 (IntKind.wrap .i64 (x1 + 1)))),(.p (.int .i64 (IntKind.wrap .i64 (x2 - n93))))] q84.2 (some 137)).bind fun q94 =>
loop knap_search_try_c0 knap_search_try_l0 (1::σ) (envL [(0,x0),(1,(.p (.int .i64 x1))),(2,(.p (.int .i64 x2))),(8,(.p (.int .i64 (IntKind.wrap .i64 (x8 + 1)))))]) q94.2)
else (
(callO rec 49 (4::1::1::1::0::1::0::σ) [x0,(.p (.int .i64 (IntKind.wrap .i64 (x1 + 1)))),(.p (.int .i64 x2))] q84.2 (some 142)).bind fun q95 =>
loop knap_search_try_c0 knap_search_try_l0 (1::σ) (envL [(0,x0),(1,(.p (.int .i64 x1))),(2,(.p (.int .i64 x2))),(8,(.p (.int .i64 (IntKind.wrap .i64 (x8 + 1)))))]) q95.2)))
else (
some ((.exit 0),(envL []),h)):=by kernel_rfl
theorem knap_search_try_a0_0  (h : H) : knap_search_try_k0 rec loop σ (.exit 0) (envL []) h =
fin false σ h []:=by kernel_rfl
theorem slices_Clone_Lint_int_entry (x0 : V) (h : H) : cvBody G rec loop 56 σ [x0] h =
(binV Try.prog (List.replicate 8 []::h) .eql 24 x0 (.p (.slice .none 0 0))).bind fun t1 =>
(asB t1).bind fun b2 =>
bif b2 then (
fin false σ (List.replicate 8 []::h) [(.p (.slice .none 0 0))])
else (
(bSV Try.prog 24 0 []).bind fun t3 =>
(apO true 1 8 (2::0::1::1::0::σ) 7 (List.replicate 8 []::h) t3 x0).bind fun q4 =>
fin false σ q4.2 [q4.1]):=by kernel_rfl
end
end Go.Ev
namespace Go.Ev
open Go.Proofs
set_option linter.unusedVariables false
set_option linter.unusedSimpArgs false
set_option maxRecDepth 100000
section
variable {β α : Type} {Q : β→α→Prop} {K : Exit × Env × H→Option α}
def p_knap_search_try_l0 {β : Type} (k : Nat) (rec : T_knap_search→Int→Int→Option (T_knap_search)) (kE0 : T_knap_search→Option β) (x1 : Int) (x2 : Int) (x8 : Int) (zp0 : T_knap_search) : Option β:=match k with
| 0 => none
| k + 1 =>
bif decide (x8 < 4) then (
(ix zp0.l x1).bind fun a76 =>
(p_knap_fits a76 x8).bind fun r85 =>
(bif !r85 then (some true) else ((bif decide (x8 ≥ 0) then ((ix zp0.l x1).bind fun a90 =>
(ix a90.Costs x8).bind fun a106 =>
some (decide (a106 > x2))) else (some false)).bind fun b109 =>
some b109)).bind fun b113 =>
bif b113 then (
p_knap_search_try_l0 k rec kE0 x1 x2 (IntKind.wrap .i64 (x8 + 1)) ((⟨zp0.l,zp0.now,zp0.best,[((zp0.good.getD 0 0)),((zp0.good.getD 1 0)),((zp0.good.getD 2 0)),((zp0.good.getD 3 0))],zp0.cost⟩ : T_knap_search)))
else (
(ix zp0.now x1).bind fun a118 =>
(stx zp0.now x1 x8).bind fun a123 =>
bif decide (x8 ≥ 0) then (
(ix zp0.l x1).bind fun a129 =>
(ix a129.Costs x8).bind fun a145 =>
(rec (⟨zp0.l,a123,zp0.best,[((zp0.good.getD 0 0)),((zp0.good.getD 1 0)),((zp0.good.getD 2 0)),((zp0.good.getD 3 0))],zp0.cost⟩ : T_knap_search) (IntKind.wrap .i64 (x1 + 1)) (IntKind.wrap .i64 (x2 - a145))).bind fun r148 =>
p_knap_search_try_l0 k rec kE0 x1 x2 (IntKind.wrap .i64 (x8 + 1)) ((⟨r148.l,r148.now,r148.best,[((r148.good.getD 0 0)),((r148.good.getD 1 0)),((r148.good.getD 2 0)),((r148.good.getD 3 0))],r148.cost⟩ : T_knap_search)))
else (
(rec (⟨zp0.l,a123,zp0.best,[((zp0.good.getD 0 0)),((zp0.good.getD 1 0)),((zp0.good.getD 2 0)),((zp0.good.getD 3 0))],zp0.cost⟩ : T_knap_search) (IntKind.wrap .i64 (x1 + 1)) x2).bind fun r163 =>
p_knap_search_try_l0 k rec kE0 x1 x2 (IntKind.wrap .i64 (x8 + 1)) ((⟨r163.l,r163.now,r163.best,[((r163.good.getD 0 0)),((r163.good.getD 1 0)),((r163.good.getD 2 0)),((r163.good.getD 3 0))],r163.cost⟩ : T_knap_search)))))
else (
kE0 ((⟨zp0.l,zp0.now,zp0.best,[((zp0.good.getD 0 0)),((zp0.good.getD 1 0)),((zp0.good.getD 2 0)),((zp0.good.getD 3 0))],zp0.cost⟩ : T_knap_search)))
def p_knap_search_try (k : Nat) (x0 : T_knap_search) (x1 : Int) (x2 : Int) : Option (T_knap_search):=match k with
| 0 => none
| k + 1 =>
bif x1 == ((x0.l.length : Int)) then (
(p_knap_Good k x0.l x0.now).bind fun r4 =>
(p_knap_Cost k x0.l x0.now).bind fun r11 =>
(bif x0.best.isEmpty then (some true) else ((p_knap_Better k r4 ([((x0.good.getD 0 0)),((x0.good.getD 1 0)),((x0.good.getD 2 0)),((x0.good.getD 3 0))])).bind fun r19 =>
some r19)).bind fun b24 =>
(bif b24 then (some true) else ((bif andB [((r4.getD 0 0)) == ((x0.good.getD 0 0)),((r4.getD 1 0)) == ((x0.good.getD 1 0)),((r4.getD 2 0)) == ((x0.good.getD 2 0)),((r4.getD 3 0)) == ((x0.good.getD 3 0))] then (some (decide (r11 < x0.cost))) else (some false)).bind fun b28 =>
some b28)).bind fun b32 =>
bif b32 then (
(p_clone 8 x0.now).bind fun r37 =>
(neO r37).bind fun _ =>
some ((⟨x0.l,x0.now,r37,[((r4.getD 0 0)),((r4.getD 1 0)),((r4.getD 2 0)),((r4.getD 3 0))],r11⟩ : T_knap_search)))
else (
some ((⟨x0.l,x0.now,x0.best,[((x0.good.getD 0 0)),((x0.good.getD 1 0)),((x0.good.getD 2 0)),((x0.good.getD 3 0))],x0.cost⟩ : T_knap_search))))
else (
p_knap_search_try_l0 k (p_knap_search_try k) (fun zp0 =>
some ((⟨zp0.l,zp0.now,zp0.best,[((zp0.good.getD 0 0)),((zp0.good.getD 1 0)),((zp0.good.getD 2 0)),((zp0.good.getD 3 0))],zp0.cost⟩ : T_knap_search))) x1 x2 (-1) ((⟨x0.l,x0.now,x0.best,[((x0.good.getD 0 0)),((x0.good.getD 1 0)),((x0.good.getD 2 0)),((x0.good.getD 3 0))],x0.cost⟩ : T_knap_search)))
theorem knap_search_try_l0_ok {h : H} {l0 : Loc} {o0 : Nat} {m0 : Nat} (hm0 : m0 ≤ l0.lvl) {rec : T_knap_search→Int→Int→Option (T_knap_search)} {kE0 : T_knap_search→Option β} (hrec : ∀ {h : H} {σ : Stamp} (x0 : T_knap_search) {m0 : Nat} {u0_0 : V} (hu0_0 : SlU m0 h dTaiChoice x0.l u0_0) {c0_1 : C} (hc0_1 : SoC (dI .i64) x0.now c0_1) (hn0_1 : Nn c0_1 1) {c0_2 : C} (hc0_2 : SoC (dI .i64) x0.best c0_2) (hn0_2 : Nq c0_2 1) {l0 : Loc} {o0 : Nat} (ha0 : AtC h l0 o0 ([.v u0_0,c0_1,c0_2,.v (.p (.int .i64 ((x0.good.getD 0 0)))),.v (.p (.int .i64 ((x0.good.getD 1 0)))),.v (.p (.int .i64 ((x0.good.getD 2 0)))),.v (.p (.int .i64 ((x0.good.getD 3 0)))),.v (.p (.int .i64 x0.cost))])) (hm0 : m0 ≤ l0.lvl) (x1 : Int) (x2 : Int),Sim (rec x0 x1 x2) (ev G X0 49 σ [(.ref l0 o0),(.p (.int .i64 x1)),(.p (.int .i64 x2))] h) (fun r s => ∃ (vb0_0 : V),∃ (cb0_1 : C),∃ (cb0_2 : C),SlU m0 h dTaiChoice r.l vb0_0∧SoC (dI .i64) r.now cb0_1∧Nn cb0_1 1∧SoC (dI .i64) r.best cb0_2∧Nq cb0_2 1∧s = ([],pts h [⟨l0,o0,[.v vb0_0,cb0_1,cb0_2,.v (.p (.int .i64 (r.good.getD 0 0))),.v (.p (.int .i64 (r.good.getD 1 0))),.v (.p (.int .i64 (r.good.getD 2 0))),.v (.p (.int .i64 (r.good.getD 3 0))),.v (.p (.int .i64 r.cost))]⟩]))) (hE0 : ∀ (zp0 : T_knap_search) (v180 : V) (h181 : SlU m0 h dTaiChoice zp0.l v180) (c182 : C) (h183 : SoC (dI .i64) zp0.now c182) (h184 : Nn c182 1) (c185 : C) (h186 : SoC (dI .i64) zp0.best c185) (h187 : Nq c185 1) (H178 : Go.Ev.H) (_ : Fm 143 h [⟨l0,o0,[.v v180,c182,c185,.v (.p (.int .i64 ((zp0.good.getD 0 0)))),.v (.p (.int .i64 ((zp0.good.getD 1 0)))),.v (.p (.int .i64 ((zp0.good.getD 2 0)))),.v (.p (.int .i64 ((zp0.good.getD 3 0)))),.v (.p (.int .i64 zp0.cost))]⟩] [] [] H178),Sim (kE0 zp0) (K ((.exit 0),(envL []),H178)) Q) (k : Nat) : ∀ (x1 : Int) (x2 : Int) (x8 : Int) (zp0 : T_knap_search) (v67 : V) (h68 : SlU m0 h dTaiChoice zp0.l v67) (c69 : C) (h70 : SoC (dI .i64) zp0.now c69) (h71 : Nn c69 1) (c72 : C) (h73 : SoC (dI .i64) zp0.best c72) (h74 : Nq c72 1) (H65 : Go.Ev.H) (_ : Fm 143 h [⟨l0,o0,[.v v67,c69,c72,.v (.p (.int .i64 ((zp0.good.getD 0 0)))),.v (.p (.int .i64 ((zp0.good.getD 1 0)))),.v (.p (.int .i64 ((zp0.good.getD 2 0)))),.v (.p (.int .i64 ((zp0.good.getD 3 0)))),.v (.p (.int .i64 zp0.cost))]⟩] [] [] H65) {σ : Stamp},Sim (p_knap_search_try_l0 k rec kE0 x1 x2 x8 zp0) ((cvL G X0 knap_search_try_c0 knap_search_try_l0 σ (envL [(0,(.ref l0 o0)),(1,(.p (.int .i64 x1))),(2,(.p (.int .i64 x2))),(8,(.p (.int .i64 x8)))]) H65).bind K) Q:=by
 induction k with
 | zero => intros; exact .no
 | succ k ih =>
  intro x1 x2 x8 zp0 v67 h68 c69 h70 h71 c72 h73 h74 H65 S66 σ
  rw [p_knap_search_try_l0]
  refine .round (Sim.ext (knap_search_try_r0 _ _ _ _ _ _ _ _) ?_)
  refine .cq ?_ ?_
  ·refine .nc ?_
   refine .fa ?_
   refine .op ((S66.atB (i:=0) rfl).ld (j:=0) rfl) ?_
   refine .bd fun a76 h77 => ?_
   refine .op ((SlU.sl (S66.upU (all_one hm0) h68)).iS h77 rfl) ?_
   obtain ⟨w79,h80,hE78⟩:=(SlU.sl (S66.upU (all_one hm0) h68)).el h77 rfl
   obtain ⟨v81,v83,rfl,h82,h84⟩:=dTaiChoice.inv h80
   refine .op (hE78.all (by simp)) ?_
   refine .call (knap_fits_ok a76 (show dTaiChoice.R a76 [.p (.int .i64 a76.Class),v81,v83] from (dTaiChoice.mk h82 h84)) x8) fun r85 cs86 H87 h88 q89 => ?_
   cases q89
   refine .ab ?_
   refine .ch (P:=fun r y => r = y) ?_ (fun b113 y114 h115 h116 => ?_)
   ·refine .cq ?_ ?_
    ·exact .ret rfl rfl
    ·refine .ch (P:=fun r y => r = y) ?_ (fun b109 y110 h111 h112 => ?_)
     ·refine .cq ?_ ?_
      ·refine .nc ?_
       refine .fa ?_
       refine .op ((S66.atB (i:=0) rfl).ld (j:=0) rfl) ?_
       refine .bd fun a90 h91 => ?_
       refine .op ((SlU.sl (S66.upU (all_one hm0) h68)).iS h91 rfl) ?_
       obtain ⟨w93,h94,hE92⟩:=(SlU.sl (S66.upU (all_one hm0) h68)).el h91 rfl
       obtain ⟨v95,v97,rfl,h96,h98⟩:=dTaiChoice.inv h94
       refine .op (hE92.fa (j:=1) (by simp)) ?_
       obtain ⟨w100,h101,hE99⟩:=(SlU.sl (S66.upU (all_one hm0) h68)).el h91 rfl
       obtain ⟨v102,v104,rfl,h103,h105⟩:=dTaiChoice.inv h101
       refine .op (hE99.ld (j:=1) rfl) ?_
       refine .bd fun a106 h107 => ?_
       refine .op ((h103.h H65).iS h107 rfl) ?_
       obtain ⟨_,rfl,hE108⟩:=(h103.h H65).el h107 rfl
       refine .op (hE108.ld (j:=0) rfl) ?_
       refine .ci ?_
       exact .ret rfl rfl
      ·exact .ret rfl rfl
     subst h112
     exact .ret rfl rfl
   subst h116
   refine .cq ?_ ?_
   ·exact ih x1 x2 (IntKind.wrap .i64 (x8 + 1)) ((⟨zp0.l,zp0.now,zp0.best,[((zp0.good.getD 0 0)),((zp0.good.getD 1 0)),((zp0.good.getD 2 0)),((zp0.good.getD 3 0))],zp0.cost⟩ : T_knap_search)) v67 h68 c69 h70 h71 c72 h73 h74 H65 (S66.wk2 aN aN)
   refine .nc ?_
   refine .fa ?_
   refine .op (h70.ld (S66.atB (i:=0) rfl) (j:=1) rfl) ?_
   refine .bd fun a118 h119 => ?_
   refine .op ((h70.sl (S66.atB (i:=0) rfl) (j:=1) rfl).iS h119 rfl) ?_
   refine .bd fun a123 h124 => ?_
   obtain ⟨c125,H120,e121,h126,h127,S122⟩:=S66.seB (i:=0) (j:=1) (own:=true) (σ:=(7::0::1::0::1::0::σ)) (nv:=[(.p (.int .i64 x8))]) (xv:=(.p (.int .i64 x8))) (n:=1) (e:=1) (off:=0) rfl rfl h70 h71 h119 h124 rfl rfl (by decide) (stN_one (sI _ _)) (Dt.whole (show (dI .i64).R x8 [(.p (.int .i64 x8))] from rfl) rfl)
   refine .op (sM e121) ?_
   refine .cq ?_ ?_
   ·refine .nc ?_
    refine .fa ?_
    refine .op ((S122.atB (i:=0) rfl).ld (j:=0) rfl) ?_
    refine .bd fun a129 h130 => ?_
    refine .op ((SlU.sl (S122.upU (all_one hm0) h68)).iS h130 rfl) ?_
    obtain ⟨w132,h133,hE131⟩:=(SlU.sl (S122.upU (all_one hm0) h68)).el h130 rfl
    obtain ⟨v134,v136,rfl,h135,h137⟩:=dTaiChoice.inv h133
    refine .op (hE131.fa (j:=1) (by simp)) ?_
    obtain ⟨w139,h140,hE138⟩:=(SlU.sl (S122.upU (all_one hm0) h68)).el h130 rfl
    obtain ⟨v141,v143,rfl,h142,h144⟩:=dTaiChoice.inv h140
    refine .op (hE138.ld (j:=1) rfl) ?_
    refine .bd fun a145 h146 => ?_
    refine .op ((h142.h H120).iS h146 rfl) ?_
    obtain ⟨_,rfl,hE147⟩:=(h142.h H120).el h146 rfl
    refine .op (hE147.ld (j:=0) rfl) ?_
    refine .ci ?_
    refine .call (hrec (⟨zp0.l,a123,zp0.best,[((zp0.good.getD 0 0)),((zp0.good.getD 1 0)),((zp0.good.getD 2 0)),((zp0.good.getD 3 0))],zp0.cost⟩ : T_knap_search) (S122.upU (all_one hm0) h68) h126 (Nq.nn h127) h73 h74 (S122.atB (i:=0) rfl) hm0 (IntKind.wrap .i64 (x1 + 1)) (IntKind.wrap .i64 (x2 - a145))) fun r148 cs149 H150 h151 q152 => ?_
    obtain ⟨v153,c156,c159,h154,h157,h158,h160,h161,q152⟩:=q152
    cases q152
    have h155:=S122.dnU (all_one hm0) h68.1 h154
    have S162:=S122.setB (i:=0) (cs:=[.v v153,c156,c159,.v (.p (.int .i64 ((r148.good.getD 0 0)))),.v (.p (.int .i64 ((r148.good.getD 1 0)))),.v (.p (.int .i64 ((r148.good.getD 2 0)))),.v (.p (.int .i64 ((r148.good.getD 3 0)))),.v (.p (.int .i64 r148.cost))]) rfl rfl
    exact ih x1 x2 (IntKind.wrap .i64 (x8 + 1)) ((⟨r148.l,r148.now,r148.best,[((r148.good.getD 0 0)),((r148.good.getD 1 0)),((r148.good.getD 2 0)),((r148.good.getD 3 0))],r148.cost⟩ : T_knap_search)) v153 h155 c156 h157 h158 c159 h160 h161 (ptC H120 l0 o0 ([.v v153,c156,c159,.v (.p (.int .i64 ((r148.good.getD 0 0)))),.v (.p (.int .i64 ((r148.good.getD 1 0)))),.v (.p (.int .i64 ((r148.good.getD 2 0)))),.v (.p (.int .i64 ((r148.good.getD 3 0)))),.v (.p (.int .i64 r148.cost))])) (S162.wk2 aN aN)
   refine .call (hrec (⟨zp0.l,a123,zp0.best,[((zp0.good.getD 0 0)),((zp0.good.getD 1 0)),((zp0.good.getD 2 0)),((zp0.good.getD 3 0))],zp0.cost⟩ : T_knap_search) (S122.upU (all_one hm0) h68) h126 (Nq.nn h127) h73 h74 (S122.atB (i:=0) rfl) hm0 (IntKind.wrap .i64 (x1 + 1)) x2) fun r163 cs164 H165 h166 q167 => ?_
   obtain ⟨v168,c171,c174,h169,h172,h173,h175,h176,q167⟩:=q167
   cases q167
   have h170:=S122.dnU (all_one hm0) h68.1 h169
   have S177:=S122.setB (i:=0) (cs:=[.v v168,c171,c174,.v (.p (.int .i64 ((r163.good.getD 0 0)))),.v (.p (.int .i64 ((r163.good.getD 1 0)))),.v (.p (.int .i64 ((r163.good.getD 2 0)))),.v (.p (.int .i64 ((r163.good.getD 3 0)))),.v (.p (.int .i64 r163.cost))]) rfl rfl
   exact ih x1 x2 (IntKind.wrap .i64 (x8 + 1)) ((⟨r163.l,r163.now,r163.best,[((r163.good.getD 0 0)),((r163.good.getD 1 0)),((r163.good.getD 2 0)),((r163.good.getD 3 0))],r163.cost⟩ : T_knap_search)) v168 h170 c171 h172 h173 c174 h175 h176 (ptC H120 l0 o0 ([.v v168,c171,c174,.v (.p (.int .i64 ((r163.good.getD 0 0)))),.v (.p (.int .i64 ((r163.good.getD 1 0)))),.v (.p (.int .i64 ((r163.good.getD 2 0)))),.v (.p (.int .i64 ((r163.good.getD 3 0)))),.v (.p (.int .i64 r163.cost))])) (S177.wk2 aN aN)
  exact hE0 ((⟨zp0.l,zp0.now,zp0.best,[((zp0.good.getD 0 0)),((zp0.good.getD 1 0)),((zp0.good.getD 2 0)),((zp0.good.getD 3 0))],zp0.cost⟩ : T_knap_search)) v67 h68 c69 h70 h71 c72 h73 h74 H65 (S66.wk2 aN aN)
theorem knap_search_try_ok (k : Nat) : ∀ {h : H} {σ : Stamp} (x0 : T_knap_search) {m0 : Nat} {u0_0 : V} (hu0_0 : SlU m0 h dTaiChoice x0.l u0_0) {c0_1 : C} (hc0_1 : SoC (dI .i64) x0.now c0_1) (hn0_1 : Nn c0_1 1) {c0_2 : C} (hc0_2 : SoC (dI .i64) x0.best c0_2) (hn0_2 : Nq c0_2 1) {l0 : Loc} {o0 : Nat} (ha0 : AtC h l0 o0 ([.v u0_0,c0_1,c0_2,.v (.p (.int .i64 ((x0.good.getD 0 0)))),.v (.p (.int .i64 ((x0.good.getD 1 0)))),.v (.p (.int .i64 ((x0.good.getD 2 0)))),.v (.p (.int .i64 ((x0.good.getD 3 0)))),.v (.p (.int .i64 x0.cost))])) (hm0 : m0 ≤ l0.lvl) (x1 : Int) (x2 : Int),Sim (p_knap_search_try k x0 x1 x2) (ev G X0 49 σ [(.ref l0 o0),(.p (.int .i64 x1)),(.p (.int .i64 x2))] h) (fun r s => ∃ (vb0_0 : V),∃ (cb0_1 : C),∃ (cb0_2 : C),SlU m0 h dTaiChoice r.l vb0_0∧SoC (dI .i64) r.now cb0_1∧Nn cb0_1 1∧SoC (dI .i64) r.best cb0_2∧Nq cb0_2 1∧s = ([],pts h [⟨l0,o0,[.v vb0_0,cb0_1,cb0_2,.v (.p (.int .i64 (r.good.getD 0 0))),.v (.p (.int .i64 (r.good.getD 1 0))),.v (.p (.int .i64 (r.good.getD 2 0))),.v (.p (.int .i64 (r.good.getD 3 0))),.v (.p (.int .i64 r.cost))]⟩])):=by
 induction k with
 | zero => intros; exact .no
 | succ k ih =>
  intro h σ x0 m0 u0_0 hu0_0 c0_1 hc0_1 hn0_1 c0_2 hc0_2 hn0_2 l0 o0 ha0 hm0 x1 x2
  refine .ev rfl (Sim.ext (knap_search_try_entry _ _ _ _ _ _ _) ?_)
  rw [p_knap_search_try]
  have S0 : Fm 143 h [⟨l0,o0,[.v u0_0,c0_1,c0_2,.v (.p (.int .i64 ((x0.good.getD 0 0)))),.v (.p (.int .i64 ((x0.good.getD 1 0)))),.v (.p (.int .i64 ((x0.good.getD 2 0)))),.v (.p (.int .i64 ((x0.good.getD 3 0)))),.v (.p (.int .i64 x0.cost))]⟩] [] [] (List.replicate 143 []::h):=Fm.start1 ha0
  refine .nc ?_
  refine .fa ?_
  refine .op ((S0.atB (i:=0) rfl).ld (j:=0) rfl) ?_
  refine .op ((SlU.sl (S0.upU (all_one hm0) hu0_0)).len) ?_
  refine .ci ?_
  refine .cq ?_ ?_
  ·have S2:=S0.add (d:=6) (s:=(18::0::1::0::0::σ)) (cs:=List.map C.v [(.p (.int .i64 0)),(.p (.int .i64 0)),(.p (.int .i64 0)),(.p (.int .i64 0))]) (by decide) rfl
   have S2 : Fm _ _ _ _ _ (alO [(.p (.int .i64 0)),(.p (.int .i64 0)),(.p (.int .i64 0)),(.p (.int .i64 0))] (18::0::1::0::0::σ) 6 (List.replicate 143 []::h)).2:=S2
   first | rw [S2.newLoc 6 (18::0::1::0::0::σ)] | erw [S2.newLoc 6 (18::0::1::0::0::σ)]
   refine .nd (⟨_,(by kernel_rfl),S2.slot (i:=0) rfl⟩) ?_
   refine .nc ?_
   refine .fa ?_
   refine .op ((S2.atB (i:=0) rfl).ld (j:=0) rfl) ?_
   refine .nc ?_
   refine .fa ?_
   refine .op (hc0_1.ld (S2.atB (i:=0) rfl) (j:=1) rfl) ?_
   refine .nc ?_
   refine .fa ?_
   refine .op ((S2.atB (i:=0) rfl).ld (j:=0) rfl) ?_
   refine .nc ?_
   refine .fa ?_
   refine .op (hc0_1.ld (S2.atB (i:=0) rfl) (j:=1) rfl) ?_
   refine .call (knap_Good_ok k x0.l (SlU.sl (S2.upU (all_one hm0) hu0_0)) x0.now (hc0_1.sl (S2.atB (i:=0) rfl) (j:=1) rfl)) fun r4 cs5 H6 h7 q8 => ?_
   obtain ⟨w9,h10,q8⟩:=q8
   cases q8
   obtain rfl : w9 = [(.p (.int .i64 ((r4.getD 0 0)))),(.p (.int .i64 ((r4.getD 1 0)))),(.p (.int .i64 ((r4.getD 2 0)))),(.p (.int .i64 ((r4.getD 3 0))))]:=dA_int h10
   refine .nd (hc0_1.ld (S2.atB (i:=0) rfl) (j:=1) rfl) ?_
   refine .nd ((S2.atB (i:=0) rfl).ld (j:=0) rfl) ?_
   refine .nd (⟨_,(by kernel_rfl),S2.slot (i:=0) rfl⟩) ?_
   refine .call (knap_Cost_ok k x0.l (SlU.sl (S2.upU (all_one hm0) hu0_0)) x0.now (hc0_1.sl (S2.atB (i:=0) rfl) (j:=1) rfl)) fun r11 cs12 H13 h14 q15 => ?_
   cases q15
   refine .ci ?_
   refine .nd (⟨_,(by kernel_rfl),S2.slot (i:=0) rfl⟩) ?_
   obtain ⟨H16,e17,S18⟩:=S2.stGv (i:=0) (j:=0) (own:=false) (σ:=(19::0::1::0::0::σ)) (xs:=[(.p (.int .i64 ((r4.getD 0 0)))),(.p (.int .i64 ((r4.getD 1 0)))),(.p (.int .i64 ((r4.getD 2 0)))),(.p (.int .i64 ((r4.getD 3 0))))]) rfl rfl (sC (sI _ _) (sC (sI _ _) (sC (sI _ _) (sC (sI _ _) sN)))) rfl rfl
   refine .op (sM e17) ?_
   refine .nc ?_
   refine .fa ?_
   refine .op (hc0_2.ld (S18.atB (i:=0) rfl) (j:=2) rfl) ?_
   refine .op (hc0_2.eqNil (e:=3) (by kernel_rfl) hn0_2) ?_
   refine .ab ?_
   refine .ch (P:=fun r y => (.p (.bool r),H16) = y) ?_ (fun b24 y25 h26 h27 => ?_)
   ·refine .cq ?_ ?_
    ·exact .ret rfl rfl
    ·refine .op ((S18.atG (i:=0) rfl).ldVs (j:=0) (xs:=[(.p (.int .i64 ((r4.getD 0 0)))),(.p (.int .i64 ((r4.getD 1 0)))),(.p (.int .i64 ((r4.getD 2 0)))),(.p (.int .i64 ((r4.getD 3 0))))]) rfl rfl (by decide)) ?_
     refine .nc ?_
     refine .fa ?_
     refine .op ((S18.atB (i:=0) rfl).ldVs (j:=3) (xs:=[.p (.int .i64 ((x0.good.getD 0 0))),.p (.int .i64 ((x0.good.getD 1 0))),.p (.int .i64 ((x0.good.getD 2 0))),.p (.int .i64 ((x0.good.getD 3 0)))]) rfl rfl (by decide)) ?_
     refine .call (knap_Better_ok k r4 h10 ([((x0.good.getD 0 0)),((x0.good.getD 1 0)),((x0.good.getD 2 0)),((x0.good.getD 3 0))]) (show (dA 4 (dI .i64)).R ([((x0.good.getD 0 0)),((x0.good.getD 1 0)),((x0.good.getD 2 0)),((x0.good.getD 3 0))]) [.p (.int .i64 ((x0.good.getD 0 0))),.p (.int .i64 ((x0.good.getD 1 0))),.p (.int .i64 ((x0.good.getD 2 0))),.p (.int .i64 ((x0.good.getD 3 0)))] from (⟨rfl,dI_map [((x0.good.getD 0 0)),((x0.good.getD 1 0)),((x0.good.getD 2 0)),((x0.good.getD 3 0))]⟩ : (dA 4 (dI .i64)).R [((x0.good.getD 0 0)),((x0.good.getD 1 0)),((x0.good.getD 2 0)),((x0.good.getD 3 0))] [.p (.int .i64 ((x0.good.getD 0 0))),.p (.int .i64 ((x0.good.getD 1 0))),.p (.int .i64 ((x0.good.getD 2 0))),.p (.int .i64 ((x0.good.getD 3 0)))]))) fun r19 cs20 H21 h22 q23 => ?_
     cases q23
     refine .ab ?_
     exact .ret rfl rfl
   subst h27
   refine .ab ?_
   refine .ch (P:=fun r y => r = y) ?_ (fun b32 y33 h34 h35 => ?_)
   ·refine .cq ?_ ?_
    ·exact .ret rfl rfl
    ·refine .op ((S18.atG (i:=0) rfl).ldVs (j:=0) (xs:=[(.p (.int .i64 ((r4.getD 0 0)))),(.p (.int .i64 ((r4.getD 1 0)))),(.p (.int .i64 ((r4.getD 2 0)))),(.p (.int .i64 ((r4.getD 3 0))))]) rfl rfl (by decide)) ?_
     refine .nc ?_
     refine .fa ?_
     refine .op ((S18.atB (i:=0) rfl).ldVs (j:=3) (xs:=[.p (.int .i64 ((x0.good.getD 0 0))),.p (.int .i64 ((x0.good.getD 1 0))),.p (.int .i64 ((x0.good.getD 2 0))),.p (.int .i64 ((x0.good.getD 3 0)))]) rfl rfl (by decide)) ?_
     refine .op (eqS_ok (by kernel_rfl : _ = andL [((r4.getD 0 0)) == ((x0.good.getD 0 0)),((r4.getD 1 0)) == ((x0.good.getD 1 0)),((r4.getD 2 0)) == ((x0.good.getD 2 0)),((r4.getD 3 0)) == ((x0.good.getD 3 0))])) ?_
     refine .ab ?_
     refine .ch (P:=fun r y => r = y) ?_ (fun b28 y29 h30 h31 => ?_)
     ·refine .cq ?_ ?_
      ·refine .nc ?_
       refine .fa ?_
       refine .op ((S18.atB (i:=0) rfl).ld (j:=7) rfl) ?_
       refine .ci ?_
       exact .ret rfl rfl
      ·exact .ret rfl rfl
     subst h31
     exact .ret rfl rfl
   subst h35
   refine .cq ?_ ?_
   ·refine .nc ?_
    refine .fa ?_
    refine .op (hc0_1.ld (S18.atB (i:=0) rfl) (j:=1) rfl) ?_
    refine .op ((S18.atG (i:=0) rfl).ldVs (j:=0) (xs:=[(.p (.int .i64 ((r4.getD 0 0)))),(.p (.int .i64 ((r4.getD 1 0)))),(.p (.int .i64 ((r4.getD 2 0)))),(.p (.int .i64 ((r4.getD 3 0))))]) rfl rfl (by decide)) ?_
    refine .call (clone_ok (b:=8) (f:=56) (tt:=3) (e:=1) (τ:=fun σ => _::_::_::_::_::σ) (fun x h => slices_Clone_Lint_int_entry _ _ _ x h) (hc0_1.sl (S18.atB (i:=0) rfl) (j:=1) rfl) rfl (by decide) (by decide) (by decide) (by kernel_rfl) (by kernel_rfl) rfl) fun r37 cs38 H39 h40 q41 => ?_
    obtain ⟨c42,cs43,h44,h45,q41⟩:=q41
    cases q41
    obtain ⟨v46,H47,e48,S49⟩:=S18.land (dt:=(dI .i64)) (d:=70) (e:=0) (n:=0) h44 h45 (by decide) rfl
    erw [e48]
    refine .nd ((S49.atG (i:=0) rfl).ldVs (j:=0) (xs:=[(.p (.int .i64 ((r4.getD 0 0)))),(.p (.int .i64 ((r4.getD 1 0)))),(.p (.int .i64 ((r4.getD 2 0)))),(.p (.int .i64 ((r4.getD 3 0))))]) rfl rfl (by decide)) ?_
    refine .nc ?_
    refine .fa ?_
    refine .bd fun _ h58 => ?_
    obtain ⟨c54,H51,e52,h55,h57,S53⟩:=S49.mvB (i:=0) (j:=2) (k:=0) (σ:=(12::1::0::1::1::0::0::σ)) rfl rfl rfl rfl rfl
    have h56:=Nq.mk (k:=1) h55 h57 rfl h58
    refine .op (sM e52) ?_
    refine .nd ((S53.atG (i:=0) rfl).ldVs (j:=0) (xs:=[(.p (.int .i64 ((r4.getD 0 0)))),(.p (.int .i64 ((r4.getD 1 0)))),(.p (.int .i64 ((r4.getD 2 0)))),(.p (.int .i64 ((r4.getD 3 0))))]) rfl rfl (by decide)) ?_
    refine .nc ?_
    refine .fa ?_
    obtain ⟨H59,e60,S61⟩:=S53.stBv (i:=0) (j:=3) (own:=false) (σ:=(15::1::0::1::1::0::0::σ)) (xs:=[(.p (.int .i64 ((r4.getD 0 0)))),(.p (.int .i64 ((r4.getD 1 0)))),(.p (.int .i64 ((r4.getD 2 0)))),(.p (.int .i64 ((r4.getD 3 0))))]) rfl (sC (sI _ _) (sC (sI _ _) (sC (sI _ _) (sC (sI _ _) sN)))) rfl rfl
    refine .op (sM e60) ?_
    refine .nc ?_
    refine .fa ?_
    obtain ⟨H62,e63,S64⟩:=S61.stB (i:=0) (j:=7) (own:=true) (σ:=(18::1::0::1::1::0::0::σ)) (x:=(.p (.int .i64 r11))) rfl (sI _ _) rfl
    refine .op (sM e63) ?_
    exact .fin (S64.finN lN) ⟨u0_0,c0_1,c54,hu0_0,hc0_1,hn0_1,h55,h56,rfl⟩
   exact .fin (S18.finN lN) ⟨u0_0,c0_1,c0_2,hu0_0,hc0_1,hn0_1,hc0_2,hn0_2,rfl⟩
  refine .as (knap_search_try_l0_ok hm0 (@ih) ?_ k x1 x2 (-1) ((⟨x0.l,x0.now,x0.best,[((x0.good.getD 0 0)),((x0.good.getD 1 0)),((x0.good.getD 2 0)),((x0.good.getD 3 0))],x0.cost⟩ : T_knap_search)) u0_0 hu0_0 c0_1 hc0_1 hn0_1 c0_2 hc0_2 hn0_2 (List.replicate 143 []::h) (S0.wk2 aN aN))
  ·intro zp0 v191 h192 c193 h194 h195 c196 h197 h198 H189 S190
   refine .ext (knap_search_try_a0_0 _ _ _ _) ?_
   exact .fin (S190.finN lN) ⟨v191,c193,c196,h192,h194,h195,h197,h198,rfl⟩
def p_knap_Best (k : Nat) (x0 : (List TaiChoice)) (x1 : Int) : Option ((List Int)) :=
bif ((if ((x0.length : Int)) < 8 then ((x0.length : Int)) else 8)) == 0 then (
some ((([] : List Int))))
else (
(sub x0 0 ((if ((x0.length : Int)) < 8 then ((x0.length : Int)) else 8))).bind fun a2 =>
(mk 8 0 ((if ((x0.length : Int)) < 8 then ((x0.length : Int)) else 8))).bind fun a4 =>
(p_knap_search_try k (⟨a2,a4,(([] : List Int)),[0,0,0,0],0⟩ : T_knap_search) 0 ((if ((if 4096 < x1 then 4096 else x1)) > 0 then ((if 4096 < x1 then 4096 else x1)) else 0))).bind fun r21 =>
bif decide (0 < (IntKind.wrap .i64 (((x0.length : Int)) - ((if ((x0.length : Int)) < 8 then ((x0.length : Int)) else 8))))) then (
none)
else (
some (r21.best)))
theorem knap_Best_ok (k : Nat) {h : H} {σ : Stamp} (x0 : List TaiChoice) {u0 : V} (hu0 : SlH h dTaiChoice x0 u0) (x1 : Int) : Sim (p_knap_Best k x0 x1) (ev G X0 29 σ [u0,(.p (.int .i64 x1))] h) (fun r s => ∃ (c0 : C),∃ (a0 : List V),OwnS c0 (dI .i64).sz r.length a0∧(dI .i64).L r a0∧s = ([c0],h)):=by
 refine .ev rfl (Sim.ext (knap_Best_entry _ _ _ _ _ _) ?_)
 rw [p_knap_Best]
 have S0 : Fm 41 h [] [] [] (List.replicate 41 []::h):=Fm.start0
 refine .op ((S0.low hu0).len) ?_
 refine .ci ?_
 refine .cq ?_ ?_
 ·exact .fin (S0.finN (lC (SlF.nil (dI .i64)).still.lv lN)) ⟨(.v (.p (.slice none 0 0))),[],⟨by simp,.inl ⟨rfl,rfl,.inl rfl⟩⟩,rfl,rfl⟩
 refine .bd fun a2 h3 => ?_
 refine .op ((S0.low hu0).slS h3 rfl rfl rfl) ?_
 refine .bd fun a4 h5 => ?_
 obtain ⟨v6,H7,e8,S9⟩:=S0.mk (dt:=(dI .i64)) (d:=17) (e:=1) (zv:=[(.p (.int .i64 0))]) (σ:=(4::0::1::1::1::0::σ)) h5 rfl rfl (by decide) (by decide) rfl
 refine .op (e8) ?_
 refine .nd ((S9.low hu0).slS h3 rfl rfl rfl) ?_
 refine .op (bldV (pC ((S9.low hu0).sub h3 (e:=3) rfl).cells (pC (S9.cellsD (i:=0) rfl) pN)) (by kernel_rfl : _ = some (.agg [(subV 3 u0 (Int.toNat (0)) (Int.toNat ((if ((x0.length : Int)) < 8 then ((x0.length : Int)) else 8)))),v6,(.p (.slice none 0 0)),(.p (.int .i64 0)),(.p (.int .i64 0)),(.p (.int .i64 0)),(.p (.int .i64 0)),(.p (.int .i64 0))]))) ?_
 obtain ⟨c14,H15,e16,h17,h18,S19⟩:=S9.layO (k:=0) rfl rfl rfl
 obtain ⟨H11,e12,S13⟩:=S19.boxL (d:=19) (s:=(6::0::1::1::1::0::σ)) (xs:=[(subV 3 u0 (Int.toNat (0)) (Int.toNat ((if ((x0.length : Int)) < 8 then ((x0.length : Int)) else 8)))),v6,(.p (.slice none 0 0)),(.p (.int .i64 0)),(.p (.int .i64 0)),(.p (.int .i64 0)),(.p (.int .i64 0)),(.p (.int .i64 0))]) (lo_lw (S9.layLow ((hu0.sub h3 (e:=3) rfl))) (lo_ow e16 (lo_pl (SlF.nil (dI .i64)).still (lo_pl (sI _ _) (lo_pl (sI _ _) (lo_pl (sI _ _) (lo_pl (sI _ _) (lo_pl (sI _ _) lo_nil)))))))) (by decide) rfl
 refine .op (e12) ?_
 refine .call (knap_search_try_ok k (⟨a2,a4,(([] : List Int)),[0,0,0,0],0⟩ : T_knap_search) (S13.upU aN (SlH.u ((hu0.sub h3 (e:=3) rfl)))) h17 h18 (SoC.frz (SlF.nil (dI .i64))) Nq.nil (S13.atG (i:=0) rfl) (Nat.le_refl _) 0 ((if ((if 4096 < x1 then 4096 else x1)) > 0 then ((if 4096 < x1 then 4096 else x1)) else 0))) fun r21 cs22 H23 h24 q25 => ?_
 obtain ⟨v26,c29,c32,h27,h30,h31,h33,h34,q25⟩:=q25
 cases q25
 have h28:=(S13.dnU aN (Nat.le_refl _) h27).sl
 have S35:=S13.setG (i:=0) (cs':=[.v v26,c29,c32,.v (.p (.int .i64 ((r21.good.getD 0 0)))),.v (.p (.int .i64 ((r21.good.getD 1 0)))),.v (.p (.int .i64 ((r21.good.getD 2 0)))),.v (.p (.int .i64 ((r21.good.getD 3 0)))),.v (.p (.int .i64 r21.cost))]) rfl rfl rfl
 refine .nc ?_
 refine .fa ?_
 refine .op (h33.ld (S35.atG (i:=0) rfl) (j:=2) rfl) ?_
 refine .op ((S35.low hu0).len) ?_
 refine .ci ?_
 refine .as ?_
 refine .round (Sim.ext (knap_Best_r0 _ _ _ _ _ _ _) ?_)
 refine .cq ?_ ?_
 ·exact .no
 refine .pure ?_
 refine .ext (knap_Best_a0_0 _ _ _ _ _) ?_
 obtain ⟨v37,e38,c39,cs40,H41,e42,h43,h44,S45⟩:=S35.clipC (G:=G) (X:=X0) (i:=0) (j:=2) (f:=47) (d:=40) (e:=1) (fun x h => slices_Clip_Lint_int_entry _ _ _ x h) rfl rfl rfl h33 (Nq.nn h34) rfl (fun _ => rfl)
 refine .op (e38) ?_
 exact .fin (S45.finE (Ex.st (e42 _) Ex.nil)) ⟨c39,cs40,h43,h44,rfl⟩
end
end Go.Ev
namespace Go.Ev
namespace Knap
theorem sm_congr {f g : Nat→Int} : ∀ {n : Nat},(∀ q,q < n→f q = g q)→sm f n = sm g n
 | 0,_ => rfl
 | n + 1,h => by
  simp only [sm]
  rw [sm_congr fun q hq => h q (by omega),h n (by omega)]
theorem sm_mono {f : Nat→Int} (h0 : ∀ q,0 ≤ f q) {i : Nat} : ∀ d : Nat,sm f i ≤ sm f (i + d)
 | 0 => Int.le_refl _
 | d + 1 => by
  have:=sm_mono h0 (i:=i) d
  have:=h0 (i + d)
  show sm f i ≤ sm f (i + d) + f (i + d)
  omega
theorem cost_congr {l : List TaiChoice} {y z : List Int} {n : Nat} (h : ∀ q,q < n→y.getD q 0 = z.getD q 0) : sm (cf l y) n = sm (cf l z) n :=
 sm_congr fun q hq => by unfold cf; rw [h q hq]
theorem good_congr {l : List TaiChoice} {y z : List Int} {n : Nat} {j : Int} (h : ∀ q,q < n→y.getD q 0 = z.getD q 0) : sm (gf l y j) n = sm (gf l z j) n :=
 sm_congr fun q hq => by unfold gf; rw [h q hq]
theorem obj_congr {l : List TaiChoice} {y z : List Int} (hl : y.length = z.length) (h : ∀ q,q < z.length→y.getD q 0 = z.getD q 0) : obj l y = obj l z:=by
 unfold obj goodL costL
 rw [hl,cost_congr h,good_congr h,good_congr h,good_congr h,good_congr h]
structure Inv (l : List TaiChoice) (B : Int) (s : T_knap_search) : Prop where
 sl : s.l = l
 now : s.now.length = l.length
 g4 : s.good = [s.good.getD 0 0,s.good.getD 1 0,s.good.getD 2 0,s.good.getD 3 0]
 best : s.best ≠ []→s.best.length = l.length∧FA l s.best∧costL l s.best ≤ B∧s.good = goodL l s.best∧s.cost = costL l s.best
def Up (l : List TaiChoice) (s s' : T_knap_search) : Prop:=s.best ≠ []→s'.best ≠ []∧obj l s.best ≤ obj l s'.best
def Cov (l : List TaiChoice) (s : T_knap_search) (z : List Int) : Prop:=s.best ≠ []∧obj l z ≤ obj l s.best
theorem Cov.up {l : List TaiChoice} {s s' : T_knap_search} {z : List Int} (h : Cov l s z) (u : Up l s s') : Cov l s' z:=by
 obtain ⟨h1,h2⟩:=u h.1
 exact ⟨h1,by have:=h.2; omega⟩
structure Post (l : List TaiChoice) (B : Int) (i : Nat) (s s' : T_knap_search) : Prop where
 inv : Inv l B s'
 pre : ∀ q,q < i→s'.now.getD q 0 = s.now.getD q 0
 up : Up l s s'
 cov : ∀ z : List Int,z.length = l.length→(∀ q,q < i→z.getD q 0 = s.now.getD q 0)→FA l z→costL l z ≤ B→Cov l s' z
structure Pre (l : List TaiChoice) (B : Int) (i : Nat) (left : Int) (s : T_knap_search) : Prop where
 inv : Inv l B s
 hi : i ≤ l.length
 fit : ∀ q,q < i→fitB (ch l q) (s.now.getD q 0) = true
 nn : 0 ≤ left
 sum : sm (cf l s.now) i + left = B
theorem eta {l : List TaiChoice} {B : Int} {s : T_knap_search} (h : Inv l B s) : (⟨s.l,s.now,s.best,[s.good.getD 0 0,s.good.getD 1 0,s.good.getD 2 0,s.good.getD 3 0],s.cost⟩ : T_knap_search) = s:=by
 have:=h.g4
 rw [← this]
theorem neO_ok {α : Type} {xs : List α} (h : xs ≠ []) : neO xs = some ():=by
 unfold neO
 cases xs with
 | nil => exact absurd rfl h
 | cons => rfl
theorem obj_lt {l : List TaiChoice} (hl : OkL l) {y z : List Int} (hy : y.length ≤ 8) (hz : z.length ≤ 8) : (key (goodL l y) < key (goodL l z) ∨ key (goodL l y) = key (goodL l z)∧costL l z < costL l y) ↔ obj l y < obj l z:=by
 have a:=cf_bd hl y y.length
 have b:=cf_bd hl z z.length
 unfold obj
 unfold costL
 omega
theorem try_leaf {l : List TaiChoice} {B : Int} (hl : OkL l) (h1 : 0 < l.length) (h8 : l.length ≤ 8) {s : T_knap_search} {left : Int} {k : Nat} (hk : 10 ≤ k) (hp : Pre l B l.length left s) : ∃ s',p_knap_search_try (k + 1) s (l.length : Int) left = some s'∧Post l B l.length s s':=by
 have hi:=hp.inv
 have hn:=hi.now
 rw [p_knap_search_try,hi.sl]
 rw [show (((l.length : Nat) : Int) == ((l.length : Nat) : Int)) = true from beq_self_eq_true _,cond_true,good_ok hl hn h8 hk,cost_ok hl hn h8 hk]
 simp only [Option.bind_some]
 have hfa : FA l s.now:=hp.fit
 have hcost : costL l s.now ≤ B:=by
  have:=hp.sum
  have:=hp.nn
  unfold costL
  rw [hn]; omega
 have g4:=goodL_4 hl (z:=s.now) (by omega)
 have hnn : s.now ≠ []:=fun e => by rw [e] at hn; simp at hn; omega
 have yes : ∃ s',(bif true then (p_clone 8 s.now).bind fun r37 => (neO r37).bind fun _ => some (⟨l,s.now,r37,[(goodL l s.now).getD 0 0,(goodL l s.now).getD 1 0,(goodL l s.now).getD 2 0,(goodL l s.now).getD 3 0],costL l s.now⟩ : T_knap_search) else some (⟨l,s.now,s.best,[s.good.getD 0 0,s.good.getD 1 0,s.good.getD 2 0,s.good.getD 3 0],s.cost⟩ : T_knap_search)) = some s'∧s' = ⟨l,s.now,s.now,goodL l s.now,costL l s.now⟩:=by
  rw [cond_true,clone_eq (by omega) (by omega),Option.bind_some,neO_ok hnn,Option.bind_some]
  exact ⟨_,rfl,by rw [← g4.len]⟩
 have postY : (s.best ≠ []→obj l s.best ≤ obj l s.now)→Post l B l.length s ⟨l,s.now,s.now,goodL l s.now,costL l s.now⟩:=fun hb =>
  ⟨⟨rfl,hn,g4.len,fun _ => ⟨hn,hfa,hcost,rfl,rfl⟩⟩,fun _ _ => rfl,fun h => ⟨hnn,hb h⟩,fun z hz hz2 _ _ => ⟨hnn,by
   rw [obj_congr (y:=z) (z:=s.now) (by omega) (fun q hq => hz2 q (by omega))]
   exact Int.le_refl _⟩⟩
 by_cases hb : s.best = []
 ·have e : s.best.isEmpty = true:=by rw [hb]; rfl
  rw [e]
  simp only [cond_true,Option.bind_some]
  obtain ⟨s',y1,rfl⟩:=yes
  exact ⟨_,y1,postY fun h => absurd hb h⟩
 ·have e : s.best.isEmpty = false:=by
   cases hx : s.best with
   | nil => exact absurd hx hb
   | cons => rfl
  obtain ⟨b1,b2,b3,b4,b5⟩:=hi.best hb
  have g5:=goodL_4 hl (z:=s.best) (by omega)
  have hgb : G4 s.good:=by rw [b4]; exact g5
  rw [e,← hgb.len,better_ok g4 hgb hk,eq4 g4 hgb,b4,b5]
  simp only [cond_false,Option.bind_some]
  have ol:=obj_lt hl (y:=s.best) (z:=s.now) (by omega) (by omega)
  by_cases hbt : obj l s.best < obj l s.now
  ·have hc : (bif decide (key (goodL l s.best) < key (goodL l s.now)) then some true else (bif decide (key (goodL l s.now) = key (goodL l s.best)) then some (decide (costL l s.now < costL l s.best)) else some false).bind fun b28 => some b28) = some true:=by
    rcases ol.2 hbt with h | ⟨h,h'⟩
    ·simp [h]
    ·simp [h,h']
   rw [hc]
   simp only [Option.bind_some]
   obtain ⟨s',y1,rfl⟩:=yes
   rw [b4] at y1
   exact ⟨_,y1,postY fun _ => by omega⟩
  ·have hc : (bif decide (key (goodL l s.best) < key (goodL l s.now)) then some true else (bif decide (key (goodL l s.now) = key (goodL l s.best)) then some (decide (costL l s.now < costL l s.best)) else some false).bind fun b28 => some b28) = some false:=by
    have h1 : ¬ key (goodL l s.best) < key (goodL l s.now):=fun h => hbt (ol.1 (.inl h))
    by_cases h2 : key (goodL l s.now) = key (goodL l s.best)
    ·have h3 : ¬ costL l s.now < costL l s.best:=fun h => hbt (ol.1 (.inr ⟨h2.symm,h⟩))
     simp [h2,h3]
    ·simp [h1,h2]
   rw [hc]
   simp only [Option.bind_some,cond_false]
   refine ⟨_,rfl,?_⟩
   rw [show (⟨l,s.now,s.best,goodL l s.best,costL l s.best⟩ : T_knap_search) = s by rw [← b4,← b5,← hi.sl]]
   exact ⟨hi,fun _ _ => rfl,fun h => ⟨h,Int.le_refl _⟩,fun z hz hz2 _ _ => ⟨hb,by
    rw [obj_congr (y:=z) (z:=s.now) (by omega) (fun q hq => hz2 q (by omega))]
    omega⟩⟩
structure LInv (l : List TaiChoice) (B : Int) (i j : Nat) (s0 s : T_knap_search) : Prop where
 inv : Inv l B s
 pre : ∀ q,q < i→s.now.getD q 0 = s0.now.getD q 0
 up : Up l s0 s
 cov : ∀ z : List Int,z.length = l.length→(∀ q,q < i→z.getD q 0 = s0.now.getD q 0)→FA l z→costL l z ≤ B→z.getD i 0 < (j : Int) - 1→Cov l s z
theorem getD_set {xs : List Int} {i q : Nat} {x : Int} (h : i < xs.length) : (xs.set i x).getD q 0 = if q = i then x else xs.getD q 0:=by
 simp only [List.getD_eq_getElem?_getD,List.getElem?_set]
 by_cases hq : i = q
 ·subst hq; simp [h]
 ·rw [if_neg hq,if_neg (Ne.symm hq)]
theorem fit_range {c : TaiChoice} (hc : OkC c) {p : Int} (h : fitB c p = true) : -1 ≤ p∧p < 4:=by
 simp only [fitB,Bool.or_eq_true,beq_iff_eq] at h
 rcases h with h | h
 ·omega
 ·simp only [hasB,decide_eq_true_eq] at h
  have:=hc.l4
  omega
theorem fit_has {c : TaiChoice} {p : Int} (h : fitB c p = true) (h0 : 0 ≤ p) : hasB c p = true:=by
 simp only [fitB,Bool.or_eq_true,beq_iff_eq] at h
 rcases h with h | h
 ·omega
 ·exact h
theorem try_loop {l : List TaiChoice} {B : Int} (hl : OkL l) (h8 : l.length ≤ 8) (hB : B ≤ 1048576) {i : Nat} (hil : i < l.length) {left : Int} {s0 : T_knap_search} (hp : Pre l B i left s0) {rec : T_knap_search→Int→Int→Option T_knap_search}
  (hrec : ∀ left' s,Pre l B (i + 1) left' s→∃ s',rec s ((i + 1 : Nat) : Int) left' = some s'∧Post l B (i + 1) s s') (kE : T_knap_search→Option T_knap_search) :
  ∀ m j k : Nat,j + m = 5→m < k→∀ s,LInv l B i j s0 s→∃ s',p_knap_search_try_l0 k rec kE (i : Int) left ((j : Int) - 1) s = kE s'∧LInv l B i 5 s0 s':=by
 intro m
 induction m with
 | zero =>
  intro j k hj hk s hs
  obtain ⟨k,rfl⟩ : ∃ j,k = j + 1:=⟨k - 1,by omega⟩
  rw [p_knap_search_try_l0,eta hs.inv]
  have : decide ((j : Int) - 1 < 4) = false:=by simp; omega
  rw [this,cond_false]
  have : j = 5:=by omega
  subst this
  exact ⟨s,rfl,hs⟩
 | succ m ih =>
  intro j k hj hk s hs
  obtain ⟨k,rfl⟩ : ∃ j,k = j + 1:=⟨k - 1,by omega⟩
  rw [p_knap_search_try_l0,eta hs.inv]
  have hi:=hs.inv
  have hn:=hi.now
  have e1 : decide ((j : Int) - 1 < 4) = true:=by simp; omega
  have ew : IntKind.wrap .i64 (((j : Int) - 1) + 1) = ((j + 1 : Nat) : Int) - 1:=by rw [wrap_i64 (by omega) (by omega)]; omega
  have ewi : IntKind.wrap .i64 ((i : Int) + 1) = ((i + 1 : Nat) : Int):=wrap_nat (by omega)
  rw [e1,cond_true,hi.sl,ix_ch hil]
  simp only [Option.bind_some]
  rw [fits_ok (hl i)]
  simp only [Option.bind_some]
  have csum : ∀ z : List Int,z.length = l.length→(∀ q,q < i→z.getD q 0 = s0.now.getD q 0)→z.getD i 0 = (j : Int) - 1→costL l z ≤ B→cst (ch l i) ((j : Int) - 1) ≤ left:=fun z hz hq hzi hc => by
   have h1:=sm_mono (f:=cf l z) (fun _ => cst_lo) (i:=i + 1) (l.length - (i + 1))
   rw [show i + 1 + (l.length - (i + 1)) = z.length by omega] at h1
   have h2 : sm (cf l z) (i + 1) = sm (cf l z) i + cst (ch l i) ((j : Int) - 1):=by rw [← hzi]; rfl
   rw [cost_congr hq] at h2
   have:=hp.sum
   unfold costL at hc
   omega
  have skip : (∀ z : List Int,z.length = l.length→(∀ q,q < i→z.getD q 0 = s0.now.getD q 0)→FA l z→costL l z ≤ B→z.getD i 0 = (j : Int) - 1→False)→∃ s',p_knap_search_try_l0 k rec kE (i : Int) left (((j + 1 : Nat) : Int) - 1) s = kE s'∧LInv l B i 5 s0 s':=fun hno =>
   ih (j + 1) k (by omega) (by omega) s ⟨hi,hs.pre,hs.up,fun z h1 h2 h3 h4 h5 => by
    by_cases hz : z.getD i 0 = (j : Int) - 1
    ·exact (hno z h1 h2 h3 h4 hz).elim
    ·exact hs.cov z h1 h2 h3 h4 (by omega)⟩
  cases hf : fitB (ch l i) ((j : Int) - 1)
  ·simp only [Bool.not_false,cond_true,Option.bind_some]
   rw [ew]
   exact skip fun z h1 _ h3 _ h5 => by
    have:=h3 i hil
    rw [h5,hf] at this
    cases this
  ·have go : cst (ch l i) ((j : Int) - 1) ≤ left→∃ s',((rec ⟨l,s.now.set i ((j : Int) - 1),s.best,s.good,s.cost⟩ ((i + 1 : Nat) : Int) (left - cst (ch l i) ((j : Int) - 1))).bind fun r =>
      p_knap_search_try_l0 k rec kE (i : Int) left (((j + 1 : Nat) : Int) - 1) ⟨r.l,r.now,r.best,[r.good.getD 0 0,r.good.getD 1 0,r.good.getD 2 0,r.good.getD 3 0],r.cost⟩) = kE s'∧LInv l B i 5 s0 s':=fun hc => by
    have hset : ∀ q,(s.now.set i ((j : Int) - 1)).getD q 0 = if q = i then (j : Int) - 1 else s.now.getD q 0:=fun q => getD_set (by omega)
    have hpre : Pre l B (i + 1) (left - cst (ch l i) ((j : Int) - 1)) ⟨l,s.now.set i ((j : Int) - 1),s.best,s.good,s.cost⟩:=by
     refine ⟨⟨rfl,by simpa using hn,hi.g4,hi.best⟩,by omega,fun q hq => ?_,by omega,?_⟩
     ·show fitB (ch l q) ((s.now.set i ((j : Int) - 1)).getD q 0) = true
      rw [hset]
      by_cases h : q = i
      ·rw [if_pos h,h,hf]
      ·rw [if_neg h,hs.pre q (by omega)]; exact hp.fit q (by omega)
     ·show sm (cf l (s.now.set i ((j : Int) - 1))) (i + 1) + _ = B
      have h2 : sm (cf l (s.now.set i ((j : Int) - 1))) (i + 1) = sm (cf l (s.now.set i ((j : Int) - 1))) i + cst (ch l i) ((j : Int) - 1):=by
       simp only [sm]
       congr 1
       unfold cf
       rw [hset,if_pos rfl]
      have h3 : sm (cf l (s.now.set i ((j : Int) - 1))) i = sm (cf l s0.now) i:=cost_congr fun q hq => by rw [hset,if_neg (by omega),hs.pre q hq]
      have:=hp.sum
      omega
    obtain ⟨s1,r1,p1⟩:=hrec _ _ hpre
    rw [r1,Option.bind_some,eta p1.inv]
    have up1 : Up l s s1:=p1.up
    refine ih (j + 1) k (by omega) (by omega) s1 ⟨p1.inv,fun q hq => ?_,fun h => ?_,fun z h1 h2 h3 h4 h5 => ?_⟩
    ·rw [p1.pre q (by omega)]
     show (s.now.set i ((j : Int) - 1)).getD q 0 = _
     rw [hset,if_neg (by omega),hs.pre q hq]
    ·obtain ⟨a1,a2⟩:=hs.up h
     obtain ⟨b1,b2⟩:=up1 a1
     exact ⟨b1,by omega⟩
    ·by_cases hz : z.getD i 0 = (j : Int) - 1
     ·refine p1.cov z h1 (fun q hq => ?_) h3 h4
      show _ = (s.now.set i ((j : Int) - 1)).getD q 0
      rw [hset]
      by_cases h : q = i
      ·rw [if_pos h,h,hz]
      ·rw [if_neg h,h2 q (by omega),hs.pre q (by omega)]
     ·exact (hs.cov z h1 h2 h3 h4 (by omega)).up up1
   have hix : ix s.now (i : Int) = some (s.now.getD i 0):=ix_z (by omega)
   have hstx : stx s.now (i : Int) ((j : Int) - 1) = some (s.now.set i ((j : Int) - 1)):=by
    unfold stx
    rw [if_pos ⟨by omega,by omega⟩]; rfl
   have hgd : [s.good.getD 0 0,s.good.getD 1 0,s.good.getD 2 0,s.good.getD 3 0] = s.good:=hi.g4.symm
   by_cases h0 : 0 ≤ (j : Int) - 1
   ·have hh:=fit_has hf h0
    have hb2:=hh
    simp only [hasB,decide_eq_true_eq] at hb2
    have e0 : decide ((j : Int) - 1 ≥ 0) = true:=by simpa using h0
    have ec:=cst_has hh
    have lo:=@cst_lo (ch l i) ((j : Int) - 1)
    have hi2:=cst_hi (hl i) (p:=(j : Int) - 1)
    have hlb : left ≤ B:=by
     have:=(cf_bd hl s0.now i).1
     have:=hp.sum
     omega
    have hnn:=hp.nn
    rw [e0,ix_get (d:=0) h0 hb2.2.1,← ec]
    simp only [Bool.not_true,cond_false,cond_true,Option.bind_some]
    by_cases hc : cst (ch l i) ((j : Int) - 1) > left
    ·rw [decide_eq_true hc,cond_true,ew]
     exact skip fun z h1 h2 _ h4 h5 => by
      have:=csum z h1 h2 h5 h4
      omega
    ·rw [decide_eq_false hc,cond_false,hix,hstx,ewi,ew,wrap_i64 (n:=left - cst (ch l i) ((j : Int) - 1)) (by omega) (by omega),hgd]
     simp only [Option.bind_some]
     exact go (by omega)
   ·have hj1 : (j : Int) - 1 = -1:=by omega
    have e0 : decide ((j : Int) - 1 ≥ 0) = false:=by simpa using h0
    have hz : cst (ch l i) ((j : Int) - 1) = 0:=by rw [hj1]; exact cst_no has_neg
    rw [e0,hix,hstx,ewi,ew,hgd]
    simp only [Bool.not_true,cond_false,Option.bind_some]
    have:=go (by rw [hz]; exact hp.nn)
    rw [hz,Int.sub_zero] at this
    exact this
theorem try_ok {l : List TaiChoice} {B : Int} (hl : OkL l) (h1 : 0 < l.length) (h8 : l.length ≤ 8) (hB : B ≤ 1048576) : ∀ m i k : Nat,i + m = l.length→10 + m < k→∀ left s,Pre l B i left s→∃ s',p_knap_search_try k s (i : Int) left = some s'∧Post l B i s s':=by
 intro m
 induction m with
 | zero =>
  intro i k hi hk left s hp
  obtain ⟨k,rfl⟩ : ∃ j,k = j + 1:=⟨k - 1,by omega⟩
  have : i = l.length:=by omega
  subst this
  exact try_leaf hl h1 h8 (by omega) hp
 | succ m ih =>
  intro i k hi hk left s hp
  obtain ⟨k,rfl⟩ : ∃ j,k = j + 1:=⟨k - 1,by omega⟩
  rw [p_knap_search_try,hp.inv.sl]
  have e : ((i : Int) == ((l.length : Nat) : Int)) = false:=beq_eq_false_iff_ne.2 (by omega)
  rw [e,cond_false]
  have hs:=eta hp.inv
  rw [hp.inv.sl] at hs
  rw [hs]
  obtain ⟨s',r,p⟩:=try_loop hl h8 hB (by omega) hp (rec:=p_knap_search_try k) (fun left' s h => ih (i + 1) k (by omega) (by omega) left' s h) (fun zp0 => some (⟨zp0.l,zp0.now,zp0.best,[zp0.good.getD 0 0,zp0.good.getD 1 0,zp0.good.getD 2 0,zp0.good.getD 3 0],zp0.cost⟩ : T_knap_search)) 5 0 k (by omega) (by omega) s
   ⟨hp.inv,fun _ _ => rfl,fun h => ⟨h,Int.le_refl _⟩,fun z h1 h2 h3 h4 h5 => by
    have:=fit_range (hl i) (h3 i (by omega))
    omega⟩
  refine ⟨s',r.trans (by rw [eta p.inv]),p.inv,p.pre,p.up,fun z h1 h2 h3 h4 => p.cov z h1 h2 h3 h4 ?_⟩
  have:=fit_range (hl i) (h3 i (by omega))
  omega
end Knap
end Go.Ev
namespace Go.Ev
open Go.Proofs
set_option linter.unusedVariables false
set_option linter.unusedSimpArgs false
set_option maxRecDepth 100000
noncomputable section
abbrev KT7:=Exit→Env→H→Option (List C × H)
variable (rec : CallF) (loop : LoopV) (σ : Stamp)
def zl18_row_c0 : Code:=(codeAt (bodyOf Try.f28) [1,1,1,0,1,0,0])
def zl18_row_l0 : Lv:=⟨32,16,[(0,32)]⟩
def zl18_row_k0 : KT7:=(kBlock 0 (kSeq G rec loop (codeAt (bodyOf Try.f28) [1,1,1,1]) ⟨16,16,[]⟩ (1::1::1::0::σ) (finC G true Try.f28 (1::σ))))
def zl18_row_c1 : Code:=(codeAt (bodyOf Try.f28) [1,1,1,0,1,0,0,1,0,0,1,0,1,0,0])
def zl18_row_l1 : Lv:=⟨482,16,[(2,482),(1,226),(0,32)]⟩
def zl18_row_k1 : Exit→Env→H→Option (Exit × Env × H):=(kBlock 2 (kSeq G rec loop (codeAt (bodyOf Try.f28) [1,1,1,0,1,0,0,1,0,0,1,1]) ⟨226,16,[(1,226),(0,32)]⟩ (1::0::1::0::σ) (kBlock 1 (kSeq G rec loop (codeAt (bodyOf Try.f28) [1,1,1,0,1,0,0,1,1]) ⟨226,16,[(0,32)]⟩ (1::0::σ) (kRound loop (codeAt (bodyOf Try.f28) [1,1,1,0,1,0,0]) ⟨32,16,[(0,32)]⟩ σ)))))
theorem zl18_row_entry (x0 : V) (x1 : Int) (h : H) : cvBody G rec loop 28 σ [x0,(.p (.int .i64 x1))] h =
(buildV Try.prog 76 [(0,x0)]).bind fun t1 =>
(boxO false (2::0::1::1::0::σ) 13 (List.replicate 51 []::h) t1).bind fun q2 =>
(loop zl18_row_c0 zl18_row_l0 (1::0::1::1::1::0::σ) (envL [(1,(.p (.int .i64 x1))),(5,(.p (.slice .none 0 0))),(6,q2.1),(7,(.p (.int .i64 0)))]) q2.2).bind fun r3 => zl18_row_k0 rec loop σ r3.1 r3.2.1 r3.2.2:=by kernel_rfl
theorem zl18_row_r0 (x1 : Int) (x5 : V) (x6 : V) (x7 : Int) (h : H) : cvRound G rec loop zl18_row_c0 zl18_row_l0 σ (envL [(1,(.p (.int .i64 x1))),(5,x5),(6,x6),(7,(.p (.int .i64 x7)))]) h =
bif decide (x7 < x1) then (
(callO rec 48 (1::0::0::1::0::σ) [x6] h (some 20)).bind fun q4 =>
(castI .i64 q4.1).bind fun n5 =>
(buildV Try.prog 60 [(0,(.p (.int .i64 (intBits .and .i64 n5 3))))]).bind fun t6 =>
(some (alO [.p (.int .i64 0),.p (.slice none 0 0),.p (.slice none 0 0)] (4::0::0::1::0::σ) 8 q4.2)).bind fun q7 =>
((stO false 3 (5::0::0::1::0::σ) q7.2 q7.1 t6).map fun h => (udf,h)).bind fun q8 =>
(callO rec 48 (1::0::0::1::0::1::0::σ) [x6] q8.2 (some 24)).bind fun q9 =>
(castI .i64 q9.1).bind fun n10 =>
(loop zl18_row_c1 zl18_row_l1 (1::0::1::0::1::0::σ) (envL [(1,(.p (.int .i64 x1))),(5,x5),(6,x6),(7,(.p (.int .i64 x7))),(8,q7.1),(9,(.p (.int .i64 (intBits .and .i64 n10 3))))]) q9.2).bind fun r11 => zl18_row_k1 rec loop σ r11.1 r11.2.1 r11.2.2)
else (
some ((.exit 0),(envL [(5,x5)]),h)):=by kernel_rfl
theorem zl18_row_a0_0 (x5 : V) (h : H) : zl18_row_k0 rec loop σ (.exit 0) (envL [(5,x5)]) h =
fin true σ h [x5]:=by kernel_rfl
theorem zl18_row_r1 (x1 : Int) (x5 : V) (x6 : V) (x7 : Int) (x8 : V) (x9 : Int) (h : H) : cvRound G rec loop zl18_row_c1 zl18_row_l1 σ (envL [(1,(.p (.int .i64 x1))),(5,x5),(6,x6),(7,(.p (.int .i64 x7))),(8,x8),(9,(.p (.int .i64 x9)))]) h =
bif decide (x9 > 0) then (
(callO rec 48 (1::0::0::1::0::σ) [x6] h (some 31)).bind fun q12 =>
(castI .i64 q12.1).bind fun n13 =>
(fA x8 1).bind fun t14 =>
(ldO false 1 q12.2 t14).bind fun t15 =>
(bSV Try.prog 24 1 [(0,(.p (.int .i64 (IntKind.wrap .i64 (n13 - 1)))))]).bind fun t16 =>
(fA x8 2).bind fun t17 =>
(ldO false 1 q12.2 t17).bind fun t18 =>
(apO true 1 8 (4::1::0::1::0::σ) 37 q12.2 t15 t16).bind fun q19 =>
need (ldO false 1 q19.2 t17 = some t18) (
(fA x8 1).bind fun t20 =>
(callO rec 48 (8::1::0::1::0::σ) [x6] q19.2 (some 41)).bind fun q21 =>
(castI .i64 q21.1).bind fun n22 =>
need (ldO false 1 q21.2 t17 = some t18) (
(bSV Try.prog 24 1 [(0,(.p (.int .i64 n22)))]).bind fun t23 =>
(apO true 1 8 (10::1::0::1::0::σ) 43 q21.2 t18 t23).bind fun q24 =>
((stO true 1 (12::1::0::1::0::σ) q24.2 t20 q19.1).map fun h => (udf,h)).bind fun q25 =>
(fA x8 2).bind fun t26 =>
((stO true 1 (14::1::0::1::0::σ) q25.2 t26 q24.1).map fun h => (udf,h)).bind fun q27 =>
loop zl18_row_c1 zl18_row_l1 (1::σ) (envL [(1,(.p (.int .i64 x1))),(5,x5),(6,x6),(7,(.p (.int .i64 x7))),(8,x8),(9,(.p (.int .i64 (IntKind.wrap .i64 (x9 - 1)))))]) q27.2)))
else (
some ((.exit 2),(envL [(1,(.p (.int .i64 x1))),(5,x5),(6,x6),(7,(.p (.int .i64 x7))),(8,x8)]),h)):=by kernel_rfl
theorem zl18_row_a1_2 (x1 : Int) (x5 : V) (x6 : V) (x7 : Int) (x8 : V) (h : H) : zl18_row_k1 rec loop σ (.exit 2) (envL [(1,(.p (.int .i64 x1))),(5,x5),(6,x6),(7,(.p (.int .i64 x7))),(8,x8)]) h =
(ldO true 3 h x8).bind fun t28 =>
(bSV Try.prog 49 1 [(0,t28)]).bind fun t29 =>
(apO false 3 56 (3::1::1::0::1::0::σ) 49 h x5 t29).bind fun q30 =>
loop zl18_row_c0 zl18_row_l0 (1::σ) (envL [(1,(.p (.int .i64 x1))),(5,q30.1),(6,x6),(7,(.p (.int .i64 (IntKind.wrap .i64 (x7 + 1)))))]) q30.2:=by kernel_rfl
theorem zl18_numbers_next_entry (x0 : V) (h : H) : cvBody G rec loop 48 σ [x0] h =
(nilChk x0).bind fun t1 =>
(fA t1 1).bind fun t2 =>
(ldO false 1 (List.replicate 32 []::h) t2).bind fun t3 =>
(castI .i64 t3).bind fun n4 =>
(nilChk x0).bind fun t5 =>
(fA t5 1).bind fun t6 =>
((stO true 1 (7::0::1::0::σ) (List.replicate 32 []::h) t6 (.p (.int .i64 (IntKind.wrap .i64 (n4 + 1))))).map fun h => (udf,h)).bind fun q7 =>
(nilChk x0).bind fun t8 =>
(fA t8 1).bind fun t9 =>
(ldO false 1 q7.2 t9).bind fun t10 =>
(castI .i64 t10).bind fun n11 =>
(nilChk x0).bind fun t12 =>
(fA t12 0).bind fun t13 =>
(ldO false 1 q7.2 t13).bind fun t14 =>
(lenO t14).bind fun t15 =>
(castI .i64 t15).bind fun n16 =>
bif decide (n11 > n16) then (
fin false σ q7.2 [(.p (.int .i64 0))])
else (
(nilChk x0).bind fun t17 =>
(fA t17 0).bind fun t18 =>
(ldO false 1 q7.2 t18).bind fun t19 =>
(nilChk x0).bind fun t20 =>
(fA t20 1).bind fun t21 =>
(ldO false 1 q7.2 t21).bind fun t22 =>
(castI .i64 t22).bind fun n23 =>
(iS 1 t19 (IntKind.wrap .i64 (n23 - 1))).bind fun t24 =>
(ldO false 1 q7.2 t24).bind fun t25 =>
(castI .i64 t25).bind fun n26 =>
fin false σ q7.2 [(.p (.int .i64 (intBits .and .i64 n26 15)))]):=by kernel_rfl
end
end Go.Ev
namespace Go.Ev
open Go.Proofs
set_option linter.unusedVariables false
set_option linter.unusedSimpArgs false
set_option maxRecDepth 100000
section
variable {β α : Type} {Q : β→α→Prop} {K : Exit × Env × H→Option α}
def p_zl18_numbers_next (x0 : Tz18numbers) : Option (Int × Tz18numbers) :=
bif decide ((IntKind.wrap .i64 (x0.f_at + 1)) > ((x0.l.length : Int))) then (
some (0,(⟨x0.l,(IntKind.wrap .i64 (x0.f_at + 1))⟩ : Tz18numbers)))
else (
(ix x0.l (IntKind.wrap .i64 ((IntKind.wrap .i64 (x0.f_at + 1)) - 1))).bind fun a5 =>
some ((intBits .and .i64 a5 15),(⟨x0.l,(IntKind.wrap .i64 (x0.f_at + 1))⟩ : Tz18numbers)))
theorem zl18_numbers_next_ok {h : H} {σ : Stamp} (x0 : Tz18numbers) {u0_0 : V} (hu0_0 : SlF (dI .i64) x0.l u0_0) {l0 : Loc} {o0 : Nat} (ha0 : AtC h l0 o0 (List.map C.v [u0_0,(.p (.int .i64 x0.f_at))])) : Sim (p_zl18_numbers_next x0) (ev G X0 48 σ [(.ref l0 o0)] h) (fun r s => ∃ (vb0_0 : V),SlF (dI .i64) r.2.l vb0_0∧s = ([.v (.p (.int .i64 r.1))],pts h [⟨l0,o0,[.v vb0_0,.v (.p (.int .i64 r.2.f_at))]⟩])):=by
 refine .ev rfl (Sim.ext (zl18_numbers_next_entry _ _ _ _ _) ?_)
 rw [p_zl18_numbers_next]
 have S0 : Fm 32 h [⟨l0,o0,List.map C.v [u0_0,(.p (.int .i64 x0.f_at))]⟩] [] [] (List.replicate 32 []::h):=Fm.start1 ha0
 refine .nc ?_
 refine .fa ?_
 refine .op ((S0.atB (i:=0) rfl).ld (j:=1) rfl) ?_
 refine .ci ?_
 refine .nc ?_
 refine .fa ?_
 obtain ⟨H1,e2,S3⟩:=S0.stB (i:=0) (j:=1) (own:=true) (σ:=(7::0::1::0::σ)) (x:=(.p (.int .i64 (IntKind.wrap .i64 (x0.f_at + 1))))) rfl (sI _ _) rfl
 refine .op (sM e2) ?_
 refine .nc ?_
 refine .fa ?_
 refine .op ((S3.atB (i:=0) rfl).ld (j:=1) rfl) ?_
 refine .ci ?_
 refine .nc ?_
 refine .fa ?_
 refine .op ((S3.atB (i:=0) rfl).ld (j:=0) rfl) ?_
 refine .op ((hu0_0.h H1).len) ?_
 refine .ci ?_
 refine .cq ?_ ?_
 ·exact .fin (S3.finN (lC (sI _ _).lv lN)) ⟨u0_0,hu0_0,rfl⟩
 refine .nc ?_
 refine .fa ?_
 refine .op ((S3.atB (i:=0) rfl).ld (j:=0) rfl) ?_
 refine .nc ?_
 refine .fa ?_
 refine .op ((S3.atB (i:=0) rfl).ld (j:=1) rfl) ?_
 refine .ci ?_
 refine .bd fun a5 h6 => ?_
 refine .op ((hu0_0.h H1).iS h6 rfl) ?_
 obtain ⟨_,rfl,hE7⟩:=(hu0_0.h H1).el h6 rfl
 refine .op (hE7.ld (j:=0) rfl) ?_
 refine .ci ?_
 exact .fin (S3.finN (lC (sI _ _).lv lN)) ⟨u0_0,hu0_0,rfl⟩
def p_zl18_row_l1 {β : Type} (k : Nat) (kE0 : Int→(List TaiChoice)→Int→Tz18numbers→TaiChoice→Option β) (x1 : Int) (x5 : (List TaiChoice)) (x7 : Int) (x9 : Int) (yg14 : Tz18numbers) (yg29 : TaiChoice) : Option β:=match k with
| 0 => none
| k + 1 =>
bif decide (x9 > 0) then (
(p_zl18_numbers_next yg14).bind fun r60 =>
(ap 8 yg29.Costs ([(IntKind.wrap .i64 (r60.1 - 1))])).bind fun a69 =>
(p_zl18_numbers_next r60.2).bind fun r77 =>
(ap 8 yg29.Goods ([r77.1])).bind fun a86 =>
p_zl18_row_l1 k kE0 x1 x5 x7 (IntKind.wrap .i64 (x9 - 1)) r77.2 ((⟨yg29.Class,a69,a86⟩ : TaiChoice)))
else (
kE0 x1 x5 x7 yg14 yg29)
def p_zl18_row_l0 {β : Type} (k : Nat) (kE0 : (List TaiChoice)→Option β) (x1 : Int) (x5 : (List TaiChoice)) (x7 : Int) (yg4 : Tz18numbers) : Option β:=match k with
| 0 => none
| k + 1 =>
bif decide (x7 < x1) then (
(p_zl18_numbers_next yg4).bind fun r18 =>
(p_zl18_numbers_next r18.2).bind fun r33 =>
p_zl18_row_l1 k (fun r124_1 r124_5 r124_7 yg48 yg56 =>
(ap 56 r124_5 [yg56]).bind fun a156 =>
p_zl18_row_l0 k kE0 r124_1 a156 (IntKind.wrap .i64 (r124_7 + 1)) yg48) x1 x5 x7 (intBits .and .i64 r33.1 3) r33.2 ((⟨(intBits .and .i64 r18.1 3),(([] : List Int)),(([] : List Int))⟩ : TaiChoice)))
else (
kE0 x5)
def p_zl18_row (k : Nat) (x0 : (List Int)) (x1 : Int) : Option ((List TaiChoice)) :=
p_zl18_row_l0 k (fun r168_5 =>
some (r168_5)) x1 (([] : List TaiChoice)) 0 ((⟨x0,0⟩ : Tz18numbers))
theorem zl18_row_l1_ok {h : H}  {kE0 : Int→(List TaiChoice)→Int→Tz18numbers→TaiChoice→Option β} (hE0 : ∀ (q1 : Int) (q5 : (List TaiChoice)) (q7 : Int) (yg48 : Tz18numbers) (yg56 : TaiChoice) (v108 : V) (w110 : List V) (h111 : dTz18numbers.R yg48 w110) (s112 : Stamp) (c114 : C) (h115 : SoC (dI .i64) yg56.Costs c114) (h116 : Nn c114 1) (c117 : C) (h118 : SoC (dI .i64) yg56.Goods c117) (h119 : Nn c117 1) (s120 : Stamp) (H106 : Go.Ev.H) (_ : Fm 51 h [] [(13,s112,List.map C.v w110),(8,s120,[.v (.p (.int .i64 yg56.Class)),c114,c117])] [⟨[49],v108,dTaiChoice,q5⟩] H106),Sim (kE0 q1 q5 q7 yg48 yg56) (K ((.exit 2),(envL [(1,(.p (.int .i64 q1))),(5,v108),(6,(.ref ⟨h.length,13,0,s112,[]⟩ 0)),(7,(.p (.int .i64 q7))),(8,(.ref ⟨h.length,8,0,s120,[]⟩ 0))]),H106)) Q) (k : Nat) : ∀ (x1 : Int) (x5 : (List TaiChoice)) (x7 : Int) (x9 : Int) (yg14 : Tz18numbers) (yg29 : TaiChoice) (v43 : V) (w45 : List V) (h46 : dTz18numbers.R yg14 w45) (s47 : Stamp) (c49 : C) (h50 : SoC (dI .i64) yg29.Costs c49) (h51 : Nn c49 1) (c52 : C) (h53 : SoC (dI .i64) yg29.Goods c52) (h54 : Nn c52 1) (s55 : Stamp) (H41 : Go.Ev.H) (_ : Fm 51 h [] [(13,s47,List.map C.v w45),(8,s55,[.v (.p (.int .i64 yg29.Class)),c49,c52])] [⟨[49],v43,dTaiChoice,x5⟩] H41) {σ : Stamp},Sim (p_zl18_row_l1 k kE0 x1 x5 x7 x9 yg14 yg29) ((cvL G X0 zl18_row_c1 zl18_row_l1 σ (envL [(1,(.p (.int .i64 x1))),(5,v43),(6,(.ref ⟨h.length,13,0,s47,[]⟩ 0)),(7,(.p (.int .i64 x7))),(8,(.ref ⟨h.length,8,0,s55,[]⟩ 0)),(9,(.p (.int .i64 x9)))]) H41).bind K) Q:=by
 induction k with
 | zero => intros; exact .no
 | succ k ih =>
  intro x1 x5 x7 x9 yg14 yg29 v43 w45 h46 s47 c49 h50 h51 c52 h53 h54 s55 H41 S42 σ
  rw [p_zl18_row_l1]
  refine .round (Sim.ext (zl18_row_r1 _ _ _ _ _ _ _ _ _ _) ?_)
  obtain ⟨v57,rfl,h58⟩:=dTz18numbers.inv h46
  refine .cq ?_ ?_
  ·refine .call (zl18_numbers_next_ok yg14 h58 (S42.atG (i:=0) rfl)) fun r60 cs61 H62 h63 q64 => ?_
   obtain ⟨v65,h66,q64⟩:=q64
   cases q64
   have S67:=S42.setG (i:=0) (cs':=List.map C.v [v65,(.p (.int .i64 r60.2.f_at))]) rfl rfl rfl
   refine .ci ?_
   refine .fa ?_
   refine .op (h50.ld (S67.atG (i:=1) rfl) (j:=1) rfl) ?_
   have h68:=SlF.int1 .i64 (IntKind.wrap .i64 (r60.1 - 1))
   refine .op (bldS (pC rfl pN) (by kernel_rfl : _ = some (vOf h68))) ?_
   refine .fa ?_
   refine .op (h53.ld (S67.atG (i:=1) rfl) (j:=2) rfl) ?_
   refine .bd fun a69 h70 => ?_
   obtain ⟨v71,c72,H73,e74,S75⟩:=S67.appG (i:=1) (j:=1) (d:=37) (e:=1) (own:=true) (σ:=(4::1::0::1::0::σ)) rfl rfl h50 h51 (h68.h (ptC H41 ⟨h.length,13,0,s47,[]⟩ 0 (List.map C.v [v65,(.p (.int .i64 r60.2.f_at))]))).y h70 (by simp) rfl (by decide) (by decide) rfl rfl
   refine .op (e74) ?_
   refine .nd (h53.ld (S75.atG (i:=1) rfl) (j:=2) rfl) ?_
   refine .fa ?_
   refine .call (zl18_numbers_next_ok r60.2 h66 (S75.atG (i:=0) rfl)) fun r77 cs78 H79 h80 q81 => ?_
   obtain ⟨v82,h83,q81⟩:=q81
   cases q81
   have S84:=S75.setG (i:=0) (cs':=List.map C.v [v82,(.p (.int .i64 r77.2.f_at))]) rfl rfl rfl
   refine .ci ?_
   refine .nd (h53.ld (S84.atG (i:=1) rfl) (j:=2) rfl) ?_
   have h85:=SlF.int1 .i64 r77.1
   refine .op (bldS (pC rfl pN) (by kernel_rfl : _ = some (vOf h85))) ?_
   refine .bd fun a86 h87 => ?_
   obtain ⟨v88,c89,H90,e91,S92⟩:=S84.appG (i:=1) (j:=2) (d:=43) (e:=1) (own:=true) (σ:=(10::1::0::1::0::σ)) rfl rfl h53 h54 (h85.h (ptC H73 ⟨h.length,13,0,s47,[]⟩ 0 (List.map C.v [v82,(.p (.int .i64 r77.2.f_at))]))).y h87 (by simp) rfl (by decide) (by decide) rfl rfl
   refine .op (e91) ?_
   obtain ⟨c97,H94,e95,h98,h99,S96⟩:=S92.mvG (i:=1) (j:=1) (k:=1) (σ:=(12::1::0::1::0::σ)) rfl rfl rfl rfl rfl rfl
   refine .op (sM e95) ?_
   refine .fa ?_
   obtain ⟨c103,H100,e101,h104,h105,S102⟩:=S96.mvG (i:=1) (j:=2) (k:=0) (σ:=(14::1::0::1::0::σ)) rfl rfl rfl rfl rfl rfl
   refine .op (sM e101) ?_
   exact ih x1 x5 x7 (IntKind.wrap .i64 (x9 - 1)) r77.2 ((⟨yg29.Class,a69,a86⟩ : TaiChoice)) v43 _ (dTz18numbers.mk h83) s47 c97 h98 h99 c103 h104 h105 s55 H100 (S102.wk2 (aC (aM 0 rfl) (aC (aM 1 rfl) aN)) (aC ⟨[49],by simp,aM 0 rfl⟩ aN))
  exact hE0 x1 x5 x7 yg14 yg29 v43 _ h46 s47 c49 h50 h51 c52 h53 h54 s55 H41 (S42.wk2 (aC (aM 0 rfl) (aC (aM 1 rfl) aN)) (aC ⟨[49],by simp,aM 0 rfl⟩ aN))
theorem zl18_row_l0_ok {h : H}  {kE0 : (List TaiChoice)→Option β} (hE0 : ∀ (q5 : (List TaiChoice)) (v164 : V) (H162 : Go.Ev.H) (_ : Fm 51 h [] [] [⟨[49],v164,dTaiChoice,q5⟩] H162),Sim (kE0 q5) (K ((.exit 0),(envL [(5,v164)]),H162)) Q) (k : Nat) : ∀ (x1 : Int) (x5 : (List TaiChoice)) (x7 : Int) (yg4 : Tz18numbers) (v9 : V) (w11 : List V) (h12 : dTz18numbers.R yg4 w11) (s13 : Stamp) (H7 : Go.Ev.H) (_ : Fm 51 h [] [(13,s13,List.map C.v w11)] [⟨[49],v9,dTaiChoice,x5⟩] H7) {σ : Stamp},Sim (p_zl18_row_l0 k kE0 x1 x5 x7 yg4) ((cvL G X0 zl18_row_c0 zl18_row_l0 σ (envL [(1,(.p (.int .i64 x1))),(5,v9),(6,(.ref ⟨h.length,13,0,s13,[]⟩ 0)),(7,(.p (.int .i64 x7)))]) H7).bind K) Q:=by
 induction k with
 | zero => intros; exact .no
 | succ k ih =>
  intro x1 x5 x7 yg4 v9 w11 h12 s13 H7 S8 σ
  rw [p_zl18_row_l0]
  refine .round (Sim.ext (zl18_row_r0 _ _ _ _ _ _ _ _) ?_)
  obtain ⟨v15,rfl,h16⟩:=dTz18numbers.inv h12
  refine .cq ?_ ?_
  ·refine .call (zl18_numbers_next_ok yg4 h16 (S8.atG (i:=0) rfl)) fun r18 cs19 H20 h21 q22 => ?_
   obtain ⟨v23,h24,q22⟩:=q22
   cases q22
   have S25:=S8.setG (i:=0) (cs':=List.map C.v [v23,(.p (.int .i64 r18.2.f_at))]) rfl rfl rfl
   refine .ci ?_
   refine .op (bldV (pC rfl pN) (by kernel_rfl : _ = some (.agg [.p (.int .i64 (intBits .and .i64 r18.1 3)),.p (.slice none 0 0),.p (.slice none 0 0)]))) ?_
   obtain ⟨H26,e27,S28⟩:=S25.al (d:=8) (s:=(4::0::0::1::0::σ)) (z:=[(.p (.int .i64 0)),(.p (.slice none 0 0)),(.p (.slice none 0 0))]) (by decide) rfl
   refine .op (congrArg some e27) ?_
   obtain ⟨H30,e31,S32⟩:=S28.stGv (i:=0) (j:=0) (own:=false) (σ:=(5::0::0::1::0::σ)) (xs:=[.p (.int .i64 (intBits .and .i64 r18.1 3)),.p (.slice none 0 0),.p (.slice none 0 0)]) rfl rfl (sC (sI _ _) (sC (SlF.nil (dI .i64)).still (sC (SlF.nil (dI .i64)).still sN))) rfl rfl
   refine .op (sM e31) ?_
   refine .call (zl18_numbers_next_ok r18.2 h24 (S32.atG (i:=1) rfl)) fun r33 cs34 H35 h36 q37 => ?_
   obtain ⟨v38,h39,q37⟩:=q37
   cases q37
   have S40:=S32.setG (i:=1) (cs':=List.map C.v [v38,(.p (.int .i64 r33.2.f_at))]) rfl rfl rfl
   refine .ci ?_
   refine .as (zl18_row_l1_ok ?_ k x1 x5 x7 (intBits .and .i64 r33.1 3) r33.2 ((⟨(intBits .and .i64 r18.1 3),(([] : List Int)),(([] : List Int))⟩ : TaiChoice)) v9 _ (dTz18numbers.mk h39) s13 (.v (.p (.slice none 0 0))) (SoC.frz (SlF.nil (dI .i64))) (fun v h => by cases h; simp) (.v (.p (.slice none 0 0))) (SoC.frz (SlF.nil (dI .i64))) (fun v h => by cases h; simp) (4::0::0::1::0::σ) (ptC H30 ⟨h.length,13,0,s13,[]⟩ 0 (List.map C.v [v38,(.p (.int .i64 r33.2.f_at))])) (S40.wk2 (aC (aM 1 rfl) (aC (aM 0 rfl) aN)) (aC ⟨[49],by simp,aM 0 rfl⟩ aN)))
   ·intro r124_1 r124_5 r124_7 yg48 yg56 v127 w129 h130 s131 c133 h134 h135 c136 h137 h138 s139 H125 S126
    refine .ext (zl18_row_a1_2 _ _ _ _ _ _ _ _ _) ?_
    obtain ⟨v141,rfl,h142⟩:=dTz18numbers.inv h130
    obtain ⟨v143,h144,h145⟩:=h134.fr
    obtain ⟨v146,h147,h148⟩:=h137.fr
    obtain ⟨w149,H150,h155,e151,e152,e153,S154⟩:=S126.frzV (i:=1) (n:=3) (ys:=[(.p (.int .i64 yg56.Class)),v143,v146]) rfl rfl ⟨(FrC.v (sI _ _)),⟨h144,⟨h147,trivial⟩⟩⟩ rfl (by decide)
    refine .op (e151) ?_
    refine .op (bldS1 (e:=3) (te:=60) (z:=[.p (.int .i64 0),.p (.slice none 0 0),.p (.slice none 0 0)]) (by kernel_rfl) (by kernel_rfl) ⟨⟨rfl,by kernel_rfl,by decide,by decide⟩,trivial⟩ (h155.trans rfl)) ?_
    refine .bd fun a156 h157 => ?_
    obtain ⟨v158,H159,e160,S161⟩:=S154.appFrz (i:=0) (d:=49) (e:=3) (σ:=(3::1::1::0::1::0::σ)) (t:=true) e153 rfl (show dTaiChoice.R yg56 [.p (.int .i64 yg56.Class),v143,v146] from (dTaiChoice.mk h145 h148)) h155 h157 rfl (by decide) (by decide) rfl
    refine .op (e160) ?_
    exact ih r124_1 a156 (IntKind.wrap .i64 (r124_7 + 1)) yg48 v158 _ h130 s131 H159 (S161.wk2 (aC (aM 0 rfl) aN) (aC ⟨[49,49],by simp,aM 0 rfl⟩ aN))
  exact hE0 x5 v9 H7 (S8.wk2 aN (aC ⟨[49],by simp,aM 0 rfl⟩ aN))
theorem zl18_row_ok (k : Nat) {h : H} {σ : Stamp} (x0 : List Int) {u0 : V} (hu0 : SlF (dI .i64) x0 u0) (x1 : Int) : Sim (p_zl18_row k x0 x1) (ev G X0 28 σ [u0,(.p (.int .i64 x1))] h) (fun r s => ∃ (v0 : V),SlF dTaiChoice r v0∧s = ([.v v0],h)):=by
 refine .ev rfl (Sim.ext (zl18_row_entry _ _ _ _ _ _) ?_)
 rw [p_zl18_row]
 have S0 : Fm 51 h [] [] [] (List.replicate 51 []::h):=Fm.start0
 refine .op (bldV (pC hu0.still.cells pN) (by kernel_rfl : _ = some (.agg [u0,.p (.int .i64 0)]))) ?_
 obtain ⟨H1,e2,S3⟩:=S0.box (own:=false) (d:=13) (s:=(2::0::1::1::0::σ)) (xs:=[u0,.p (.int .i64 0)]) (sC hu0.still (sC (sI _ _) sN)) (by decide) rfl
 refine .op (e2) ?_
 have S167:=S3.nil dTaiChoice []
 refine .as (zl18_row_l0_ok ?_ k x1 (([] : List TaiChoice)) 0 ((⟨x0,0⟩ : Tz18numbers)) (.p (.slice none 0 0)) _ (dTz18numbers.mk hu0) (2::0::1::1::0::σ) H1 (S167.wk2 (aC (aM 0 rfl) aN) (aC ⟨[],by simp,aM 0 rfl⟩ aN)))
 ·intro r168_5 v171 H169 S170
  refine .ext (zl18_row_a0_0 _ _ _ _ _) ?_
  obtain ⟨v178,H173,e174,h176,S175⟩:=S170.expFrz (i:=0) (τ:=0::1::σ) rfl rfl
  exact .fin (S175.finE (Ex.st e174 Ex.nil)) ⟨v178,h176,rfl⟩
end
end Go.Ev
namespace Go.Ev
open Go.Proofs
set_option linter.unusedVariables false
set_option linter.unusedSimpArgs false
set_option maxRecDepth 100000
noncomputable section
abbrev KT8:=Exit→Env→H→Option (List C × H)
variable (rec : CallF) (loop : LoopV) (σ : Stamp)
theorem zl18_known_entry  (h : H) : cvBody G rec loop 31 σ [] h =
(bSV Try.prog 24 2 [(0,(.p (.int .i64 1))),(1,(.p (.int .i64 5)))]).bind fun t1 =>
(bSV Try.prog 24 2 [(0,(.p (.int .i64 100))),(1,(.p (.int .i64 300)))]).bind fun t2 =>
(buildV Try.prog 60 [(0,(.p (.int .i64 0))),(1,t1),(2,t2)]).bind fun t3 =>
(bSV Try.prog 24 2 [(0,(.p (.int .i64 2))),(1,(.p (.int .i64 4)))]).bind fun t4 =>
(bSV Try.prog 24 2 [(0,(.p (.int .i64 100))),(1,(.p (.int .i64 900)))]).bind fun t5 =>
(buildV Try.prog 60 [(0,(.p (.int .i64 1))),(1,t4),(2,t5)]).bind fun t6 =>
(bSV Try.prog 49 2 [(0,t3),(1,t6)]).bind fun t7 =>
(callO rec 29 (1::0::1::1::0::σ) [t7,(.p (.int .i64 7))] (List.replicate 73 []::h) (some 12)).bind fun q8 =>
(callO rec 29 (1::0::1::1::1::0::σ) [t7,(.p (.int .i64 4))] q8.2 (some 14)).bind fun q9 =>
(bSV Try.prog 24 2 [(0,(.p (.int .i64 1))),(1,(.p (.int .i64 0)))]).bind fun t10 =>
(callO rec 51 (2::0::1::1::1::1::0::σ) [q8.1,t10] q9.2 (some 17)).bind fun q11 =>
(asB q11.1).bind fun b12 =>
(bif b12 then ((bSV Try.prog 24 2 [(0,(.p (.int .i64 0))),(1,(.p (.int .i64 0)))]).bind fun t13 =>
(callO rec 51 (6::0::1::1::1::1::0::σ) [q9.1,t13] q11.2 (some 21)).bind fun q14 =>
(asB q14.1).bind fun b15 =>
some ((.p (.bool b15)),q14.2)) else (some ((.p (.bool false)),q11.2))).bind fun q16 =>
(asB q16.1).bind fun b17 =>
(bif b17 then ((callO rec 29 (9::0::1::1::1::1::0::σ) [(.p (.slice .none 0 0)),(.p (.int .i64 5))] q16.2 (some 24)).bind fun q18 =>
(lenO q18.1).bind fun t19 =>
(castI .i64 t19).bind fun n20 =>
some ((.p (.bool (n20 == 0))),q18.2)) else (some ((.p (.bool false)),q16.2))).bind fun q21 =>
(asB q21.1).bind fun b22 =>
(bif b22 then ((callO rec 34 (16::0::1::1::1::1::0::σ) [t7,q8.1] q21.2 (some 31)).bind fun q23 =>
(castI .i64 q23.1).bind fun n24 =>
some ((.p (.bool (n24 == 7))),q23.2)) else (some ((.p (.bool false)),q21.2))).bind fun q25 =>
(asB q25.1).bind fun b26 =>
(bif b26 then ((callO rec 32 (22::0::1::1::1::1::0::σ) [t7,q8.1] q25.2 (some 37)).bind fun q27 =>
(buildV Try.prog 53 [(0,(.p (.int .i64 300))),(1,(.p (.int .i64 100)))]).bind fun t28 =>
(binV Try.prog q27.2 .eql 53 q27.1 t28).bind fun t29 =>
(asB t29).bind fun b30 =>
some ((.p (.bool b30)),q27.2)) else (some ((.p (.bool false)),q25.2))).bind fun q31 =>
(asB q31.1).bind fun b32 =>
(bif b32 then ((callO rec 30 (29::0::1::1::1::1::0::σ) [t7,q8.1,(.p (.int .i64 7))] q31.2 (some 44)).bind fun q33 =>
(asB q33.1).bind fun b34 =>
some ((.p (.bool b34)),q33.2)) else (some ((.p (.bool false)),q31.2))).bind fun q35 =>
(asB q35.1).bind fun b36 =>
(bif b36 then ((callO rec 30 (34::0::1::1::1::1::0::σ) [t7,q8.1,(.p (.int .i64 6))] q35.2 (some 49)).bind fun q37 =>
(asB q37.1).bind fun b38 =>
some ((.p (.bool (!b38))),q37.2)) else (some ((.p (.bool false)),q35.2))).bind fun q39 =>
(asB q39.1).bind fun b40 =>
(bif b40 then ((bSV Try.prog 24 1 [(0,(.p (.int .i64 0)))]).bind fun t41 =>
(callO rec 30 (40::0::1::1::1::1::0::σ) [t7,t41,(.p (.int .i64 9))] q39.2 (some 55)).bind fun q42 =>
(asB q42.1).bind fun b43 =>
some ((.p (.bool (!b43))),q42.2)) else (some ((.p (.bool false)),q39.2))).bind fun q44 =>
(asB q44.1).bind fun b45 =>
(bif b45 then ((callO rec 32 (46::0::1::1::1::1::0::σ) [t7,q8.1] q44.2 (some 61)).bind fun q46 =>
(callO rec 32 (49::0::1::1::1::1::0::σ) [t7,q8.1] q46.2 (some 64)).bind fun q47 =>
(callO rec 33 (50::0::1::1::1::1::0::σ) [q46.1,q47.1] q47.2 (some 65)).bind fun q48 =>
(asB q48.1).bind fun b49 =>
some ((.p (.bool (!b49))),q48.2)) else (some ((.p (.bool false)),q44.2))).bind fun q50 =>
(asB q50.1).bind fun b51 =>
(bif b51 then ((buildV Try.prog 53 [(0,(.p (.int .i64 1)))]).bind fun t52 =>
(buildV Try.prog 53 [(0,(.p (.int .i64 0))),(1,(.p (.int .i64 9)))]).bind fun t53 =>
(callO rec 33 (56::0::1::1::1::1::0::σ) [t52,t53] q50.2 (some 71)).bind fun q54 =>
(asB q54.1).bind fun b55 =>
some ((.p (.bool b55)),q54.2)) else (some ((.p (.bool false)),q50.2))).bind fun q56 =>
(asB q56.1).bind fun b57 =>
fin false σ q56.2 [(.p (.bool b57))]:=by kernel_rfl
theorem zl18_ints_entry (x0 : V) (x1 : V) (h : H) : cvBody G rec loop 51 σ [x0,x1] h =
(callO rec 44 (2::0::1::0::σ) [x0,x1] (List.replicate 8 []::h) (some 7)).bind fun q1 =>
(asB q1.1).bind fun b2 =>
fin false σ q1.2 [(.p (.bool b2))]:=by kernel_rfl
def zr18_Ints_c0 : Code:=(codeAt (bodyOf Try.f44) [1,1,0,1,0,0])
def zr18_Ints_l0 : Lv:=⟨0,16,[(0,0)]⟩
def zr18_Ints_k0 : KT8:=(kBlock 0 (kSeq G rec loop (codeAt (bodyOf Try.f44) [1,1,1]) ⟨16,16,[]⟩ (1::1::0::σ) (finC G false Try.f44 (1::σ))))
theorem zr18_Ints_entry (x0 : V) (x1 : V) (h : H) : cvBody G rec loop 44 σ [x0,x1] h =
(lenO x0).bind fun t1 =>
(castI .i64 t1).bind fun n2 =>
(lenO x1).bind fun t3 =>
(castI .i64 t3).bind fun n4 =>
bif n2 != n4 then (
fin false σ (List.replicate 26 []::h) [(.p (.bool false))])
else (
(lenO x0).bind fun t5 =>
(castI .i64 t5).bind fun n6 =>
(loop zr18_Ints_c0 zr18_Ints_l0 (1::0::1::1::0::σ) (envL [(0,x0),(1,x1),(12,(.p (.int .i64 n6))),(13,(.p (.int .i64 0)))]) (List.replicate 26 []::h)).bind fun r7 => zr18_Ints_k0 rec loop σ r7.1 r7.2.1 r7.2.2):=by kernel_rfl
theorem zr18_Ints_r0 (x0 : V) (x1 : V) (x12 : Int) (x13 : Int) (h : H) : cvRound G rec loop zr18_Ints_c0 zr18_Ints_l0 σ (envL [(0,x0),(1,x1),(12,(.p (.int .i64 x12))),(13,(.p (.int .i64 x13)))]) h =
bif decide (x13 < x12) then (
(iS 1 x0 x13).bind fun t8 =>
(ldO false 1 h t8).bind fun t9 =>
(castI .i64 t9).bind fun n10 =>
(iS 1 x1 x13).bind fun t11 =>
(ldO false 1 h t11).bind fun t12 =>
(castI .i64 t12).bind fun n13 =>
bif n10 != n13 then (
some (.ret,(envL [(4,(.p (.bool false)))]),h))
else (
loop zr18_Ints_c0 zr18_Ints_l0 (1::σ) (envL [(0,x0),(1,x1),(12,(.p (.int .i64 x12))),(13,(.p (.int .i64 (IntKind.wrap .i64 (x13 + 1)))))]) h))
else (
some ((.exit 0),(envL []),h)):=by kernel_rfl
theorem zr18_Ints_a0_0  (h : H) : zr18_Ints_k0 rec loop σ (.exit 0) (envL []) h =
fin false σ h [(.p (.bool true))]:=by kernel_rfl
theorem zr18_Ints_a0_ret (x4 : Bool) (h : H) : zr18_Ints_k0 rec loop σ .ret (envL [(4,(.p (.bool x4)))]) h =
fin false σ h [(.p (.bool x4))]:=by kernel_rfl
end
end Go.Ev
namespace Go.Ev
open Go.Proofs
set_option linter.unusedVariables false
set_option linter.unusedSimpArgs false
set_option maxRecDepth 100000
section
variable {β α : Type} {Q : β→α→Prop} {K : Exit × Env × H→Option α}
def p_zr18_Ints_l0 {β : Type} (k : Nat) (kE0 : Unit→Option β) (kE1 : Bool→Option β) (x0 : (List Int)) (x1 : (List Int)) (x12 : Int) (x13 : Int) : Option β:=match k with
| 0 => none
| k + 1 =>
bif decide (x13 < x12) then (
(ix x0 x13).bind fun a9 =>
(ix x1 x13).bind fun a12 =>
bif a9 != a12 then (
kE1 false)
else (
p_zr18_Ints_l0 k kE0 kE1 x0 x1 x12 (IntKind.wrap .i64 (x13 + 1))))
else (
kE0 ())
def p_zr18_Ints (k : Nat) (x0 : (List Int)) (x1 : (List Int)) : Option (Bool) :=
bif ((x0.length : Int)) != ((x1.length : Int)) then (
some (false))
else (
p_zr18_Ints_l0 k (fun (_ : Unit) =>
some (true)) (fun r23_4 =>
some (r23_4)) x0 x1 ((x0.length : Int)) 0)
theorem zr18_Ints_l0_ok {h : H}  {kE0 : Unit→Option β} {kE1 : Bool→Option β} (hE0 : ∀ (_u : Unit) (H16 : Go.Ev.H) (_ : Fm 26 h [] [] [] H16),Sim (kE0 ()) (K ((.exit 0),(envL []),H16)) Q) (hE1 : ∀ (q4 : Bool) (H18 : Go.Ev.H) (_ : Fm 26 h [] [] [] H18),Sim (kE1 q4) (K (.ret,(envL [(4,(.p (.bool q4)))]),H18)) Q) (k : Nat) : ∀ (x0 : (List Int)) (x1 : (List Int)) (x12 : Int) (x13 : Int) (v4 : V) (h5 : SlH h (dI .i64) x0 v4) (v6 : V) (h7 : SlH h (dI .i64) x1 v6) (H2 : Go.Ev.H) (_ : Fm 26 h [] [] [] H2) {σ : Stamp},Sim (p_zr18_Ints_l0 k kE0 kE1 x0 x1 x12 x13) ((cvL G X0 zr18_Ints_c0 zr18_Ints_l0 σ (envL [(0,v4),(1,v6),(12,(.p (.int .i64 x12))),(13,(.p (.int .i64 x13)))]) H2).bind K) Q:=by
 induction k with
 | zero => intros; exact .no
 | succ k ih =>
  intro x0 x1 x12 x13 v4 h5 v6 h7 H2 S3 σ
  rw [p_zr18_Ints_l0]
  refine .round (Sim.ext (zr18_Ints_r0 _ _ _ _ _ _ _ _) ?_)
  refine .cq ?_ ?_
  ·refine .bd fun a9 h10 => ?_
   refine .op ((S3.low h5).iS h10 rfl) ?_
   obtain ⟨_,rfl,hE11⟩:=(S3.low h5).el h10 rfl
   refine .op (hE11.ld (j:=0) rfl) ?_
   refine .ci ?_
   refine .bd fun a12 h13 => ?_
   refine .op ((S3.low h7).iS h13 rfl) ?_
   obtain ⟨_,rfl,hE14⟩:=(S3.low h7).el h13 rfl
   refine .op (hE14.ld (j:=0) rfl) ?_
   refine .ci ?_
   refine .cq ?_ ?_
   ·exact hE1 false H2 (S3.wk2 aN aN)
   exact ih x0 x1 x12 (IntKind.wrap .i64 (x13 + 1)) v4 h5 v6 h7 H2 (S3.wk2 aN aN)
  exact hE0 () H2 (S3.wk2 aN aN)
theorem zr18_Ints_ok (k : Nat) {h : H} {σ : Stamp} (x0 : List Int) {u0 : V} (hu0 : SlH h (dI .i64) x0 u0) (x1 : List Int) {u1 : V} (hu1 : SlH h (dI .i64) x1 u1) : Sim (p_zr18_Ints k x0 x1) (ev G X0 44 σ [u0,u1] h) (fun r s => s = ([.v (.p (.bool r))],h)):=by
 refine .ev rfl (Sim.ext (zr18_Ints_entry _ _ _ _ _ _) ?_)
 rw [p_zr18_Ints]
 have S0 : Fm 26 h [] [] [] (List.replicate 26 []::h):=Fm.start0
 refine .op ((S0.low hu0).len) ?_
 refine .ci ?_
 refine .op ((S0.low hu1).len) ?_
 refine .ci ?_
 refine .cq ?_ ?_
 ·exact .fin (S0.finN (lC (sB _).lv lN)) rfl
 refine .op ((S0.low hu0).len) ?_
 refine .ci ?_
 refine .as (zr18_Ints_l0_ok ?_ ?_ k x0 x1 ((x0.length : Int)) 0 u0 hu0 u1 hu1 (List.replicate 26 []::h) (S0.wk2 aN aN))
 ·intro _u H21 S22
  refine .ext (zr18_Ints_a0_0 _ _ _ _) ?_
  exact .fin (S22.finN (lC (sB _).lv lN)) rfl
 ·intro r23_4 H24 S25
  refine .ext (zr18_Ints_a0_ret _ _ _ _ _) ?_
  exact .fin (S25.finN (lC (sB _).lv lN)) rfl
def p_zl18_ints (k : Nat) (x0 : (List Int)) (x1 : (List Int)) : Option (Bool) :=
(p_zr18_Ints k x0 x1).bind fun r1 =>
some (r1)
theorem zl18_ints_ok (k : Nat) {h : H} {σ : Stamp} (x0 : List Int) {u0 : V} (hu0 : SlH h (dI .i64) x0 u0) (x1 : List Int) {u1 : V} (hu1 : SlH h (dI .i64) x1 u1) : Sim (p_zl18_ints k x0 x1) (ev G X0 51 σ [u0,u1] h) (fun r s => s = ([.v (.p (.bool r))],h)):=by
 refine .ev rfl (Sim.ext (zl18_ints_entry _ _ _ _ _ _) ?_)
 rw [p_zl18_ints]
 have S0 : Fm 8 h [] [] [] (List.replicate 8 []::h):=Fm.start0
 refine .call (zr18_Ints_ok k x0 (S0.low hu0) x1 (S0.low hu1)) fun r1 cs2 H3 h4 q5 => ?_
 cases q5
 refine .ab ?_
 exact .fin (S0.finN (lC (sB _).lv lN)) rfl
def p_zl18_known (k : Nat)  : Option (Bool) :=
(p_knap_Best k ([((⟨0,([1,5]),([100,300])⟩ : TaiChoice)),((⟨1,([2,4]),([100,900])⟩ : TaiChoice))]) 7).bind fun r6 =>
(p_knap_Best k ([((⟨0,([1,5]),([100,300])⟩ : TaiChoice)),((⟨1,([2,4]),([100,900])⟩ : TaiChoice))]) 4).bind fun r20 =>
(p_zl18_ints k r6 ([1,0])).bind fun r35 =>
(bif r35 then ((p_zl18_ints k r20 ([0,0])).bind fun r41 =>
some r41) else (some false)).bind fun b46 =>
bif b46 then ((p_knap_Best k (([] : List TaiChoice)) 5).bind fun r50 =>
(bif ((r50.length : Int)) == 0 then ((p_knap_Cost k ([((⟨0,([1,5]),([100,300])⟩ : TaiChoice)),((⟨1,([2,4]),([100,900])⟩ : TaiChoice))]) r6).bind fun r64 =>
some (r64 == 7)) else (some false)).bind fun b69 =>
(bif b69 then ((p_knap_Good k ([((⟨0,([1,5]),([100,300])⟩ : TaiChoice)),((⟨1,([2,4]),([100,900])⟩ : TaiChoice))]) r6).bind fun r73 =>
some (andB [((r73.getD 0 0)) == 300,((r73.getD 1 0)) == 100,((r73.getD 2 0)) == 0,((r73.getD 3 0)) == 0])) else (some false)).bind fun b80 =>
(bif b80 then ((p_knap_Fits k ([((⟨0,([1,5]),([100,300])⟩ : TaiChoice)),((⟨1,([2,4]),([100,900])⟩ : TaiChoice))]) r6 7).bind fun r84 =>
some r84) else (some false)).bind fun b89 =>
(bif b89 then ((p_knap_Fits k ([((⟨0,([1,5]),([100,300])⟩ : TaiChoice)),((⟨1,([2,4]),([100,900])⟩ : TaiChoice))]) r6 6).bind fun r93 =>
some (!r93)) else (some false)).bind fun b98 =>
(bif b98 then ((p_knap_Fits k ([((⟨0,([1,5]),([100,300])⟩ : TaiChoice)),((⟨1,([2,4]),([100,900])⟩ : TaiChoice))]) ([0]) 9).bind fun r103 =>
some (!r103)) else (some false)).bind fun b108 =>
(bif b108 then ((p_knap_Good k ([((⟨0,([1,5]),([100,300])⟩ : TaiChoice)),((⟨1,([2,4]),([100,900])⟩ : TaiChoice))]) r6).bind fun r112 =>
(p_knap_Good k ([((⟨0,([1,5]),([100,300])⟩ : TaiChoice)),((⟨1,([2,4]),([100,900])⟩ : TaiChoice))]) r6).bind fun r119 =>
(p_knap_Better k r112 r119).bind fun r126 =>
some (!r126)) else (some false)).bind fun b131 =>
(bif b131 then ((p_knap_Better k ([1,0,0,0]) ([0,9,0,0])).bind fun r135 =>
some r135) else (some false)).bind fun b140 =>
some (b140)) else ((bif false then ((p_knap_Cost k ([((⟨0,([1,5]),([100,300])⟩ : TaiChoice)),((⟨1,([2,4]),([100,900])⟩ : TaiChoice))]) r6).bind fun r144 =>
some (r144 == 7)) else (some false)).bind fun b149 =>
(bif b149 then ((p_knap_Good k ([((⟨0,([1,5]),([100,300])⟩ : TaiChoice)),((⟨1,([2,4]),([100,900])⟩ : TaiChoice))]) r6).bind fun r153 =>
some (andB [((r153.getD 0 0)) == 300,((r153.getD 1 0)) == 100,((r153.getD 2 0)) == 0,((r153.getD 3 0)) == 0])) else (some false)).bind fun b160 =>
(bif b160 then ((p_knap_Fits k ([((⟨0,([1,5]),([100,300])⟩ : TaiChoice)),((⟨1,([2,4]),([100,900])⟩ : TaiChoice))]) r6 7).bind fun r164 =>
some r164) else (some false)).bind fun b169 =>
(bif b169 then ((p_knap_Fits k ([((⟨0,([1,5]),([100,300])⟩ : TaiChoice)),((⟨1,([2,4]),([100,900])⟩ : TaiChoice))]) r6 6).bind fun r173 =>
some (!r173)) else (some false)).bind fun b178 =>
(bif b178 then ((p_knap_Fits k ([((⟨0,([1,5]),([100,300])⟩ : TaiChoice)),((⟨1,([2,4]),([100,900])⟩ : TaiChoice))]) ([0]) 9).bind fun r183 =>
some (!r183)) else (some false)).bind fun b188 =>
(bif b188 then ((p_knap_Good k ([((⟨0,([1,5]),([100,300])⟩ : TaiChoice)),((⟨1,([2,4]),([100,900])⟩ : TaiChoice))]) r6).bind fun r192 =>
(p_knap_Good k ([((⟨0,([1,5]),([100,300])⟩ : TaiChoice)),((⟨1,([2,4]),([100,900])⟩ : TaiChoice))]) r6).bind fun r199 =>
(p_knap_Better k r192 r199).bind fun r206 =>
some (!r206)) else (some false)).bind fun b211 =>
(bif b211 then ((p_knap_Better k ([1,0,0,0]) ([0,9,0,0])).bind fun r215 =>
some r215) else (some false)).bind fun b220 =>
some (b220))
theorem zl18_known_ok (k : Nat) {h : H} {σ : Stamp}  : Sim (p_zl18_known k ) (ev G X0 31 σ [] h) (fun r s => s = ([.v (.p (.bool r))],h)):=by
 refine .ev rfl (Sim.ext (zl18_known_entry _ _ _ _) ?_)
 rw [p_zl18_known]
 have S0 : Fm 73 h [] [] [] (List.replicate 73 []::h):=Fm.start0
 have h1 : SlF (dI .i64) [1,5] (.fz [(.p (.int .i64 1)),(.p (.int .i64 5))] 2 1 true):=SlF.lit (cs:=[(.p (.int .i64 1)),(.p (.int .i64 5))]) (RL.cons (show (dI .i64).R 1 [(.p (.int .i64 1))] from rfl) (RL.cons (show (dI .i64).R 5 [(.p (.int .i64 5))] from rfl) RL.nil)) rfl rfl true
 refine .op (bldS (pC rfl (pC rfl pN)) (by kernel_rfl : _ = some (vOf h1))) ?_
 have h2 : SlF (dI .i64) [100,300] (.fz [(.p (.int .i64 100)),(.p (.int .i64 300))] 2 1 true):=SlF.lit (cs:=[(.p (.int .i64 100)),(.p (.int .i64 300))]) (RL.cons (show (dI .i64).R 100 [(.p (.int .i64 100))] from rfl) (RL.cons (show (dI .i64).R 300 [(.p (.int .i64 300))] from rfl) RL.nil)) rfl rfl true
 refine .op (bldS (pC rfl (pC rfl pN)) (by kernel_rfl : _ = some (vOf h2))) ?_
 refine .op (bldV (pC rfl (pC h1.still.cells (pC h2.still.cells pN))) (by kernel_rfl : _ = some (.agg [.p (.int .i64 0),.fz [(.p (.int .i64 1)),(.p (.int .i64 5))] 2 1 true,.fz [(.p (.int .i64 100)),(.p (.int .i64 300))] 2 1 true]))) ?_
 have h3 : SlF (dI .i64) [2,4] (.fz [(.p (.int .i64 2)),(.p (.int .i64 4))] 2 1 true):=SlF.lit (cs:=[(.p (.int .i64 2)),(.p (.int .i64 4))]) (RL.cons (show (dI .i64).R 2 [(.p (.int .i64 2))] from rfl) (RL.cons (show (dI .i64).R 4 [(.p (.int .i64 4))] from rfl) RL.nil)) rfl rfl true
 refine .op (bldS (pC rfl (pC rfl pN)) (by kernel_rfl : _ = some (vOf h3))) ?_
 have h4 : SlF (dI .i64) [100,900] (.fz [(.p (.int .i64 100)),(.p (.int .i64 900))] 2 1 true):=SlF.lit (cs:=[(.p (.int .i64 100)),(.p (.int .i64 900))]) (RL.cons (show (dI .i64).R 100 [(.p (.int .i64 100))] from rfl) (RL.cons (show (dI .i64).R 900 [(.p (.int .i64 900))] from rfl) RL.nil)) rfl rfl true
 refine .op (bldS (pC rfl (pC rfl pN)) (by kernel_rfl : _ = some (vOf h4))) ?_
 refine .op (bldV (pC rfl (pC h3.still.cells (pC h4.still.cells pN))) (by kernel_rfl : _ = some (.agg [.p (.int .i64 1),.fz [(.p (.int .i64 2)),(.p (.int .i64 4))] 2 1 true,.fz [(.p (.int .i64 100)),(.p (.int .i64 900))] 2 1 true]))) ?_
 have h5 : SlF dTaiChoice [((⟨0,([1,5]),([100,300])⟩ : TaiChoice)),((⟨1,([2,4]),([100,900])⟩ : TaiChoice))] (.fz [(.p (.int .i64 0)),(.fz [(.p (.int .i64 1)),(.p (.int .i64 5))] 2 1 true),(.fz [(.p (.int .i64 100)),(.p (.int .i64 300))] 2 1 true),(.p (.int .i64 1)),(.fz [(.p (.int .i64 2)),(.p (.int .i64 4))] 2 1 true),(.fz [(.p (.int .i64 100)),(.p (.int .i64 900))] 2 1 true)] 2 3 true):=SlF.lit (cs:=[(.p (.int .i64 0)),(.fz [(.p (.int .i64 1)),(.p (.int .i64 5))] 2 1 true),(.fz [(.p (.int .i64 100)),(.p (.int .i64 300))] 2 1 true),(.p (.int .i64 1)),(.fz [(.p (.int .i64 2)),(.p (.int .i64 4))] 2 1 true),(.fz [(.p (.int .i64 100)),(.p (.int .i64 900))] 2 1 true)]) (RL.cons (show dTaiChoice.R ((⟨0,([1,5]),([100,300])⟩ : TaiChoice)) [.p (.int .i64 0),.fz [(.p (.int .i64 1)),(.p (.int .i64 5))] 2 1 true,.fz [(.p (.int .i64 100)),(.p (.int .i64 300))] 2 1 true] from (dTaiChoice.mk h1 h2)) (RL.cons (show dTaiChoice.R ((⟨1,([2,4]),([100,900])⟩ : TaiChoice)) [.p (.int .i64 1),.fz [(.p (.int .i64 2)),(.p (.int .i64 4))] 2 1 true,.fz [(.p (.int .i64 100)),(.p (.int .i64 900))] 2 1 true] from (dTaiChoice.mk h3 h4)) RL.nil)) rfl rfl true
 refine .op (bldS (pC (c:=[.p (.int .i64 0),.fz [(.p (.int .i64 1)),(.p (.int .i64 5))] 2 1 true,.fz [(.p (.int .i64 100)),(.p (.int .i64 300))] 2 1 true]) rfl (pC (c:=[.p (.int .i64 1),.fz [(.p (.int .i64 2)),(.p (.int .i64 4))] 2 1 true,.fz [(.p (.int .i64 100)),(.p (.int .i64 900))] 2 1 true]) rfl pN)) (by kernel_rfl : _ = some (vOf h5))) ?_
 refine .call (knap_Best_ok k ([((⟨0,([1,5]),([100,300])⟩ : TaiChoice)),((⟨1,([2,4]),([100,900])⟩ : TaiChoice))]) (h5.h (List.replicate 73 []::h)) 7) fun r6 cs7 H8 h9 q10 => ?_
 obtain ⟨c11,cs12,h13,h14,q10⟩:=q10
 cases q10
 obtain ⟨v15,H16,e17,S18⟩:=S0.land (dt:=(dI .i64)) (d:=12) (e:=0) (n:=0) h13 h14 (by decide) rfl
 erw [e17]
 refine .call (knap_Best_ok k ([((⟨0,([1,5]),([100,300])⟩ : TaiChoice)),((⟨1,([2,4]),([100,900])⟩ : TaiChoice))]) (h5.h H16) 4) fun r20 cs21 H22 h23 q24 => ?_
 obtain ⟨c25,cs26,h27,h28,q24⟩:=q24
 cases q24
 obtain ⟨v29,H30,e31,S32⟩:=S18.land (dt:=(dI .i64)) (d:=14) (e:=0) (n:=0) h27 h28 (by decide) rfl
 erw [e31]
 have h34 : SlF (dI .i64) [1,0] (.fz [(.p (.int .i64 1)),(.p (.int .i64 0))] 2 1 true):=SlF.lit (cs:=[(.p (.int .i64 1)),(.p (.int .i64 0))]) (RL.cons (show (dI .i64).R 1 [(.p (.int .i64 1))] from rfl) (RL.cons (show (dI .i64).R 0 [(.p (.int .i64 0))] from rfl) RL.nil)) rfl rfl true
 refine .op (bldS (pC rfl (pC rfl pN)) (by kernel_rfl : _ = some (vOf h34))) ?_
 refine .call (zl18_ints_ok k r6 (S32.sl (i:=1) rfl) ([1,0]) (h34.h H30)) fun r35 cs36 H37 h38 q39 => ?_
 cases q39
 refine .ab ?_
 refine .ch (P:=fun r y => (.p (.bool r),H30) = y) ?_ (fun b46 y47 h48 h49 => ?_)
 ·refine .cq ?_ ?_
  ·have h40 : SlF (dI .i64) [0,0] (.fz [(.p (.int .i64 0)),(.p (.int .i64 0))] 2 1 true):=SlF.lit (cs:=[(.p (.int .i64 0)),(.p (.int .i64 0))]) (RL.cons (show (dI .i64).R 0 [(.p (.int .i64 0))] from rfl) (RL.cons (show (dI .i64).R 0 [(.p (.int .i64 0))] from rfl) RL.nil)) rfl rfl true
   refine .op (bldS (pC rfl (pC rfl pN)) (by kernel_rfl : _ = some (vOf h40))) ?_
   refine .call (zl18_ints_ok k r20 (S32.sl (i:=0) rfl) ([0,0]) (h40.h H30)) fun r41 cs42 H43 h44 q45 => ?_
   cases q45
   refine .ab ?_
   exact .ret rfl rfl
  ·exact .ret rfl rfl
 subst h49
 refine .ab ?_
 refine .cqk ?_ ?_
 ·refine .as ?_
  refine .call (knap_Best_ok k (([] : List TaiChoice)) ((SlF.nil dTaiChoice).h H30) 5) fun r50 cs51 H52 h53 q54 => ?_
  obtain ⟨c55,cs56,h57,h58,q54⟩:=q54
  cases q54
  obtain ⟨v59,H60,e61,S62⟩:=S32.land (dt:=(dI .i64)) (d:=24) (e:=0) (n:=0) h57 h58 (by decide) rfl
  erw [e61]
  refine .op ((S62.sl (i:=0) rfl).len) ?_
  refine .ci ?_
  refine .pure ?_
  refine .ab ?_
  refine .ch (P:=fun r y => (.p (.bool r),H60) = y) ?_ (fun b69 y70 h71 h72 => ?_)
  ·refine .cq ?_ ?_
   ·refine .call (knap_Cost_ok k ([((⟨0,([1,5]),([100,300])⟩ : TaiChoice)),((⟨1,([2,4]),([100,900])⟩ : TaiChoice))]) (h5.h H60) r6 (S62.sl (i:=2) rfl)) fun r64 cs65 H66 h67 q68 => ?_
    cases q68
    refine .ci ?_
    exact .ret rfl rfl
   ·exact .ret rfl rfl
  subst h72
  refine .ab ?_
  refine .ch (P:=fun r y => (.p (.bool r),H60) = y) ?_ (fun b80 y81 h82 h83 => ?_)
  ·refine .cq ?_ ?_
   ·refine .call (knap_Good_ok k ([((⟨0,([1,5]),([100,300])⟩ : TaiChoice)),((⟨1,([2,4]),([100,900])⟩ : TaiChoice))]) (h5.h H60) r6 (S62.sl (i:=2) rfl)) fun r73 cs74 H75 h76 q77 => ?_
    obtain ⟨w78,h79,q77⟩:=q77
    cases q77
    obtain rfl : w78 = [(.p (.int .i64 ((r73.getD 0 0)))),(.p (.int .i64 ((r73.getD 1 0)))),(.p (.int .i64 ((r73.getD 2 0)))),(.p (.int .i64 ((r73.getD 3 0))))]:=dA_int h79
    refine .op (bldV (pC rfl (pC rfl pN)) (by kernel_rfl : _ = some (.agg [.p (.int .i64 300),.p (.int .i64 100),.p (.int .i64 0),.p (.int .i64 0)]))) ?_
    refine .op (eqS_ok (by kernel_rfl : _ = andL [((r73.getD 0 0)) == 300,((r73.getD 1 0)) == 100,((r73.getD 2 0)) == 0,((r73.getD 3 0)) == 0])) ?_
    refine .ab ?_
    exact .ret rfl rfl
   ·exact .ret rfl rfl
  subst h83
  refine .ab ?_
  refine .ch (P:=fun r y => (.p (.bool r),H60) = y) ?_ (fun b89 y90 h91 h92 => ?_)
  ·refine .cq ?_ ?_
   ·refine .call (knap_Fits_ok k ([((⟨0,([1,5]),([100,300])⟩ : TaiChoice)),((⟨1,([2,4]),([100,900])⟩ : TaiChoice))]) (h5.h H60) r6 (S62.sl (i:=2) rfl) 7) fun r84 cs85 H86 h87 q88 => ?_
    cases q88
    refine .ab ?_
    exact .ret rfl rfl
   ·exact .ret rfl rfl
  subst h92
  refine .ab ?_
  refine .ch (P:=fun r y => (.p (.bool r),H60) = y) ?_ (fun b98 y99 h100 h101 => ?_)
  ·refine .cq ?_ ?_
   ·refine .call (knap_Fits_ok k ([((⟨0,([1,5]),([100,300])⟩ : TaiChoice)),((⟨1,([2,4]),([100,900])⟩ : TaiChoice))]) (h5.h H60) r6 (S62.sl (i:=2) rfl) 6) fun r93 cs94 H95 h96 q97 => ?_
    cases q97
    refine .ab ?_
    exact .ret rfl rfl
   ·exact .ret rfl rfl
  subst h101
  refine .ab ?_
  refine .ch (P:=fun r y => (.p (.bool r),H60) = y) ?_ (fun b108 y109 h110 h111 => ?_)
  ·refine .cq ?_ ?_
   ·have h102:=SlF.int1 .i64 0
    refine .op (bldS (pC rfl pN) (by kernel_rfl : _ = some (vOf h102))) ?_
    refine .call (knap_Fits_ok k ([((⟨0,([1,5]),([100,300])⟩ : TaiChoice)),((⟨1,([2,4]),([100,900])⟩ : TaiChoice))]) (h5.h H60) ([0]) (h102.h H60) 9) fun r103 cs104 H105 h106 q107 => ?_
    cases q107
    refine .ab ?_
    exact .ret rfl rfl
   ·exact .ret rfl rfl
  subst h111
  refine .ab ?_
  refine .ch (P:=fun r y => (.p (.bool r),H60) = y) ?_ (fun b131 y132 h133 h134 => ?_)
  ·refine .cq ?_ ?_
   ·refine .call (knap_Good_ok k ([((⟨0,([1,5]),([100,300])⟩ : TaiChoice)),((⟨1,([2,4]),([100,900])⟩ : TaiChoice))]) (h5.h H60) r6 (S62.sl (i:=2) rfl)) fun r112 cs113 H114 h115 q116 => ?_
    obtain ⟨w117,h118,q116⟩:=q116
    cases q116
    obtain rfl : w117 = [(.p (.int .i64 ((r112.getD 0 0)))),(.p (.int .i64 ((r112.getD 1 0)))),(.p (.int .i64 ((r112.getD 2 0)))),(.p (.int .i64 ((r112.getD 3 0))))]:=dA_int h118
    refine .call (knap_Good_ok k ([((⟨0,([1,5]),([100,300])⟩ : TaiChoice)),((⟨1,([2,4]),([100,900])⟩ : TaiChoice))]) (h5.h H60) r6 (S62.sl (i:=2) rfl)) fun r119 cs120 H121 h122 q123 => ?_
    obtain ⟨w124,h125,q123⟩:=q123
    cases q123
    obtain rfl : w124 = [(.p (.int .i64 ((r119.getD 0 0)))),(.p (.int .i64 ((r119.getD 1 0)))),(.p (.int .i64 ((r119.getD 2 0)))),(.p (.int .i64 ((r119.getD 3 0))))]:=dA_int h125
    refine .call (knap_Better_ok k r112 h118 r119 h125) fun r126 cs127 H128 h129 q130 => ?_
    cases q130
    refine .ab ?_
    exact .ret rfl rfl
   ·exact .ret rfl rfl
  subst h134
  refine .ab ?_
  refine .ch (P:=fun r y => (.p (.bool r),H60) = y) ?_ (fun b140 y141 h142 h143 => ?_)
  ·refine .cq ?_ ?_
   ·refine .op (bldV (pC rfl pN) (by kernel_rfl : _ = some (.agg [.p (.int .i64 1),.p (.int .i64 0),.p (.int .i64 0),.p (.int .i64 0)]))) ?_
    refine .op (bldV (pC rfl (pC rfl pN)) (by kernel_rfl : _ = some (.agg [.p (.int .i64 0),.p (.int .i64 9),.p (.int .i64 0),.p (.int .i64 0)]))) ?_
    refine .call (knap_Better_ok k ([1,0,0,0]) (show (dA 4 (dI .i64)).R ([1,0,0,0]) [.p (.int .i64 1),.p (.int .i64 0),.p (.int .i64 0),.p (.int .i64 0)] from (⟨rfl,dI_map [1,0,0,0]⟩ : (dA 4 (dI .i64)).R [1,0,0,0] [.p (.int .i64 1),.p (.int .i64 0),.p (.int .i64 0),.p (.int .i64 0)])) ([0,9,0,0]) (show (dA 4 (dI .i64)).R ([0,9,0,0]) [.p (.int .i64 0),.p (.int .i64 9),.p (.int .i64 0),.p (.int .i64 0)] from (⟨rfl,dI_map [0,9,0,0]⟩ : (dA 4 (dI .i64)).R [0,9,0,0] [.p (.int .i64 0),.p (.int .i64 9),.p (.int .i64 0),.p (.int .i64 0)]))) fun r135 cs136 H137 h138 q139 => ?_
    cases q139
    refine .ab ?_
    exact .ret rfl rfl
   ·exact .ret rfl rfl
  subst h143
  refine .ab ?_
  exact .fin (S62.finN (lC (sB _).lv lN)) rfl
 ·refine .as ?_
  refine .pure ?_
  refine .ab ?_
  refine .ch (P:=fun r y => (.p (.bool r),H30) = y) ?_ (fun b149 y150 h151 h152 => ?_)
  ·refine .cq ?_ ?_
   ·refine .call (knap_Cost_ok k ([((⟨0,([1,5]),([100,300])⟩ : TaiChoice)),((⟨1,([2,4]),([100,900])⟩ : TaiChoice))]) (h5.h H30) r6 (S32.sl (i:=1) rfl)) fun r144 cs145 H146 h147 q148 => ?_
    cases q148
    refine .ci ?_
    exact .ret rfl rfl
   ·exact .ret rfl rfl
  subst h152
  refine .ab ?_
  refine .ch (P:=fun r y => (.p (.bool r),H30) = y) ?_ (fun b160 y161 h162 h163 => ?_)
  ·refine .cq ?_ ?_
   ·refine .call (knap_Good_ok k ([((⟨0,([1,5]),([100,300])⟩ : TaiChoice)),((⟨1,([2,4]),([100,900])⟩ : TaiChoice))]) (h5.h H30) r6 (S32.sl (i:=1) rfl)) fun r153 cs154 H155 h156 q157 => ?_
    obtain ⟨w158,h159,q157⟩:=q157
    cases q157
    obtain rfl : w158 = [(.p (.int .i64 ((r153.getD 0 0)))),(.p (.int .i64 ((r153.getD 1 0)))),(.p (.int .i64 ((r153.getD 2 0)))),(.p (.int .i64 ((r153.getD 3 0))))]:=dA_int h159
    refine .op (bldV (pC rfl (pC rfl pN)) (by kernel_rfl : _ = some (.agg [.p (.int .i64 300),.p (.int .i64 100),.p (.int .i64 0),.p (.int .i64 0)]))) ?_
    refine .op (eqS_ok (by kernel_rfl : _ = andL [((r153.getD 0 0)) == 300,((r153.getD 1 0)) == 100,((r153.getD 2 0)) == 0,((r153.getD 3 0)) == 0])) ?_
    refine .ab ?_
    exact .ret rfl rfl
   ·exact .ret rfl rfl
  subst h163
  refine .ab ?_
  refine .ch (P:=fun r y => (.p (.bool r),H30) = y) ?_ (fun b169 y170 h171 h172 => ?_)
  ·refine .cq ?_ ?_
   ·refine .call (knap_Fits_ok k ([((⟨0,([1,5]),([100,300])⟩ : TaiChoice)),((⟨1,([2,4]),([100,900])⟩ : TaiChoice))]) (h5.h H30) r6 (S32.sl (i:=1) rfl) 7) fun r164 cs165 H166 h167 q168 => ?_
    cases q168
    refine .ab ?_
    exact .ret rfl rfl
   ·exact .ret rfl rfl
  subst h172
  refine .ab ?_
  refine .ch (P:=fun r y => (.p (.bool r),H30) = y) ?_ (fun b178 y179 h180 h181 => ?_)
  ·refine .cq ?_ ?_
   ·refine .call (knap_Fits_ok k ([((⟨0,([1,5]),([100,300])⟩ : TaiChoice)),((⟨1,([2,4]),([100,900])⟩ : TaiChoice))]) (h5.h H30) r6 (S32.sl (i:=1) rfl) 6) fun r173 cs174 H175 h176 q177 => ?_
    cases q177
    refine .ab ?_
    exact .ret rfl rfl
   ·exact .ret rfl rfl
  subst h181
  refine .ab ?_
  refine .ch (P:=fun r y => (.p (.bool r),H30) = y) ?_ (fun b188 y189 h190 h191 => ?_)
  ·refine .cq ?_ ?_
   ·have h182:=SlF.int1 .i64 0
    refine .op (bldS (pC rfl pN) (by kernel_rfl : _ = some (vOf h182))) ?_
    refine .call (knap_Fits_ok k ([((⟨0,([1,5]),([100,300])⟩ : TaiChoice)),((⟨1,([2,4]),([100,900])⟩ : TaiChoice))]) (h5.h H30) ([0]) (h182.h H30) 9) fun r183 cs184 H185 h186 q187 => ?_
    cases q187
    refine .ab ?_
    exact .ret rfl rfl
   ·exact .ret rfl rfl
  subst h191
  refine .ab ?_
  refine .ch (P:=fun r y => (.p (.bool r),H30) = y) ?_ (fun b211 y212 h213 h214 => ?_)
  ·refine .cq ?_ ?_
   ·refine .call (knap_Good_ok k ([((⟨0,([1,5]),([100,300])⟩ : TaiChoice)),((⟨1,([2,4]),([100,900])⟩ : TaiChoice))]) (h5.h H30) r6 (S32.sl (i:=1) rfl)) fun r192 cs193 H194 h195 q196 => ?_
    obtain ⟨w197,h198,q196⟩:=q196
    cases q196
    obtain rfl : w197 = [(.p (.int .i64 ((r192.getD 0 0)))),(.p (.int .i64 ((r192.getD 1 0)))),(.p (.int .i64 ((r192.getD 2 0)))),(.p (.int .i64 ((r192.getD 3 0))))]:=dA_int h198
    refine .call (knap_Good_ok k ([((⟨0,([1,5]),([100,300])⟩ : TaiChoice)),((⟨1,([2,4]),([100,900])⟩ : TaiChoice))]) (h5.h H30) r6 (S32.sl (i:=1) rfl)) fun r199 cs200 H201 h202 q203 => ?_
    obtain ⟨w204,h205,q203⟩:=q203
    cases q203
    obtain rfl : w204 = [(.p (.int .i64 ((r199.getD 0 0)))),(.p (.int .i64 ((r199.getD 1 0)))),(.p (.int .i64 ((r199.getD 2 0)))),(.p (.int .i64 ((r199.getD 3 0))))]:=dA_int h205
    refine .call (knap_Better_ok k r192 h198 r199 h205) fun r206 cs207 H208 h209 q210 => ?_
    cases q210
    refine .ab ?_
    exact .ret rfl rfl
   ·exact .ret rfl rfl
  subst h214
  refine .ab ?_
  refine .ch (P:=fun r y => (.p (.bool r),H30) = y) ?_ (fun b220 y221 h222 h223 => ?_)
  ·refine .cq ?_ ?_
   ·refine .op (bldV (pC rfl pN) (by kernel_rfl : _ = some (.agg [.p (.int .i64 1),.p (.int .i64 0),.p (.int .i64 0),.p (.int .i64 0)]))) ?_
    refine .op (bldV (pC rfl (pC rfl pN)) (by kernel_rfl : _ = some (.agg [.p (.int .i64 0),.p (.int .i64 9),.p (.int .i64 0),.p (.int .i64 0)]))) ?_
    refine .call (knap_Better_ok k ([1,0,0,0]) (show (dA 4 (dI .i64)).R ([1,0,0,0]) [.p (.int .i64 1),.p (.int .i64 0),.p (.int .i64 0),.p (.int .i64 0)] from (⟨rfl,dI_map [1,0,0,0]⟩ : (dA 4 (dI .i64)).R [1,0,0,0] [.p (.int .i64 1),.p (.int .i64 0),.p (.int .i64 0),.p (.int .i64 0)])) ([0,9,0,0]) (show (dA 4 (dI .i64)).R ([0,9,0,0]) [.p (.int .i64 0),.p (.int .i64 9),.p (.int .i64 0),.p (.int .i64 0)] from (⟨rfl,dI_map [0,9,0,0]⟩ : (dA 4 (dI .i64)).R [0,9,0,0] [.p (.int .i64 0),.p (.int .i64 9),.p (.int .i64 0),.p (.int .i64 0)]))) fun r215 cs216 H217 h218 q219 => ?_
    cases q219
    refine .ab ?_
    exact .ret rfl rfl
   ·exact .ret rfl rfl
  subst h223
  refine .ab ?_
  exact .fin (S32.finN (lC (sB _).lv lN)) rfl
end
end Go.Ev
namespace Go.Ev
namespace Knap
theorem getD_all {α : Type} {P : α→Prop} {d : α} (hd : P d) {xs : List α} (h : ∀ x ∈ xs,P x) (q : Nat) : P (xs.getD q d):=by
 rw [List.getD_eq_getElem?_getD]
 cases hq : xs[q]? with
 | none => exact hd
 | some x => exact h x (List.mem_of_getElem? hq)
theorem okL_of {l : List TaiChoice} (h : ∀ c ∈ l,OkC c) : OkL l:=fun q => getD_all (P:=OkC) ⟨by decide,by decide,rfl,by decide,fun q => by simp,fun q => by simp,fun q => by simp⟩ h q
theorem okC_of {cls : Int} {cs gs : List Int} (h0 : 0 ≤ cls) (h3 : cls ≤ 3) (hlen : cs.length = gs.length) (hl : cs.length ≤ 3) (hc : ∀ x ∈ cs,x ≤ 14) (hg : ∀ x ∈ gs,0 ≤ x∧x ≤ 1048576) : OkC ⟨cls,cs,gs⟩ :=
 ⟨h0,by show cls < 4; omega,hlen,by show cs.length ≤ 4; omega,fun q => getD_all (P:=fun x => x ≤ 1048576) (by omega) (fun x hx => by have:=hc x hx; omega) q,
  fun q => getD_all (P:=fun x => 0 ≤ x) (by omega) (fun x hx => (hg x hx).1) q,fun q => getD_all (P:=fun x => x ≤ 1048576) (by omega) (fun x hx => (hg x hx).2) q⟩
theorem and15 (x : Int) : 0 ≤ intBits .and .i64 x 15∧intBits .and .i64 x 15 ≤ 15:=by
 have a1 : intBits .and .i64 x 15 = x % 2 ^ 4:=and_mask (n:=4) (m:=15) _ rfl (by decide)
 rw [a1]; omega
theorem and3 (x : Int) : 0 ≤ intBits .and .i64 x 3∧intBits .and .i64 x 3 ≤ 3:=by
 have a1 : intBits .and .i64 x 3 = x % 2 ^ 2:=and_mask (n:=2) (m:=3) _ rfl (by decide)
 rw [a1]; omega
theorem and31 (x : Int) : 0 ≤ intBits .and .i64 x 31∧intBits .and .i64 x 31 ≤ 31:=by
 have a1 : intBits .and .i64 x 31 = x % 2 ^ 5:=and_mask (n:=5) (m:=31) _ rfl (by decide)
 rw [a1]; omega
theorem next_ok (ns : List Int) {a : Nat} (h : a < 900) : ∃ v,p_zl18_numbers_next ⟨ns,(a : Int)⟩ = some (v,⟨ns,((a + 1 : Nat) : Int)⟩)∧0 ≤ v∧v ≤ 15:=by
 unfold p_zl18_numbers_next
 simp only
 rw [wrap_nat (i:=a) (by omega)]
 by_cases hc : ((a + 1 : Nat) : Int) > (ns.length : Int)
 ·rw [decide_eq_true hc,cond_true]
  exact ⟨0,rfl,by omega,by omega⟩
 ·rw [decide_eq_false hc,cond_false,wrap_i64 (by omega) (by omega),ix_get (d:=0) (by omega) (by omega),Option.bind_some]
  exact ⟨_,rfl,(and15 _).1,(and15 _).2⟩
theorem row_l1 {β : Type} (kE : Int→List TaiChoice→Int→Tz18numbers→TaiChoice→Option β) {ns : List Int} {x1 x7 : Int} {x5 : List TaiChoice} {cls : Int} (h0 : 0 ≤ cls) (h3 : cls ≤ 3) : ∀ m k a : Nat,∀ cs gs : List Int,m < k→a + 2 * m < 900→cs.length = gs.length→cs.length + m ≤ 3→(∀ x ∈ cs,x ≤ 14)→(∀ x ∈ gs,0 ≤ x∧x ≤ 1048576) →
  ∃ a' c',p_zl18_row_l1 k kE x1 x5 x7 (m : Int) ⟨ns,(a : Int)⟩ ⟨cls,cs,gs⟩ = kE x1 x5 x7 ⟨ns,((a' : Nat) : Int)⟩ c'∧a' ≤ a + 2 * m∧OkC c':=by
 intro m
 induction m with
 | zero =>
  intro k a cs gs hk _ hlen hl hc hg
  obtain ⟨k,rfl⟩ : ∃ j,k = j + 1:=⟨k - 1,by omega⟩
  rw [p_zl18_row_l1]
  exact ⟨a,⟨cls,cs,gs⟩,rfl,by omega,okC_of h0 h3 hlen (by omega) hc hg⟩
 | succ m ih =>
  intro k a cs gs hk ha hlen hl hc hg
  obtain ⟨k,rfl⟩ : ∃ j,k = j + 1:=⟨k - 1,by omega⟩
  rw [p_zl18_row_l1]
  have e1 : decide (((m + 1 : Nat) : Int) > 0) = true:=decide_eq_true (by omega)
  obtain ⟨v,n1,v0,v1⟩:=next_ok ns (a:=a) (by omega)
  obtain ⟨w,n2,w0,w1⟩:=next_ok ns (a:=a + 1) (by omega)
  have ew : IntKind.wrap .i64 (((m + 1 : Nat) : Int) - 1) = (m : Int):=by rw [wrap_i64 (by omega) (by omega)]; omega
  have ev : IntKind.wrap .i64 (v - 1) = v - 1:=wrap_i64 (by omega) (by omega)
  rw [e1,cond_true,n1,Option.bind_some,ap_eq (by omega) (by simp; omega),Option.bind_some,n2,Option.bind_some,ap_eq (by omega) (by simp; omega),Option.bind_some,ew,ev]
  obtain ⟨a',c',q1,q2,q3⟩:=ih k (a + 1 + 1) (cs ++ [v - 1]) (gs ++ [w]) (by omega) (by omega) (by simp [hlen]) (by simp; omega) (fun x hx => by
   rcases List.mem_append.1 hx with h | h
   ·exact hc x h
   ·rw [List.mem_singleton.1 h]; omega) (fun x hx => by
   rcases List.mem_append.1 hx with h | h
   ·exact hg x h
   ·rw [List.mem_singleton.1 h]; omega)
  exact ⟨a',c',q1,by omega,q3⟩
theorem row_l0 {β : Type} (kE : List TaiChoice→Option β) {ns : List Int} {n : Nat} (hn : n ≤ 8) : ∀ m k a i : Nat,∀ l : List TaiChoice,m + i = n→10 + m < k→a + 10 * m < 900→l.length = i→(∀ c ∈ l,OkC c) →
  ∃ l',p_zl18_row_l0 k kE (n : Int) l (i : Int) ⟨ns,(a : Int)⟩ = kE l'∧l'.length = n∧∀ c ∈ l',OkC c:=by
 intro m
 induction m with
 | zero =>
  intro k a i l hi hk _ hl hc
  obtain ⟨k,rfl⟩ : ∃ j,k = j + 1:=⟨k - 1,by omega⟩
  rw [p_zl18_row_l0]
  have e1 : decide ((i : Int) < (n : Int)) = false:=by simp; omega
  rw [e1]
  exact ⟨l,rfl,by omega,hc⟩
 | succ m ih =>
  intro k a i l hi hk ha hl hc
  obtain ⟨k,rfl⟩ : ∃ j,k = j + 1:=⟨k - 1,by omega⟩
  rw [p_zl18_row_l0]
  have e1 : decide ((i : Int) < (n : Int)) = true:=by simp; omega
  obtain ⟨v,n1,v0,v1⟩:=next_ok ns (a:=a) (by omega)
  obtain ⟨w,n2,w0,w1⟩:=next_ok ns (a:=a + 1) (by omega)
  rw [e1,cond_true,n1,Option.bind_some,n2,Option.bind_some]
  obtain ⟨q,hq,hq3⟩ : ∃ q : Nat,intBits .and .i64 w 3 = (q : Int)∧q ≤ 3:=⟨(intBits .and .i64 w 3).toNat,by have:=and3 w; omega,by have:=and3 w; omega⟩
  simp only
  rw [hq]
  obtain ⟨a',c',r1,r2,r3⟩:=row_l1 (fun r124_1 r124_5 r124_7 yg48 yg56 => (ap 56 r124_5 [yg56]).bind fun a156 => p_zl18_row_l0 k kE r124_1 a156 (IntKind.wrap .i64 (r124_7 + 1)) yg48) (ns:=ns) (x1:=(n : Int)) (x7:=(i : Int)) (x5:=l) (and3 v).1 (and3 v).2 q k (a + 1 + 1) [] [] (by omega) (by omega) rfl (by simpa using hq3) (by simp) (by simp)
  rw [r1,ap_eq (by omega) (by simp; omega),Option.bind_some,wrap_nat (by omega)]
  exact ih k a' (i + 1) (l ++ [c']) (by omega) (by omega) (by omega) (by simp [hl]) (fun c h => by
   rcases List.mem_append.1 h with h | h
   ·exact hc c h
   ·rw [List.mem_singleton.1 h]; exact r3)
theorem row_ok (ns : List Int) {n k : Nat} (hn : n ≤ 8) (hk : 30 ≤ k) : ∃ l,p_zl18_row k ns (n : Int) = some l∧l.length = n∧∀ c ∈ l,OkC c:=by
 unfold p_zl18_row
 exact row_l0 (fun r => some r) hn n k 0 0 [] (by omega) (by omega) (by omega) rfl (by simp)
theorem getD_rep (n q : Nat) : (List.replicate n (-1 : Int)).getD q 0 = if q < n then -1 else 0:=by
 rw [List.getD_eq_getElem?_getD,List.getElem?_replicate]
 split <;> rfl
theorem none_fits {l : List TaiChoice} : FA l (List.replicate l.length (-1)):=fun q hq => by
 rw [getD_rep,if_pos hq]; rfl
theorem sm_zero {f : Nat→Int} : ∀ {n : Nat},(∀ q,q < n→f q = 0)→sm f n = 0
 | 0,_ => rfl
 | n + 1,h => by
  simp only [sm]
  rw [sm_zero fun q hq => h q (by omega),h n (by omega)]; rfl
theorem none_costs {l : List TaiChoice} : costL l (List.replicate l.length (-1)) = 0:=by
 unfold costL
 refine sm_zero fun q hq => ?_
 rw [List.length_replicate] at hq
 unfold cf
 rw [getD_rep,if_pos hq]
 exact cst_no has_neg
theorem best_ok {l : List TaiChoice} (hl : OkL l) (h1 : 0 < l.length) (h8 : l.length ≤ 8) {b : Int} (b0 : 0 ≤ b) (b1 : b ≤ 4096) {k : Nat} (hk : 40 ≤ k) :
  ∃ x,p_knap_Best k l b = some x∧x.length = l.length∧FA l x∧costL l x ≤ b∧∀ z : List Int,z.length = l.length→FA l z→costL l z ≤ b→obj l z ≤ obj l x:=by
 unfold p_knap_Best
 have e1 : (if ((l.length : Int)) < 8 then ((l.length : Int)) else 8) = (l.length : Int):=by split <;> omega
 have e2 : ((l.length : Int) == 0) = false:=beq_eq_false_iff_ne.2 (by omega)
 have e3 : (if ((if 4096 < b then 4096 else b)) > 0 then ((if 4096 < b then 4096 else b)) else 0) = b:=by
  rw [if_neg (show ¬ 4096 < b by omega)]
  split <;> omega
 have e4 : mk 8 (0 : Int) (l.length : Int) = some (List.replicate l.length 0):=by
  unfold mk
  rw [if_pos ⟨by omega,by omega,by omega⟩]; rfl
 have e5 : decide ((0 : Int) < IntKind.wrap .i64 ((l.length : Int) - (l.length : Int))) = false:=by
  rw [Int.sub_self]; rfl
 rw [e1,e2,cond_false,sub_all rfl,Option.bind_some,e4,Option.bind_some,e3]
 have hp : Pre l b 0 b ⟨l,List.replicate l.length 0,[],[0,0,0,0],0⟩:=⟨⟨rfl,by simp,rfl,fun h => absurd rfl h⟩,by omega,fun q hq => by omega,b0,by simp [sm]⟩
 obtain ⟨s',r1,p⟩:=try_ok hl h1 h8 (by omega) l.length 0 k (by omega) (by omega) b _ hp
 have hc:=p.cov _ (by simp) (fun q hq => by omega) none_fits (by rw [none_costs]; exact b0)
 obtain ⟨c1,c2,c3,_,_⟩:=p.inv.best hc.1
 have r2 : p_knap_search_try k ⟨l,List.replicate l.length 0,[],[0,0,0,0],0⟩ 0 b = some s':=r1
 rw [r2,Option.bind_some,e5,cond_false]
 exact ⟨s'.best,rfl,c1,c2,c3,fun z h1 h2 h3 => (p.cov z h1 (fun q hq => by omega) h2 h3).2⟩
theorem known_64 : p_zl18_known 64 = some true:=by kernel_rfl
end Knap
end Go.Ev
namespace Go.Ev
open Go.Proofs
set_option linter.unusedVariables false
set_option linter.unusedSimpArgs false
set_option maxRecDepth 100000
noncomputable section
abbrev KT9:=Exit→Env→H→Option (List C × H)
variable (rec : CallF) (loop : LoopV) (σ : Stamp)
theorem zl18_KnapCosts_entry (x0 : V) (x1 : Int) (x2 : Int) (h : H) : cvBody G rec loop 12 σ [x0,(.p (.int .i64 x1)),(.p (.int .i64 x2))] h =
(callO rec 28 (1::0::1::0::σ) [x0,(.p (.int .i64 3))] (List.replicate 58 []::h) (some 12)).bind fun q1 =>
(bSV Try.prog 49 0 []).bind fun t2 =>
(apO false 3 56 (2::0::1::1::1::0::σ) 17 q1.2 t2 q1.1).bind fun q3 =>
(bSV Try.prog 24 1 [(0,(.p (.int .i64 0)))]).bind fun t4 =>
(bSV Try.prog 24 1 [(0,(.p (.int .i64 (IntKind.wrap .i64 (1 + (intBits .and .i64 x2 1023))))))]).bind fun t5 =>
(buildV Try.prog 60 [(0,(.p (.int .i64 3))),(1,t4),(2,t5)]).bind fun t6 =>
(bSV Try.prog 49 1 [(0,t6)]).bind fun t7 =>
(apO false 3 56 (10::0::1::1::1::0::σ) 25 q3.2 q3.1 t7).bind fun q8 =>
(callO rec 29 (2::0::1::1::1::1::0::σ) [q8.1,(.p (.int .i64 (intBits .and .i64 x1 31)))] q8.2 (some 28)).bind fun q9 =>
(lenO q9.1).bind fun t10 =>
(castI .i64 t10).bind fun n11 =>
(bif n11 == 4 then ((iS 1 q9.1 3).bind fun t12 =>
(ldO false 1 q9.2 t12).bind fun t13 =>
(castI .i64 t13).bind fun n14 =>
some (n14 == 0)) else (some false)).bind fun b15 =>
(bif b15 then ((callO rec 34 (12::0::1::1::1::1::1::0::σ) [q8.1,q9.1] q9.2 (some 41)).bind fun q16 =>
(castI .i64 q16.1).bind fun n17 =>
some ((.p (.bool (decide (n17 ≤ (intBits .and .i64 x1 31))))),q16.2)) else (some ((.p (.bool false)),q9.2))).bind fun q18 =>
(asB q18.1).bind fun b19 =>
(bif b19 then ((callO rec 32 (19::0::1::1::1::1::1::0::σ) [q8.1,q9.1] q18.2 (some 48)).bind fun q20 =>
(iAV 4 1 false 1 q20.1 3).bind fun t21 =>
(castI .i64 t21).bind fun n22 =>
some ((.p (.bool (decide (n22 ≥ (IntKind.wrap .i64 (1 + (intBits .and .i64 x2 1023))))))),q20.2)) else (some ((.p (.bool false)),q18.2))).bind fun q23 =>
(asB q23.1).bind fun b24 =>
(bif b24 then ((callO rec 31 (27::0::1::1::1::1::1::0::σ) [] q23.2 (some 56)).bind fun q25 =>
(asB q25.1).bind fun b26 =>
some ((.p (.bool b26)),q25.2)) else (some ((.p (.bool false)),q23.2))).bind fun q27 =>
(asB q27.1).bind fun b28 =>
fin false σ q27.2 [(.p (.bool b28))]:=by kernel_rfl
end
end Go.Ev
namespace Go.Ev
open Go.Proofs
set_option linter.unusedVariables false
set_option linter.unusedSimpArgs false
set_option maxRecDepth 100000
section
variable {β α : Type} {Q : β→α→Prop} {K : Exit × Env × H→Option α}
def p_zl18_KnapCosts (k : Nat) (x0 : (List Int)) (x1 : Int) (x2 : Int) : Option (Bool) :=
(p_zl18_row k x0 3).bind fun r1 =>
(ap 56 (([] : List TaiChoice)) r1).bind fun a11 =>
(ap 56 a11 ([((⟨3,([0]),([(IntKind.wrap .i64 (1 + (intBits .and .i64 x2 1023)))])⟩ : TaiChoice))])).bind fun a20 =>
(p_knap_Best k a20 (intBits .and .i64 x1 31)).bind fun r26 =>
(bif ((r26.length : Int)) == 4 then ((ix r26 3).bind fun a40 =>
some (a40 == 0)) else (some false)).bind fun b43 =>
(bif b43 then ((p_knap_Cost k a20 r26).bind fun r47 =>
some (decide (r47 ≤ (intBits .and .i64 x1 31)))) else (some false)).bind fun b52 =>
(bif b52 then ((p_knap_Good k a20 r26).bind fun r56 =>
(ix [((r56.getD 0 0)),((r56.getD 1 0)),((r56.getD 2 0)),((r56.getD 3 0))] 3).bind fun a63 =>
some (decide (a63 ≥ (IntKind.wrap .i64 (1 + (intBits .and .i64 x2 1023)))))) else (some false)).bind fun b65 =>
(bif b65 then ((p_zl18_known k).bind fun r69 =>
some r69) else (some false)).bind fun b74 =>
some (b74)
theorem zl18_KnapCosts_ok (k : Nat) {h : H} {σ : Stamp} (x0 : List Int) {u0 : V} (hu0 : SlF (dI .i64) x0 u0) (x1 : Int) (x2 : Int) : Sim (p_zl18_KnapCosts k x0 x1 x2) (ev G X0 12 σ [u0,(.p (.int .i64 x1)),(.p (.int .i64 x2))] h) (fun r s => s = ([.v (.p (.bool r))],h)):=by
 refine .ev rfl (Sim.ext (zl18_KnapCosts_entry _ _ _ _ _ _ _) ?_)
 rw [p_zl18_KnapCosts]
 have S0 : Fm 58 h [] [] [] (List.replicate 58 []::h):=Fm.start0
 refine .call (zl18_row_ok k x0 hu0 3) fun r1 cs2 H3 h4 q5 => ?_
 obtain ⟨v6,h7,q5⟩:=q5
 cases q5
 have h8 : SlF dTaiChoice ([] : List TaiChoice) (.fz [] 0 3 true):=SlF.lit (cs:=[]) RL.nil rfl rfl true
 refine .op (bldS pN (by kernel_rfl : _ = some (vOf h8))) ?_
 have S10:=S0.nil' dTaiChoice [] (e:=3) rfl
 refine .bd fun a11 h12 => ?_
 obtain ⟨v13,H14,e15,S16⟩:=S10.app (i:=0) (d:=17) (e:=3) (own:=false) (σ:=(2::0::1::1::1::0::σ)) rfl (h7.h (List.replicate 58 []::h)).y h12 rfl (by decide) (by decide) rfl
 refine .op (e15) ?_
 have h17:=SlF.int1 .i64 0
 refine .op (bldS (pC rfl pN) (by kernel_rfl : _ = some (vOf h17))) ?_
 have h18:=SlF.int1 .i64 (IntKind.wrap .i64 (1 + (intBits .and .i64 x2 1023)))
 refine .op (bldS (pC rfl pN) (by kernel_rfl : _ = some (vOf h18))) ?_
 refine .op (bldV (pC rfl (pC h17.still.cells (pC h18.still.cells pN))) (by kernel_rfl : _ = some (.agg [.p (.int .i64 3),.fz [(.p (.int .i64 0))] 1 1 true,.fz [(.p (.int .i64 (IntKind.wrap .i64 (1 + (intBits .and .i64 x2 1023)))))] 1 1 true]))) ?_
 have h19 : SlF dTaiChoice [((⟨3,([0]),([(IntKind.wrap .i64 (1 + (intBits .and .i64 x2 1023)))])⟩ : TaiChoice))] (.fz [(.p (.int .i64 3)),(.fz [(.p (.int .i64 0))] 1 1 true),(.fz [(.p (.int .i64 (IntKind.wrap .i64 (1 + (intBits .and .i64 x2 1023)))))] 1 1 true)] 1 3 true):=SlF.lit (cs:=[(.p (.int .i64 3)),(.fz [(.p (.int .i64 0))] 1 1 true),(.fz [(.p (.int .i64 (IntKind.wrap .i64 (1 + (intBits .and .i64 x2 1023)))))] 1 1 true)]) (RL.cons (show dTaiChoice.R ((⟨3,([0]),([(IntKind.wrap .i64 (1 + (intBits .and .i64 x2 1023)))])⟩ : TaiChoice)) [.p (.int .i64 3),.fz [(.p (.int .i64 0))] 1 1 true,.fz [(.p (.int .i64 (IntKind.wrap .i64 (1 + (intBits .and .i64 x2 1023)))))] 1 1 true] from (dTaiChoice.mk h17 h18)) RL.nil) rfl rfl true
 refine .op (bldS (pC (c:=[.p (.int .i64 3),.fz [(.p (.int .i64 0))] 1 1 true,.fz [(.p (.int .i64 (IntKind.wrap .i64 (1 + (intBits .and .i64 x2 1023)))))] 1 1 true]) rfl pN) (by kernel_rfl : _ = some (vOf h19))) ?_
 refine .bd fun a20 h21 => ?_
 obtain ⟨v22,H23,e24,S25⟩:=S16.app (i:=0) (d:=25) (e:=3) (own:=false) (σ:=(10::0::1::1::1::0::σ)) rfl (h19.h H14).y h21 rfl (by decide) (by decide) rfl
 refine .op (e24) ?_
 refine .call (knap_Best_ok k a20 (S25.sl (i:=0) rfl) (intBits .and .i64 x1 31)) fun r26 cs27 H28 h29 q30 => ?_
 obtain ⟨c31,cs32,h33,h34,q30⟩:=q30
 cases q30
 obtain ⟨v35,H36,e37,S38⟩:=S25.land (dt:=(dI .i64)) (d:=28) (e:=0) (n:=0) h33 h34 (by decide) rfl
 erw [e37]
 refine .op ((S38.sl (i:=0) rfl).len) ?_
 refine .ci ?_
 refine .ch (P:=fun r y => r = y) ?_ (fun b43 y44 h45 h46 => ?_)
 ·refine .cq ?_ ?_
  ·refine .bd fun a40 h41 => ?_
   refine .op ((S38.sl (i:=0) rfl).iS h41 rfl) ?_
   obtain ⟨_,rfl,hE42⟩:=(S38.sl (i:=0) rfl).el h41 rfl
   refine .op (hE42.ld (j:=0) rfl) ?_
   refine .ci ?_
   exact .ret rfl rfl
  ·exact .ret rfl rfl
 subst h46
 refine .ch (P:=fun r y => (.p (.bool r),H36) = y) ?_ (fun b52 y53 h54 h55 => ?_)
 ·refine .cq ?_ ?_
  ·refine .call (knap_Cost_ok k a20 (S38.sl (i:=1) rfl) r26 (S38.sl (i:=0) rfl)) fun r47 cs48 H49 h50 q51 => ?_
   cases q51
   refine .ci ?_
   exact .ret rfl rfl
  ·exact .ret rfl rfl
 subst h55
 refine .ab ?_
 refine .ch (P:=fun r y => (.p (.bool r),H36) = y) ?_ (fun b65 y66 h67 h68 => ?_)
 ·refine .cq ?_ ?_
  ·refine .call (knap_Good_ok k a20 (S38.sl (i:=1) rfl) r26 (S38.sl (i:=0) rfl)) fun r56 cs57 H58 h59 q60 => ?_
   obtain ⟨w61,h62,q60⟩:=q60
   cases q60
   obtain rfl : w61 = [(.p (.int .i64 ((r56.getD 0 0)))),(.p (.int .i64 ((r56.getD 1 0)))),(.p (.int .i64 ((r56.getD 2 0)))),(.p (.int .i64 ((r56.getD 3 0))))]:=dA_int h62
   refine .bd fun a63 h64 => ?_
   refine .op (iAV_ok (xs:=[((r56.getD 0 0)),((r56.getD 1 0)),((r56.getD 2 0)),((r56.getD 3 0))]) (f:=fun z => .p (.int .i64 z)) h64 rfl rfl) ?_
   refine .ci ?_
   exact .ret rfl rfl
  ·exact .ret rfl rfl
 subst h68
 refine .ab ?_
 refine .ch (P:=fun r y => (.p (.bool r),H36) = y) ?_ (fun b74 y75 h76 h77 => ?_)
 ·refine .cq ?_ ?_
  ·refine .call (zl18_known_ok k ) fun r69 cs70 H71 h72 q73 => ?_
   cases q73
   refine .ab ?_
   exact .ret rfl rfl
  ·exact .ret rfl rfl
 subst h77
 refine .ab ?_
 exact .fin (S38.finN (lC (sB _).lv lN)) rfl
end
end Go.Ev
namespace Go.Ev
namespace Knap
theorem and1023 (x : Int) : 0 ≤ intBits .and .i64 x 1023∧intBits .and .i64 x 1023 ≤ 1023:=by
 have a1 : intBits .and .i64 x 1023 = x % 2 ^ 10:=and_mask (n:=10) (m:=1023) _ rfl (by decide)
 rw [a1]; omega
theorem knapCosts_p (x0 : List Int) (x1 x2 : Int) : p_zl18_KnapCosts 64 x0 x1 x2 = some true:=by
 unfold p_zl18_KnapCosts
 obtain ⟨l,hr,hl3,hc⟩:=row_ok x0 (n:=3) (k:=64) (by omega) (by omega)
 have hr : p_zl18_row 64 x0 3 = some l:=hr
 obtain ⟨b0,b1⟩:=and31 x1
 obtain ⟨c0,c1⟩:=and1023 x2
 generalize intBits .and .i64 x1 31 = b at *
 rw [wrap_i64 (n:=1 + intBits .and .i64 x2 1023) (by omega) (by omega)]
 obtain ⟨g,hg⟩ : ∃ g,g = 1 + intBits .and .i64 x2 1023:=⟨_,rfl⟩
 rw [← hg]
 have oe : OkC ⟨3,[0],[g]⟩:=okC_of (by omega) (by omega) rfl (by simp) (by simp) (by simp; omega)
 obtain ⟨x,hx⟩ : ∃ x,x = l ++ [(⟨3,[0],[g]⟩ : TaiChoice)]:=⟨_,rfl⟩
 have hx4 : x.length = 4:=by rw [hx]; simp; omega
 have hl : OkL x:=okL_of fun c h => by
  rw [hx] at h
  rcases List.mem_append.1 h with h | h
  ·exact hc c h
  ·rw [List.mem_singleton.1 h]; exact oe
 have h3 : ch x 3 = ⟨3,[0],[g]⟩:=by
  unfold ch
  rw [hx,List.getD_eq_getElem?_getD,List.getElem?_append_right (by omega),hl3]; rfl
 obtain ⟨c,hb,cl,cf_,cc,cm⟩:=best_ok hl (by omega) (by omega) b0 (by omega) (k:=64) (by omega)
 have hp : c.getD 3 0 = 0:=by
  have f3:=cf_ 3 (by omega)
  rw [h3] at f3
  simp only [fitB,Bool.or_eq_true,beq_iff_eq,hasB,decide_eq_true_eq] at f3
  rcases f3 with f3 | f3
  ·exfalso
   have hset : ∀ q,(c.set 3 0).getD q 0 = if q = 3 then 0 else c.getD q 0:=fun q => getD_set (by omega)
   have hs : ∀ q,q < 3→(c.set 3 0).getD q 0 = c.getD q 0:=fun q hq => by rw [hset,if_neg (by omega)]
   have h30 : (c.set 3 0).getD 3 0 = 0:=by rw [hset,if_pos rfl]
   have sl : (c.set 3 0).length = 4:=by rw [List.length_set]; omega
   have fa : FA x (c.set 3 0):=fun q hq => by
    by_cases h : q = 3
    ·rw [h,h30,h3]; rfl
    ·rw [hset,if_neg h]; exact cf_ q hq
   have e1 : cf x (c.set 3 0) 3 = 0:=by unfold cf; rw [h30,h3]; rfl
   have e2 : cf x c 3 = 0:=by unfold cf; rw [f3,h3]; rfl
   have ec : costL x (c.set 3 0) = costL x c:=by
    unfold costL
    rw [sl,show c.length = 4 by omega]
    show sm _ 3 + cf x (c.set 3 0) 3 = sm _ 3 + cf x c 3
    rw [cost_congr hs,e1,e2]
   have eg : ∀ j,j ≠ 3→sm (gf x (c.set 3 0) j) (c.set 3 0).length = sm (gf x c j) c.length:=fun j hj => by
    rw [sl,show c.length = 4 by omega]
    show sm _ 3 + gf x (c.set 3 0) j 3 = sm _ 3 + gf x c j 3
    have n : ∀ z,gf x z j 3 = 0:=fun z => by
     unfold gf
     rw [h3]; exact if_neg fun h => hj h.symm
    rw [good_congr hs,n,n]
   have e3 : sm (gf x (c.set 3 0) 3) (c.set 3 0).length = sm (gf x c 3) c.length + g:=by
    rw [sl,show c.length = 4 by omega]
    show sm _ 3 + gf x (c.set 3 0) 3 3 = sm _ 3 + gf x c 3 3 + g
    have n1 : gf x (c.set 3 0) 3 3 = g:=by
     unfold gf
     rw [h30,h3]; rfl
    have n2 : gf x c 3 3 = 0:=by
     unfold gf
     rw [f3,h3]; rfl
    rw [good_congr hs,n1,n2,Int.add_zero]
   have:=cm _ (by omega) fa (by omega)
   have ok : obj x c < obj x (c.set 3 0):=by
    unfold obj key goodL
    rw [ec,eg 0 (by omega),eg 1 (by omega),eg 2 (by omega),e3]
    simp only [List.getD_cons_zero,List.getD_cons_succ]
    omega
   omega
  ·have : (([0] : List Int).length : Int) = 1:=rfl
   omega
 have gd : sm (gf x c 3) c.length ≥ g:=by
  rw [show c.length = 4 by omega]
  show sm _ 3 + gf x c 3 3 ≥ g
  have n1 : gf x c 3 3 = g:=by
   unfold gf
   rw [hp,h3]; rfl
  have:=(gf_bd hl c 3 3).1
  omega
 have hap : ap 56 l [(⟨3,[0],[g]⟩ : TaiChoice)] = some x:=by rw [ap_eq (by omega) (by simp; omega),hx]
 have hix : ix c 3 = some 0:=by rw [ix_get (d:=0) (by omega) (by omega)]; exact congrArg some hp
 have el : ((c.length : Int) == 4) = true:=by simp; omega
 have ig : ix [(goodL x c).getD 0 0,(goodL x c).getD 1 0,(goodL x c).getD 2 0,(goodL x c).getD 3 0] 3 = some (sm (gf x c 3) c.length):=rfl
 rw [hr,Option.bind_some,ap_eq (by omega) (by simp; omega),Option.bind_some,List.nil_append,hap,Option.bind_some,hb,Option.bind_some,el,cond_true,hix,cost_ok hl cl (by omega) (by omega),good_ok hl cl (by omega) (by omega)]
 simp only [Option.bind_some,beq_self_eq_true,cond_true]
 rw [decide_eq_true cc,cond_true,ig,Option.bind_some,decide_eq_true gd]
 simp only [Option.bind_some,cond_true,known_64]
end Knap
theorem knapCosts_ev (a0 : (DT.slice 8 (.int .i64)).D) (a1 a2 : Int) :
  ev G X0 12 [] [(DT.slice 8 (.int .i64)).val a0,(DT.int .i64).val a1,(DT.int .i64).val a2] [] = some ([.v (bV true)],[]):=by
 obtain ⟨_,h1,rfl⟩:=zl18_KnapCosts_ok 64 (h:=[]) (σ:=[]) (Option.getD a0 []) (slF_ints a0) a1 a2 _ (Knap.knapCosts_p _ a1 a2)
 exact h1
end Go.Ev
