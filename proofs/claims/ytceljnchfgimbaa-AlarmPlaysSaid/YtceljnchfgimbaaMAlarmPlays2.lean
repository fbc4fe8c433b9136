/- A part of the proof that follows: deadlines come as the document says, for any calls -/
import Derived.Test.YtceljnchfgimbaaMAlarmPlays1
import Derived.Laws.RangeAny
import Derived.Laws.Runes
import Derived.Test.YtceljnchfgimbaaRows
import Derived.ProofKit
import Derived.Tactics
import Derived.Tactics2
import Derived.StillTactics
import Derived.LoopTactic
import Derived.WalkKit
import Derived.Laws.Concat
import Derived.Laws.Strings
import Derived.Laws.Cover4
import Derived.OwnWalk
import Derived.Laws.AppendOwn
namespace Go.Ev
set_option linter.unusedVariables false
set_option linter.unusedSimpArgs false
section
variable {β α γ δ : Type} {x : Option β} {Q : β→α→Prop} {K : δ→Option α}
theorem Sim.as {A : Option γ} {g : γ→Option δ} (s : Sim x (A.bind fun v => (g v).bind K) Q) : Sim x ((A.bind g).bind K) Q:=by
 rw [Option.bind_assoc]; exact s
theorem Sim.ext {Y Y' : Option δ} (e : Y = Y') (s : Sim x (Y'.bind K) Q) : Sim x (Y.bind K) Q:=by rw [e]; exact s
theorem Sim.top {Y : Option α} (s : Sim x (Y.bind some) Q) : Sim x Y Q:=by cases Y <;> exact s
theorem Sim.pure {v : δ} (s : Sim x (K v) Q) : Sim x ((some v).bind K) Q:=s
end
theorem sM {o : Option H} {h : H} (e : o = some h) : (o.map fun h => ((udf : V),h)) = some (udf,h):=by rw [e]; rfl
theorem lN : ∀ x ∈ ([] : List V),Lv1 x:=fun _ h => by cases h
theorem lC {x : V} {xs : List V} (h : Lv1 x) (t : ∀ y ∈ xs,Lv1 y) : ∀ y ∈ x::xs,Lv1 y:=fun y hy => by
 rcases List.mem_cons.1 hy with rfl | hy
 ·exact h
 ·exact t y hy
def Ex (frz : Bool) (τ : Stamp) (j : Nat) (h : H) (xs : List V) (cs : List C) (h' : H) : Prop:=expCs frz τ j h xs = some (cs,h')
theorem Ex.nil {frz : Bool} {τ : Stamp} {j : Nat} {h : H} : Ex frz τ j h [] [] h:=rfl
theorem Ex.st {frz : Bool} {τ : Stamp} {j : Nat} {h h1 h' : H} {x : V} {c : C} {xs : List V} {cs : List C} (hx : expF frz (j::τ) h x = some (c,h1)) (t : Ex frz τ (j + 1) h1 xs cs h') : Ex frz τ j h (x::xs) (c::cs) h':=by
 unfold Ex at t ⊢; simp only [expCs,hx,Option.bind_some,t,Option.map_some]
section
variable {N : Nat} {h0 Hp : H} {B : List Rt} {Γ : List (Nat × Stamp × List C)} {Δ : List Gw}
theorem Fm.finE (S : Fm N h0 B Γ Δ Hp) {frz : Bool} {σ : Stamp} {H : Ev.H} {xs : List V} {cs : List C} (e : Ex frz (1::σ) 0 H xs cs Hp) : fin frz σ H xs = some (cs,pts h0 B):=by
 obtain ⟨L,rfl,_⟩:=S
 unfold Ex at e
 simp [fin,e]
theorem dead_ok {L : Layer} {d : Nat} (S : Fm N h0 B Γ Δ (L::pts h0 B)) (hf : (freeG Γ d && freeD Δ d) = true) (c : List C) : Fm N h0 B Γ Δ (L.set d c::pts h0 B):=by
 obtain ⟨L',he,h2,h3,h4,h5⟩:=S
 obtain ⟨rfl,_⟩:=List.cons.inj he
 simp only [Bool.and_eq_true] at hf
 refine ⟨_,rfl,by simpa using h2,h3,fun e he => ?_,fun g hg => ?_⟩
 ·rw [List.getElem?_set_ne (Ne.symm (freeG_ne hf.1 he))]; exact h4 e he
 ·exact (h5 g hg).frame fun x hx => by rw [List.getElem?_set_ne (fun e => freeD_ne hf.2 hg (by rw [e]; exact hx))]
theorem mem_one {D : List Nat} {Γ : List (Nat × Stamp × List C)} {Δ : List Gw} (hf : freeL D Γ Δ = true) {d : Nat} (hd : d ∈ D) : (freeG Γ d && freeD Δ d) = true:=List.all_eq_true.1 hf d hd
theorem Fm.expFrz (S : Fm N h0 B Γ Δ Hp) {i : Nat} {g : Gw} (hi : Δ[i]? = some g) (hf : freeL g.D Γ (Δ.eraseIdx i) = true) {τ : Stamp} : ∃ v H',expF true τ Hp g.v = some (.v v,H')∧SlF g.d g.xs v∧Fm N h0 B Γ (Δ.eraseIdx i) H':=by
 have S' : Fm N h0 B Γ (Δ.eraseIdx i) Hp:=S.wk (fun _ h => h) (fun _ h => mem_erase h)
 obtain ⟨L,rfl,h2,h3,h4,h5⟩:=S
 obtain ⟨cs,q1,q2⟩:=h5 g (List.mem_of_getElem? hi)
 rw [← pts_length B] at q2
 rcases q2 with ⟨e1,e2,e3⟩ | ⟨q2,d',hd',s,tl,hv,h6⟩ | ⟨hv,q2,_⟩
 ·refine ⟨g.v,_,?_,⟨cs,?_,q1⟩,S'⟩
  ·rcases e3 with e | e <;> rw [e]
   ·exact still_nilS.exp ..
   ·exact (still_fz ..).exp ..
  ·rw [e1,e2]
   rcases e3 with e | e <;> rw [e]
   ·exact .nil _
   ·exact .fz (by simp) _
 ·refine ⟨.fz cs g.xs.length g.d.sz false,_,?_,⟨cs,.fz q2 _,q1⟩,dead_ok S' (mem_one hf hd') (.dead::tl)⟩
  rw [hv,expF_frz h6 q2]
 ·exact ⟨g.v,_,by rw [hv]; exact (still_fz ..).exp ..,⟨cs,by rw [hv]; exact .fz q2 _,q1⟩,S'⟩
theorem Fm.expOwn (S : Fm N h0 B Γ Δ Hp) {i : Nat} {g : Gw} (hi : Δ[i]? = some g) (hD : noLit g.D = true) (hf : freeL g.D Γ (Δ.eraseIdx i) = true) {τ : Stamp} : ∃ c cs H',expF false τ Hp g.v = some (c,H')∧OwnS c g.d.sz g.xs.length cs∧g.d.L g.xs cs∧Fm N h0 B Γ (Δ.eraseIdx i) H':=by
 have S' : Fm N h0 B Γ (Δ.eraseIdx i) Hp:=S.wk (fun _ h => h) (fun _ h => mem_erase h)
 obtain ⟨L,rfl,h2,h3,h4,h5⟩:=S
 obtain ⟨cs,q1,q2⟩:=h5 g (List.mem_of_getElem? hi)
 rw [← pts_length B] at q2
 rcases q2 with ⟨e1,e2,e3⟩ | ⟨q2,d',hd',s,tl,hv,h6⟩ | ⟨_,_,_,hd⟩
 ·refine ⟨.v g.v,cs,_,?_,⟨by rw [e1,e2]; simp,.inl ⟨e1,e2,?_⟩⟩,q1,S'⟩
  ·rcases e3 with e | e <;> rw [e]
   ·exact still_nilS.exp ..
   ·exact (still_fz ..).exp ..
  ·rcases e3 with e | e <;> rw [e] <;> simp
 ·refine ⟨.arr s g.xs.length g.d.sz (cs.map .v),cs,_,?_,⟨q2,.inr ⟨s,rfl⟩⟩,q1,dead_ok S' (mem_one hf hd') (.dead::tl)⟩
  rw [hv,expF_arr h6 (by simpa using q2)]
 ·exact (noLit_no hD hd).elim
end
def fillC (places : Nat→Option (Nat × Nat)) (cells : List V) : List (Nat × List V)→Option (List V)
 | [] => some cells
 | (i,v)::rest =>
  match places i with
  | none => none
  | some (off,size) =>
   if v.length ≠ size ∨ off + v.length > cells.length then none
   else fillC places (cells.take off ++ v ++ cells.drop (off + v.length)) rest
theorem fillC_ok (places : Nat→Option (Nat × Nat)) : ∀ (parts : List (Nat × V)) (cells : List V),fillV places cells parts = fillC places cells (parts.map fun q => (q.1,q.2.cells))
 | [],cells => rfl
 | (i,v)::rest,cells => by
  simp only [fillV,fillC,List.map_cons]
  cases places i with
  | none => rfl
  | some q =>
   simp only
   split
   ·rfl
   ·exact fillC_ok places rest _
def buildC (P : Program) (t : TypeId) (parts : List (Nat × List V)) : Option V :=
 (tzero P t).bind fun zero =>
 match P.underlying t with
 | some (.struct fs) => if fs.toList.all (fun f => known P f.type) then (fillC (fun i => (fs[i]?).map fun f => (f.offset,tsize P f.type)) zero parts).map .agg else none
 | some (.array _ e) => if known P e then (fillC (fun i => some (i * tsize P e,tsize P e)) zero parts).map .agg else none
 | _ => none
def buildSliceC (P : Program) (t : TypeId) (len : Nat) (parts : List (Nat × List V)) : Option V :=
 (telem P t).bind fun e => (tzero P e).bind fun zero =>
 if zero.length ≠ tsize P e ∨ tsize P e = 0 ∨ len * tsize P e > 2 ^ 24 then none else
 (fillC (fun i => some (i * tsize P e,tsize P e)) (rept len zero) parts).map fun cs => .fz cs len (tsize P e) true
theorem bldV {P : Program} {t : TypeId} {parts : List (Nat × V)} {cs : List (Nat × List V)} {r : V} (hp : (parts.map fun q => (q.1,q.2.cells)) = cs) (hb : buildC P t cs = some r) : buildV P t parts = some r:=by
 rw [← hb,← hp]; unfold buildV buildC; simp only [fillC_ok]; rfl
theorem bldS {P : Program} {t : TypeId} {n : Nat} {parts : List (Nat × V)} {cs : List (Nat × List V)} {r : V} (hp : (parts.map fun q => (q.1,q.2.cells)) = cs) (hb : buildSliceC P t n cs = some r) : bSV P t n parts = some r:=by
 rw [← hb,← hp]; unfold bSV buildSliceC; simp only [fillC_ok]
theorem pN : (([] : List (Nat × V)).map fun q => (q.1,q.2.cells)) = []:=rfl
theorem pC {i : Nat} {v : V} {c : List V} {ps : List (Nat × V)} {cs : List (Nat × List V)} (h : v.cells = c) (t : (ps.map fun q => (q.1,q.2.cells)) = cs) : (((i,v)::ps).map fun q => (q.1,q.2.cells)) = (i,c)::cs:=by rw [List.map_cons,h,t]
def shP (op : BinOp) (k : IntKind) (a b : Int) : Option Int:=if b < 0 then none else match op with
 | .shl => some (k.wrap (a * 2 ^ min b.toNat k.bits))
 | .shr => some (a.fdiv (2 ^ min b.toNat k.bits))
 | _ => none
theorem shP_ok {op : BinOp} {k : IntKind} {a b n : Int} (h : shP op k a b = some n) : shiftV op k a b = some (.p (.int k n)):=by
 unfold shP at h; unfold shiftV
 split at h
 ·cases h
 ·rename_i h0
  rw [if_neg h0]
  split at h <;> cases h <;> rfl
def strB (xs : List Int) : ByteArray:=⟨(xs.map fun n => UInt8.ofNat n.toNat).toArray⟩
def bytesS (s : ByteArray) : List Int:=s.data.toList.map fun b => (b.toNat : Int)
def ixS (s : ByteArray) (i : Int) : Option Int:=if 0 ≤ i then (s[i.toNat]?).map fun b => (b.toNat : Int) else none
theorem ixS_ok {s : ByteArray} {i n : Int} (h : ixS s i = some n) : iStr s i = some (.p (.int .u8 n)):=by
 unfold ixS at h; unfold iStr
 split at h
 ·rename_i h0
  rw [if_pos h0]
  obtain ⟨b,hb,rfl⟩:=Option.map_eq_some_iff.1 h
  rw [hb]; rfl
 ·cases h
theorem RL.ints {k : IntKind} : ∀ {xs : List Int} {cs : List V},(dI k).L xs cs→cs = xs.map fun n => .p (.int k n)
 | [],cs,h => h
 | x::xs,cs,⟨a,b,h1,h2,h3⟩ => by
  have e : a = [.p (.int k x)]:=h2
  subst h1; subst e
  rw [RL.ints h3]; rfl
theorem RL.of_ints (k : IntKind) : ∀ (xs : List Int),(dI k).L xs (xs.map fun n => .p (.int k n))
 | [] => rfl
 | x::xs => .cons (show (dI k).R x [.p (.int k x)] from rfl) (RL.of_ints k xs)
theorem bytesOfV_ints : ∀ (xs : List Int),bytesOfV (xs.map fun n => .p (.int .u8 n)) = some (xs.map fun n => UInt8.ofNat n.toNat)
 | [] => rfl
 | x::xs => by simp [bytesOfV,bytesOfV_ints xs]
theorem SlH.str {h : H} {xs : List Int} {v : V} (hv : SlH h (dI .u8) xs v) : strO h v = some (.p (.string (strB xs))):=by
 obtain ⟨cs,h1,h2⟩:=hv
 have e:=RL.ints h2
 subst e
 have hl:=h1.sl
 unfold strO
 split
 ·simp [isSl] at hl
 ·simp only [toS,hl,h1.cells,h1.len,Option.bind_some,and_self,if_true]
  rw [if_pos (by simp),bytesOfV_ints]; rfl
theorem SlF.bytes (s : ByteArray) : SlF (dI .u8) (bytesS s) (.fz (s.data.toList.map fun b => .p (.int .u8 b.toNat)) s.size 1 false):=by
 have e : (bytesS s).map (fun n => V.p (.int .u8 n)) = s.data.toList.map fun b => .p (.int .u8 b.toNat):=by unfold bytesS; rw [List.map_map]; rfl
 have:=RL.of_ints .u8 (bytesS s)
 rw [e] at this
 refine SlF.lit this ?_ rfl false
 unfold bytesS; rw [List.length_map]; rfl
end Go.Ev
namespace Go.Ev
set_option linter.unusedVariables false
set_option linter.unusedSimpArgs false
theorem aN.{u} {α : Type u} {P : α→Prop} : ∀ x ∈ ([] : List α),P x:=fun _ h => by cases h
theorem aC.{u} {α : Type u} {P : α→Prop} {a : α} {l : List α} (h : P a) (t : ∀ x ∈ l,P x) : ∀ x ∈ a::l,P x:=fun x hx => by
 rcases List.mem_cons.1 hx with rfl | hx
 ·exact h
 ·exact t x hx
theorem aM.{u} {α : Type u} {a : α} {l : List α} (i : Nat) (h : l[i]? = some a) : a ∈ l:=List.mem_of_getElem? h
section
variable {N : Nat} {h0 Hp : H} {B : List Rt} {Γ Γ' : List (Nat × Stamp × List C)} {Δ Δ' : List Gw}
theorem Fm.wk2 (S : Fm N h0 B Γ Δ Hp) (hG : ∀ e ∈ Γ',e ∈ Γ) (hD : ∀ g ∈ Δ',∃ D,(∀ d ∈ D,d ∈ g.D)∧(⟨D,g.v,g.d,g.xs⟩ : Gw) ∈ Δ) : Fm N h0 B Γ' Δ' Hp:=by
 obtain ⟨L,h1,h2,h3,h4,h5⟩:=S
 refine ⟨L,h1,h2,h3,fun e he => h4 e (hG e he),fun g hg => ?_⟩
 obtain ⟨D,q1,q2⟩:=hD g hg
 obtain ⟨cs,r1,r2⟩:=h5 _ q2
 refine ⟨cs,r1,?_⟩
 rcases r2 with q | ⟨r2,d',hd',r⟩ | ⟨a1,a2,a3,d',hd',a4⟩
 ·exact .inl q
 ·exact .inr (.inl ⟨r2,d',q1 d' hd',r⟩)
 ·exact .inr (.inr ⟨a1,a2,a3,d',q1 d' hd',a4⟩)
theorem Fm.start1 {l : Loc} {off : Nat} {cs : List C} (ha : AtC h0 l off cs) : Fm N h0 [⟨l,off,cs⟩] [] [] (List.replicate N []::h0) :=
 Fm.start ⟨⟨cs,rfl,ha⟩,aN,trivial⟩ (aC ha aN)
end
end Go.Ev
namespace Go.Ev
section
variable {N : Nat} {h0 Hp : H} {B : List Rt} {Γ Γ' : List (Nat × Stamp × List C)} {Δ Δ' : List Gw}
theorem Fm.lowA (S : Fm N h0 [] Γ Δ Hp) {l : Loc} {off : Nat} {cs : List C} (ha : AtC h0 l off cs) : AtC Hp l off cs:=by
 obtain ⟨L,rfl,_⟩:=S
 exact ha.up L
theorem Fm.box1 (S : Fm N h0 B Γ Δ Hp) {d : Nat} {s : Stamp} {own : Bool} {x : V} (hx : Still x) (hd : d < N) (hf : (freeG Γ d && freeD Δ d) = true) : ∃ H',boxO own s d Hp x = some (.ref ⟨h0.length,d,0,s,[]⟩ 0,H')∧Fm N h0 B ((d,s,[x].map .v)::Γ) Δ H' :=
 ⟨_,by unfold boxO; rw [hx.cells,layCs_still own _ (sC hx sN)]; simp only [Option.bind_some]; rw [S.newLoc],S.add hd hf⟩
end
theorem Sim.clo {β α δ : Type} {x : Option β} {Q : β→α→Prop} {K : δ→Option α} {rec : CallF} {f : FuncId} {σ : Stamp} {args caps : List V} {H : H} {d : Option Nat} {g : V × Go.Ev.H→Option δ} (s : Sim x (((callO rec f σ (args ++ caps) H d).bind g).bind K) Q) : Sim x (((cloO rec (.clo f caps) σ args H d).bind g).bind K) Q:=s
def p_clone {α : Type} (b : Nat) (xs : List α) : Option (List α):=ap b [] xs
theorem clone_ok {G : Cfg} {X : CallF} {f n d e b t tt : Nat} {P : Program} {own : Bool} {τ : Stamp→Stamp} {α : Type} {dt : Dt α} {h : H} {σ : Stamp} {xs : List α} {x : V}
  (entry : ∀ (x : V) (h : H),cvBody G (ev G X) (cvL G X) f σ [x] h = (binV P (List.replicate n []::h) .eql t x (.p (.slice .none 0 0))).bind fun t1 => (asB t1).bind fun b2 => bif b2 then (fin false σ (List.replicate n []::h) [(.p (.slice .none 0 0))]) else ((bSV P t 0 []).bind fun t3 => (apO own e b (τ σ) d (List.replicate n []::h) t3 x).bind fun q4 => fin false σ q4.2 [q4.1]))
  (hx : SlH h dt xs x) (he : dt.sz = e) (hk : e ≠ 0) (hd : d < n) (hdd : d < 1000000) (hu : P.underlying t = some (.slice tt)) (hb : bSV P t 0 [] = some (.fz [] 0 e true)) (hX : X f σ [x] h = none) :
  Sim (p_clone b xs) (ev G X f σ [x] h) (fun r s => ∃ (c : C) (a : List V),OwnS c dt.sz r.length a∧dt.L r a∧s = ([c],h)):=by
 intro r hr
 have S0 : Fm n h [] [] [] (List.replicate n []::h):=Fm.start0
 have hn : ∀ (y : V),isSl y = true→y ≠ .p (.slice none 0 0)→binV P (List.replicate n []::h) .eql t y (.p (.slice none 0 0)) = some (.p (.bool false)):=fun y hy hne => by
  unfold isSl at hy
  split at hy
  ·exact absurd rfl hne
  ·simp [binV,eqlV,hu]
  ·simp [binV,eqlV,hu]
  ·cases hy
 have hnil : binV P (List.replicate n []::h) .eql t (.p (.slice none 0 0)) (.p (.slice none 0 0)) = some (.p (.bool true)):=by simp [binV,eqlV,hu]
 obtain ⟨⟨b1,b2⟩,hrr⟩:=ap_some hr
 obtain rfl : xs = r:=hrr.symm
 by_cases hnl : x = .p (.slice none 0 0)
 ·subst hnl
  obtain ⟨cs,q1,q2⟩:=hx
  have hlen:=q1.len
  simp only [lenOf,Option.some.injEq] at hlen
  have : xs = []:=List.length_eq_zero_iff.1 hlen.symm
  subst this
  refine ⟨_,ev_cv hX ?_,.v (.p (.slice none 0 0)),[],⟨by simp,.inl ⟨rfl,rfl,.inl rfl⟩⟩,rfl,rfl⟩
  rw [entry,hnil]
  simp only [Option.bind_some,asB_p,cond_true]
  exact fin_1 still_nilS
 ·have S1:=S0.nil' dt [] he
  have hsl : isSl x = true:=by obtain ⟨cs,q1,q2⟩:=hx; exact q1.sl
  obtain ⟨v,H1,e1,S2⟩:=S1.app (i:=0) (d:=d) (b:=b) (own:=own) (σ:=τ σ) (e:=e) rfl (S1.low hx).y hr he hk hd (by simp [freeL,freeG,freeD])
  obtain ⟨c,a,f1,f2,f3⟩:=S2.finOwn (i:=0) (σ:=σ) rfl (by simp [noLit]; omega)
  refine ⟨_,ev_cv hX ?_,c,a,f2,f3,rfl⟩
  rw [entry,hn x hsl hnl]
  simp only [Option.bind_some,asB_p,cond_false,hb]
  rw [e1]
  exact f1
end Go.Ev
namespace Go.Ev
set_option linter.unusedVariables false
set_option linter.unusedSimpArgs false
def SoC {α : Type} (d : Dt α) (xs : List α) (c : C) : Prop:=(∃ v,c = .v v∧SlF d xs v) ∨ ∃ s ws,c = .arr s xs.length d.sz (ws.map .v)∧d.L xs ws
theorem SoC.frz {α : Type} {d : Dt α} {xs : List α} {v : V} (h : SlF d xs v) : SoC d xs (.v v):=.inl ⟨v,rfl,h⟩
theorem SoC.own {α : Type} {d : Dt α} {xs : List α} {c : C} {ws : List V} (h : OwnS c d.sz xs.length ws) (hl : d.L xs ws) : SoC d xs c:=by
 obtain ⟨h1,⟨h2,h3,rfl | rfl⟩ | ⟨s,rfl⟩⟩:=h
 ·exact .inl ⟨_,rfl,ws,by rw [h2,h3]; exact .nil _,hl⟩
 ·exact .inl ⟨_,rfl,ws,by rw [h2,h3]; exact .fz (by simp) _,hl⟩
 ·exact .inr ⟨s,ws,rfl,hl⟩
def cellV (l : Loc) (o : Nat) (c : C) : V:=(toV l o c).getD udf
section
variable {α : Type} {h : H} {l : Loc} {off j : Nat} {cs : List C} {c : C} {d : Dt α} {xs : List α}
theorem SoC.ld (hc : SoC d xs c) (ha : AtC h l off cs) (hj : cs[j]? = some c) : ldO false 1 h (.ref l (off + j)) = some (cellV l (off + j) c):=by
 rcases hc with ⟨v,rfl,_⟩ | ⟨s,ws,rfl,_⟩
 ·exact ha.ldC hj rfl
 ·exact ha.ldC hj rfl
theorem SoC.sl (hc : SoC d xs c) (ha : AtC h l off cs) (hj : cs[j]? = some c) : SlH h d xs (cellV l (off + j) c):=by
 rcases hc with ⟨v,rfl,hv⟩ | ⟨s,ws,rfl,hl⟩
 ·exact hv.h h
 ·have hlen:=RL.length (fun h => d.len h) hl
  refine ⟨ws,.mk_sl (l:=l.hop (off + j) s) (ds:=ws.map .v) ?_ (by simp [hlen]) ?_ (Nat.le_refl _),hl⟩
  ·obtain ⟨p,q,hn,hp⟩:=ha.hop hj (s:=s) (ds:=ws.map .v) (by simp [C.node])
   have : p = []:=List.length_eq_zero_iff.1 hp
   subst this
   have hq:=ha.hop hj (s:=s) (ds:=ws.map .v) (by simp [C.node])
   obtain ⟨p,q,hn,hp⟩:=ha
   have hlt:=(List.getElem?_eq_some_iff.1 hj).1
   rw [nd_in hn (c:=.arr s xs.length d.sz (ws.map .v)) (ds:=ws.map .v)]
   ·rw [List.append_assoc,List.getElem?_append_right (by omega),show off + j - p.length = j by omega,List.getElem?_append_left hlt,hj]
   ·simp [C.node]
  ·rw [List.drop_zero,List.take_of_length_le (by simp [hlen]),toVs_plain]
end
section
variable {N : Nat} {h0 Hp : H} {B : List Rt} {Γ : List (Nat × Stamp × List C)} {Δ : List Gw}
theorem getElem_app {p cs q : List C} {off j : Nat} (hp : p.length = off) (hj : j < cs.length) : (p ++ cs ++ q)[off + j]? = cs[j]?:=by
 rw [List.append_assoc,List.getElem?_append_right (by omega),show off + j - p.length = j by omega,List.getElem?_append_left hj]
theorem at_killed {l : Loc} {off j : Nat} {cs : List C} {c : C} {s : Stamp} (ha : AtC Hp l off cs) (hj : cs[j]? = some c) (hc : (c.node s).isSome) : setAt Hp (l.hop (off + j) s) .dead = ptC Hp l off (cs.set j .dead):=by
 obtain ⟨p,q,hn,hp⟩:=ha
 have hlt:=(List.getElem?_eq_some_iff.1 hj).1
 have hcell : (p ++ cs ++ q)[off + j]? = some c:=by rw [getElem_app hp hlt,hj]
 rw [setAt_hop hn hcell,ptC_eq hn hp (by simp)]
 congr 1
 rw [List.append_assoc,List.set_append_right _ _ (by omega),List.set_append_left _ _ (by omega),← List.append_assoc]
 congr 3
 omega
structure Spot (N : Nat) (h0 : H) (Hp : H) (l : Loc) (off : Nat) (cs : List C) (T : List C→H→Prop) : Prop where
 at_ : AtC Hp l off cs
 put : ∀ cs',cs'.length = cs.length→T cs' (ptC Hp l off cs')
theorem app_cell {l : Loc} {off j d b e : Nat} {cs : List C} {c : C} {α : Type} {dt : Dt α} {xs ys zs : List α} {own : Bool} {σ : Stamp} {y : V}
  (ha : AtC Hp l off cs) (hj : cs[j]? = some c) (hc : SoC dt xs c) (hy : YsH Hp dt ys y) (hz : ap b xs ys = some zs) (hn : ys.length ≠ 0) (he : dt.sz = e) (hk : e ≠ 0) (hnt : ∀ v,c = .v v→v = .p (.slice none 0 0) ∨ v = .fz [] 0 e true) :
  ∃ ws s,dt.L zs ws∧∃ c',(c' = c ∨ c' = .dead)∧apO own e b σ d Hp (cellV l (off + j) c) y = some (.sl (newLoc Hp d s) 0 zs.length zs.length e,setSlot (ptC Hp l off (cs.set j c')) d [.arr s zs.length e (ws.map .v)]):=by
 subst he
 obtain ⟨⟨hb1,hb2⟩,rfl⟩:=ap_some hz
 obtain ⟨us,hu,hul⟩:=hy
 have hlt:=(List.getElem?_eq_some_iff.1 hj).1
 have same : ptC Hp l off (cs.set j c) = Hp:=by
  rw [show cs.set j c = cs from by rw [← (List.getElem?_eq_some_iff.1 hj).2]; exact List.set_getElem_self ..]
  exact ha.same
 have base : ∀ x,apO own dt.sz b σ d Hp x y = apTo dt.sz b σ d Hp ys.length (us.map .v) x:=fun x => by
  unfold apO
  rw [hu.len,hu.cells]
  simp only [Option.bind_some]
  rw [if_neg (by simp [hu.clen,hk]),if_neg hn,layCs_still own _ (RL.stills hul)]
  rfl
 rcases hc with ⟨v,rfl,hv⟩ | ⟨s,ws,rfl,hl⟩
 ·obtain ⟨vs,q1,q2⟩:=hv
  have hx0 : xs = []∧vs = []:=by
   rcases hnt v rfl with rfl | rfl
   ·have h1:=(q1 []).len
    simp only [lenOf,Option.some.injEq] at h1
    have h1 : xs = []:=List.length_eq_zero_iff.1 h1.symm
    subst h1
    exact ⟨rfl,by have:=(q1 []).clen; simpa using this⟩
   ·have h1:=(q1 []).len
    simp only [lenOf,Option.some.injEq] at h1
    have h1 : xs = []:=List.length_eq_zero_iff.1 h1.symm
    subst h1
    exact ⟨rfl,by have:=(q1 []).clen; simpa using this⟩
  obtain ⟨rfl,rfl⟩:=hx0
  refine ⟨us,σ,by simpa using hul,_,.inl rfl,?_⟩
  rw [base,same]
  rcases hnt v rfl with rfl | rfl
  ·simp only [cellV,toV,Option.getD_some,apTo]
   rw [if_pos ⟨by simpa using hb1,by simpa using hb2⟩]; simp
  ·simp only [cellV,toV,Option.getD_some,apTo]
   rw [if_pos ⟨trivial,trivial,by simp,by simpa using hb1,by simpa using hb2,by simp⟩]; simp
 ·refine ⟨ws ++ us,σ,hl.append hul,_,.inr rfl,?_⟩
  have hlen:=RL.length (fun h => dt.len h) hl
  have hnode : nd Hp (l.hop (off + j) s) = some (ws.map .v):=by
   obtain ⟨p,q,hn2,hp⟩:=ha
   exact nd_in hn2 (c:=.arr s xs.length dt.sz (ws.map .v)) (by rw [getElem_app hp hlt,hj]) (by simp [C.node])
  rw [base]
  simp only [cellV,toV,Option.getD_some,apTo]
  rw [if_neg (by simp),hnode]
  simp only [Option.bind_some]
  rw [if_neg (by omega),if_pos ⟨trivial,by simpa using hlen,hb1,hb2⟩,at_killed ha hj (by simp [C.node])]
  simp [newLoc,top,ptC_length]
theorem Fm.addArr (S : Fm N h0 B Γ Δ Hp) {α : Type} {dt : Dt α} {d e : Nat} {s : Stamp} {ws : List V} {xs : List α} (hl : dt.L xs ws) (he : dt.sz = e) (hd : d < N) (hf : (freeG Γ d && freeD Δ d) = true) :
  Fm N h0 B Γ (⟨[d],.sl ⟨h0.length,d,0,s,[]⟩ 0 xs.length xs.length e,dt,xs⟩::Δ) (setSlot Hp d [.arr s xs.length e (ws.map .v)]):=by
 subst he
 obtain ⟨L,rfl,h2,h3,h4,h5⟩:=S
 simp only [Bool.and_eq_true] at hf
 refine ⟨L.set d [.arr s xs.length dt.sz (ws.map .v)],rfl,by simpa using h2,h3,fun e he => ?_,fun g hg => ?_⟩
 ·rw [List.getElem?_set_ne (Ne.symm (freeG_ne hf.1 he))]; exact h4 e he
 ·rcases List.mem_cons.1 hg with rfl | hg
  ·exact ⟨ws,hl,.inr (.inl ⟨RL.length (fun h => dt.len h) hl,d,List.mem_singleton.2 rfl,s,[],rfl,by rw [List.getElem?_set_self (by omega)]⟩)⟩
  ·exact (h5 g hg).frame fun x hx => by rw [List.getElem?_set_ne (fun e => freeD_ne hf.2 hg (by rw [e]; exact hx))]
theorem Fm.appB (S : Fm N h0 B Γ Δ Hp) {i j d b e off : Nat} {l : Loc} {σ : Stamp} {cs : List C} {c : C} {α : Type} {dt : Dt α} {xs ys zs : List α} {own : Bool} {y : V}
  (hi : B[i]? = some ⟨l,off,cs⟩) (hj : cs[j]? = some c) (hc : SoC dt xs c) (hnt : ∀ v,c = .v v→v = .p (.slice none 0 0) ∨ v = .fz [] 0 e true) (hy : YsH Hp dt ys y) (hz : ap b xs ys = some zs) (hn : ys.length ≠ 0) (he : dt.sz = e) (hk : e ≠ 0) (hd : d < N)
  (hf2 : (freeG Γ d && freeD Δ d) = true) :
  ∃ v c' H',apO own e b σ d Hp (cellV l (off + j) c) y = some (v,H')∧Fm N h0 (B.set i ⟨l,off,cs.set j c'⟩) Γ (⟨[d],v,dt,zs⟩::Δ) H':=by
 obtain ⟨ws,s,hl,c',_,e1⟩:=app_cell (own:=own) (σ:=σ) (d:=d) (S.atB hi) hj hc hy hz hn he hk hnt
 refine ⟨_,c',_,e1,?_⟩
 rw [S.newLoc]
 exact (S.setB (cs:=cs.set j c') hi (by simp)).addArr hl he hd hf2
theorem mv_cell {l : Loc} {off j k : Nat} {cs : List C} {g : Gw} {σ : Stamp} (S : Fm N h0 B Γ Δ Hp) (hk : Δ[k]? = some g) (hD : noLit g.D = true) (hf : freeL g.D Γ (Δ.eraseIdx k) = true) (hloc : ∀ d ∈ g.D,∀ s,l.key ≠ (⟨h0.length,d,0,s,[]⟩ : Loc).key) (ha : AtC Hp l off cs) (hj : j < cs.length) :
  ∃ c ws H1,layC true Hp g.v = some (c,H1)∧stO true 1 σ Hp (.ref l (off + j)) g.v = some (ptC H1 l off (cs.set j c))∧OwnS c g.d.sz g.xs.length ws∧g.d.L g.xs ws∧AtC H1 l off cs∧Fm N h0 B Γ (Δ.eraseIdx k) H1:=by
 have S' : Fm N h0 B Γ (Δ.eraseIdx k) Hp:=S.wk (fun _ h => h) (fun _ h => mem_erase h)
 obtain ⟨L,rfl,h2,h3,h4,h5⟩:=S
 obtain ⟨ws,q1,q2⟩:=h5 g (List.mem_of_getElem? hk)
 have key : ∀ (v : V) (c : C) (H1 : H),v.cells = [v]→(∀ s n e ds,sameArr l (off + j) (some (.arr s n e ds)) v = false)→layC true (L::pts h0 B) v = some (c,H1)→AtC H1 l off cs→stO true 1 σ (L::pts h0 B) (.ref l (off + j)) v = some (ptC H1 l off (cs.set j c)):=fun v c H1 hv hs hl ha1 => by
  obtain ⟨p,q,hn,hp⟩:=ha
  obtain ⟨p1,q1',hn1,hp1⟩:=ha1
  have hsm : sameArr l (off + j) (p ++ cs ++ q)[off + j]? v = false:=by
   cases hx : (p ++ cs ++ q)[off + j]? with
   | none => rfl
   | some x =>
    cases x with
    | arr s n e ds => exact hs s n e ds
    | _ => rfl
  unfold stO
  simp only [hv,hn,hsm,Option.bind_some,layCs,hl]
  simp only [List.length_cons,List.length_nil,Bool.not_true,Bool.false_or,Nat.zero_add,bne_self_eq_false,Bool.false_eq_true,if_false,hn1,Option.bind_some]
  rw [if_pos (by simp; omega),set_take_drop _ _ _ (by simp; omega),ptC_eq hn1 hp1 (by simp)]
  congr 2
  rw [List.append_assoc,List.set_append_right _ _ (by omega),List.set_append_left _ _ (by omega),← List.append_assoc]
  congr 3
  omega
 rcases q2 with ⟨e1,e2,e3⟩ | ⟨q2,d',hd',s,tl,hv,h6⟩ | ⟨_,_,_,hd⟩
 ·refine ⟨.v g.v,ws,_,?_,key _ _ _ ?_ ?_ ?_ ha,⟨by rw [e1,e2]; simp,.inl ⟨e1,e2,?_⟩⟩,q1,ha,S'⟩
  all_goals rcases e3 with e | e <;> rw [e]
  all_goals first
   | rfl
   | (intro s n e' ds; rfl)
   | (exact .inl rfl)
   | (exact .inr rfl)
 ·have hr : rootC (L::pts h0 B) ⟨h0.length,d',0,s,[]⟩ = some (.arr s g.xs.length g.d.sz (ws.map .v)):=by simp [rootC,pts_length,h6]
  have hs : setRoot (L::pts h0 B) ⟨h0.length,d',0,s,[]⟩ .dead = L.set d' (.dead::tl)::pts h0 B:=by simp [setRoot,pts_length,h6]
  have hlay : layC true (L::pts h0 B) g.v = some (.arr s g.xs.length g.d.sz (ws.map .v),L.set d' (.dead::tl)::pts h0 B):=by
   rw [hv]; simp [layC,pts_length,hr,hs]
  have ha1 : AtC (L.set d' (.dead::tl)::pts h0 B) l off cs:=by
   obtain ⟨p,q,hn,hp⟩:=ha
   refine ⟨p,q,?_,hp⟩
   rw [← hs]
   have : (⟨h0.length,d',0,s,[]⟩ : Loc).key ≠ l.key:=Ne.symm (hloc d' hd' s)
   have e:=root_setRoot_ne (h:=L::pts h0 B) (l:=⟨h0.length,d',0,s,[]⟩) (l':=l) (c:=.dead) this
   rw [← hn]
   simp only [nd,at_,e]
  refine ⟨_,ws,_,hlay,key _ _ _ (by rw [hv]; rfl) ?_ hlay ha1,⟨q2,.inr ⟨s,rfl⟩⟩,q1,ha1,dead_ok S' (mem_one hf hd') (.dead::tl)⟩
  intro s' n' e' ds
  rw [hv]
  simp [sameArr,Loc.hop]
 ·exact (noLit_no hD hd).elim
theorem Fm.mvB (S : Fm N h0 B Γ Δ Hp) {i j k off : Nat} {l : Loc} {σ : Stamp} {cs : List C} {g : Gw} (hk : Δ[k]? = some g) (hD : noLit g.D = true) (hf : freeL g.D Γ (Δ.eraseIdx k) = true) (hi : B[i]? = some ⟨l,off,cs⟩) (hj : (cs[j]?).isSome = true) :
  ∃ c H',stO true 1 σ Hp (.ref l (off + j)) g.v = some H'∧SoC g.d g.xs c∧(∀ v,c = .v v→v = .p (.slice none 0 0) ∨ v = .fz [] 0 g.d.sz true)∧Fm N h0 (B.set i ⟨l,off,cs.set j c⟩) Γ (Δ.eraseIdx k) H':=by
 have hlt : j < cs.length:=by
  obtain ⟨y,hy⟩:=Option.isSome_iff_exists.1 hj
  exact (List.getElem?_eq_some_iff.1 hy).1
 have hlow : l.lvl < h0.length:=by
  obtain ⟨L,rfl,h2,h3,h4,h5⟩:=S
  have:=(h3.at hi).lt
  rwa [pts_length] at this
 obtain ⟨c,ws,H1,_,e1,o1,o2,a1,S1⟩:=mv_cell (σ:=σ) S hk hD hf (fun d hd s he => by
  simp only [Loc.key,Prod.mk.injEq] at he
  omega) (S.atB hi) hlt
 refine ⟨c,_,e1,SoC.own o1 o2,fun v hv => ?_,S1.setB hi (by simp)⟩
 obtain ⟨_,⟨_,_,h | h⟩ | ⟨s,h⟩⟩:=o1 <;> rw [hv] at h <;> cases h <;> simp
end
end Go.Ev
namespace Go.Ev
def FrC (c : C) (y : V) : Prop:=(c = .v y∧Still y) ∨ ∃ s n k ws,c = .arr s n k (ws.map .v)∧ws.length = n * k∧y = .fz ws n k false
def FrCs : List C→List V→Prop
 | [],[] => True
 | c::cs,y::ys => FrC c y∧FrCs cs ys
 | _,_ => False
theorem FrC.v {x : V} (h : Still x) : FrC (.v x) x:=.inl ⟨rfl,h⟩
theorem FrC.still {c : C} {y : V} (h : FrC c y) : Still y:=by
 rcases h with ⟨_,h⟩ | ⟨s,n,k,ws,_,_,rfl⟩
 ·exact h
 ·exact still_fz ..
theorem FrCs.len : ∀ {cs : List C} {ys : List V},FrCs cs ys→ys.length = cs.length
 | [],[],_ => rfl
 | c::cs,y::ys,⟨_,h⟩ => by simp [FrCs.len h]
 | [],_::_,h => by cases h
 | _::_,[],h => by cases h
theorem FrCs.stills : ∀ {cs : List C} {ys : List V},FrCs cs ys→Stills ys
 | [],[],_ => sN
 | c::cs,y::ys,⟨h1,h⟩ => sC h1.still (FrCs.stills h)
 | [],_::_,h => by cases h
 | _::_,[],h => by cases h
section
variable {N : Nat} {h0 Hp : H} {B : List Rt} {Γ : List (Nat × Stamp × List C)} {Δ : List Gw}
end
end Go.Ev
namespace Go.Ev
section
variable {N : Nat} {h0 Hp : H} {B : List Rt} {Γ : List (Nat × Stamp × List C)} {Δ : List Gw}
end
end Go.Ev
namespace Go.Ev
section
variable {N : Nat} {h0 Hp : H} {B : List Rt} {Γ : List (Nat × Stamp × List C)} {Δ : List Gw}
end
end Go.Ev
namespace Go.Ev
def andL : List Bool→Option Bool
 | [] => some true
 | b::bs => (some b).bind fun r => if r = true then andL bs else some false
def andB : List Bool→Bool
 | [] => true
 | b::bs => b && andB bs
theorem andL_ok : ∀ bs : List Bool,andL bs = some (andB bs)
 | [] => rfl
 | b::bs => by cases b <;> simp [andL,andB,andL_ok bs]
theorem eqS_v {P : Program} {h : H} {t : TypeId} {xs ys : List V} {b : Bool} (hb : flatE P t xs ys = some b) : eqlV P h t (.agg xs) (.agg ys) = some b:=by
 have hb0:=hb
 unfold flatE at hb
 split at hb
 ·rename_i fs hu
  simp only [eqlV,hu,hb0]
 ·rename_i n e hu
  simp only [eqlV,hu,hb0]
 ·cases hb
theorem eqS_ok {P : Program} {h : H} {t : TypeId} {xs ys : List V} {bs : List Bool} (hb : flatE P t xs ys = andL bs) : binV P h .eql t (.agg xs) (.agg ys) = some (.p (.bool (andB bs))):=by
 show (eqlV P h t (.agg xs) (.agg ys)).map _ = _
 rw [eqS_v (hb.trans (andL_ok bs))]; rfl
theorem nqS_ok {P : Program} {h : H} {t : TypeId} {xs ys : List V} {bs : List Bool} (hb : flatE P t xs ys = andL bs) : binV P h .neq t (.agg xs) (.agg ys) = some (.p (.bool !(andB bs))):=by
 show (eqlV P h t (.agg xs) (.agg ys)).map _ = _
 rw [eqS_v (hb.trans (andL_ok bs))]; rfl
end Go.Ev
namespace Go.Ev
section
variable {N : Nat} {h0 Hp : H} {B : List Rt} {Γ : List (Nat × Stamp × List C)} {Δ : List Gw}
end
end Go.Ev
namespace Go.Ev
section
variable {h : H} {l : Loc} {off j n : Nat} {cs : List C} {α : Type} {xs : List α} {f : α→V}
end
section
variable {N : Nat} {h0 Hp : H} {B : List Rt} {Γ : List (Nat × Stamp × List C)} {Δ : List Gw}
end
end Go.Ev
namespace Go.Ev
theorem rl_val {t : DT} {α : Type} {d : Dt α} (f : t.D→α) (hc : ∀ x,d.R (f x) (t.cells x)) : ∀ l : List t.D,d.L (l.map f) (l.flatMap t.cells)
 | [] => RL.nil
 | x::l => by
  rw [List.map_cons,List.flatMap_cons]
  exact RL.cons (hc x) (rl_val f hc l)
theorem slF_val {b : Nat} {t : DT} {α : Type} {d : Dt α} (f : t.D→α) (hc : ∀ x,d.R (f x) (t.cells x)) (hz : d.sz = t.size) (x : Option (List t.D)) : SlF d ((x.getD []).map f) ((DT.slice b t).val x):=by
 refine ⟨(x.getD []).flatMap t.cells,?_,rl_val f hc _⟩
 rw [hz,List.length_map]
 exact fun h => isSl_val x h
def StN (x : V) (nv : List V) : Prop:=∀ (own : Bool) (σ : Stamp) (h : H) (l : Loc) (cs : List C) (o : Nat),nd h l = some cs→o + nv.length ≤ cs.length→stO own nv.length σ h (.ref l o) x = some (setNd h l (cs.take o ++ nv.map .v ++ cs.drop (o + nv.length)))
theorem stN_agg {xs : List V} (hx : Stills xs) : StN (.agg xs) xs:=fun _ _ _ _ _ _ hn ho => stO_agg hx hn ho
end Go.Ev
namespace Go.Ev
theorem ap_eq {α : Type} {b : Nat} {xs ys : List α} (hb : b ≤ 64) (h : xs.length + ys.length < 2 ^ 40) : ap b xs ys = some (xs ++ ys):=by
 unfold ap
 refine if_pos ⟨?_,by omega⟩
 have : (xs.length + ys.length) * b ≤ (xs.length + ys.length) * 64:=Nat.mul_le_mul_left _ hb
 omega
theorem clone_eq {α : Type} {b : Nat} {xs : List α} (hb : b ≤ 64) (h : xs.length < 2 ^ 40) : p_clone b xs = some xs:=by
 unfold p_clone; rw [ap_eq hb (by simpa using h)]; rfl
theorem wrap_i64 {n : Int} (h1 : -9223372036854775808 ≤ n) (h2 : n < 9223372036854775808) : IntKind.wrap .i64 n = n:=wrap64 h1 h2
end Go.Ev
namespace Go.Ev
def OwnA {α : Type} (D : List Nat) (h : H) (dt : Dt α) (xs : List α) (v : V) : Prop:=∃ cs L h1,h = L::h1∧dt.L xs cs∧GrowS D L h1.length v dt.sz xs.length cs
def KillA (D : List Nat) (h h' : H) : Prop:=∃ L L' h1,h = L::h1∧h' = L'::h1∧L'.length = L.length∧∀ j,j ∉ D→L'[j]? = L[j]?
theorem OwnA.h {α : Type} {D : List Nat} {h : H} {dt : Dt α} {xs : List α} {v : V} (ho : OwnA D h dt xs v) : SlH h dt xs v:=by
 obtain ⟨cs,L,h1,rfl,hl,hg⟩:=ho
 exact ⟨cs,hg.sl,hl⟩
theorem OwnA.refl {α : Type} {D : List Nat} {h : H} {dt : Dt α} {xs : List α} {v : V} (ho : OwnA D h dt xs v) : KillA D h h:=by
 obtain ⟨cs,L,h1,rfl,_,_⟩:=ho
 exact ⟨L,L,h1,rfl,rfl,rfl,fun _ _ => rfl⟩
theorem GrowS.copy {D : List Nat} {L : Layer} {h : H} {v : V} {k n : Nat} {xs : List V} (ha : GrowS D L h.length v k n xs) (hD : noLit D = true) {a b m : Nat} (hab : a ≤ b) (hb : b ≤ n) {y : V} {ys : List V} (hy : IsSl (L::h) y k m ys) (hs : Stills ys) :
  ∃ L',cpO k (L::h) (subV k v a b) y = some (.p (.int .i64 ((min m (b - a) : Nat) : Int)),L'::h)∧GrowS D L' h.length v k n (xs.take (a * k) ++ ys.take (min m (b - a) * k) ++ xs.drop (a * k + min m (b - a) * k))∧L'.length = L.length∧∀ j,j ∉ D→L'[j]? = L[j]?:=by
 have hyl:=hy.clen
 by_cases h0 : min m (b - a) = 0
 ·refine ⟨L,?_,?_,rfl,fun j _ => rfl⟩
  ·have h1:=(ha.sl.sub hab hb).len
   have hsl : isSl (subV k v a b) = true:=by
    rcases ha with ⟨_,_,rfl | rfl⟩ | ⟨_,_,_,_,_,rfl,_⟩ | ⟨rfl,_⟩ <;> rfl
   unfold cpO
   rw [h1,Option.bind_some,hy.len,Option.bind_some,hy.cells,Option.bind_some,if_neg (by rw [hyl]; simp),if_neg (by rw [hsl]; simp),if_pos h0,h0]
   rfl
  ·rw [h0,Nat.zero_mul,List.take_zero,List.append_nil,Nat.add_zero,List.take_append_drop]
   exact ha
 ·rcases ha with ⟨rfl,_,_⟩ | ⟨h2,d',hd',s,tl,rfl,h3⟩ | ⟨_,_,_,hd⟩
  ·omega
  ·generalize hq : min m (b - a) = q at h0 ⊢
   have hlt:=(List.getElem?_eq_some_iff.1 h3).1
   have hqk : q * k ≤ m * k:=Nat.mul_le_mul_right _ (by omega)
   have hqb : a * k + q * k ≤ n * k:=by rw [← Nat.add_mul]; exact Nat.mul_le_mul_right _ (by omega)
   have hyt : (ys.take (q * k)).length = q * k:=by rw [List.length_take,hyl]; omega
   have hst : Stills (ys.take (q * k)):=fun x hx => hs x (List.mem_of_mem_take hx)
   have hlen : (xs.take (a * k) ++ ys.take (q * k) ++ xs.drop (a * k + q * k)).length = n * k:=by
    rw [List.length_append,List.length_append,hyt,List.length_take,List.length_drop]; omega
   refine ⟨L.set d' (.arr s n k ((xs.take (a * k) ++ ys.take (q * k) ++ xs.drop (a * k + q * k)).map .v)::tl),?_,.inr (.inl ⟨hlen,d',hd',s,tl,rfl,by simp [hlt]⟩),by simp,fun j hj => ?_⟩
   ·unfold cpO
    rw [subV,hy.len,hy.cells]
    simp only [lenOf,Option.bind_some]
    rw [if_neg (by rw [hyl]; simp),if_neg (by simp [isSl]),if_neg (by rw [hq]; exact h0),if_pos (by simp [eszIs]),hq]
    simp only [cpO.ovO]
    rw [if_neg (by rw [hyt]; omega),layCs_still true (L::h) hst,Option.bind_some,nd_arr h3,Option.bind_some]
    simp only [List.length_map,hyt]
    rw [if_pos (by omega),setNd_arr h3,Option.map_some]
    simp [List.map_take,List.map_drop]
   ·rw [List.getElem?_set_ne (fun e => hj (by rw [← e]; exact hd'))]
  ·exact (noLit_no hD hd).elim
abbrev vOf {α : Type} {d : Dt α} {xs : List α} {v : V} (_ : SlF d xs v) : V:=v
section
variable {β α γ δ : Type} {Q : β→α→Prop} {x : Option β} {K : δ→Option α}
theorem Sim.ci {k : IntKind} {n : Int} {f : Int→Option δ} (s : Sim x ((f n).bind K) Q) : Sim x (((castI k (.p (.int k n))).bind f).bind K) Q:=Sim.op (castI_p _ _) s
theorem Sim.ab {b : Bool} {f : Bool→Option δ} (s : Sim x ((f b).bind K) Q) : Sim x (((asB (.p (.bool b))).bind f).bind K) Q:=Sim.op (asB_p _) s
theorem Sim.nc {l : Loc} {o : Nat} {f : V→Option δ} (s : Sim x ((f (.ref l o)).bind K) Q) : Sim x (((nilChk (.ref l o)).bind f).bind K) Q:=Sim.op (nilChk_ref _ _) s
theorem Sim.fa {l : Loc} {o k : Nat} {f : V→Option δ} (s : Sim x ((f (.ref l (o + k))).bind K) Q) : Sim x (((fA (.ref l o) k).bind f).bind K) Q:=Sim.op (fA_ref _ _ _) s
theorem Sim.or {v : γ} {g : γ→Option δ} (s : Sim x ((g v).bind K) Q) : Sim x (((some v).bind g).bind K) Q:=s
theorem Sim.cq {c : Bool} {a b : Option β} {A B : Option δ} (s : Sim a (A.bind K) Q) (t : Sim b (B.bind K) Q) : Sim (bif c then a else b) ((bif c then A else B).bind K) Q:=Sim.cd (fun _ => s) (fun _ => t)
end
abbrev Nn (c : C) (k : Nat) : Prop:=∀ v,c = .v v→v = .p (.slice none 0 0) ∨ v = .fz [] 0 k true
end Go.Ev
namespace Go.Ev
def Nq (c : C) (k : Nat) : Prop:=c = .v (.p (.slice none 0 0)) ∨ ∃ s n ws,c = .arr s (n + 1) k ws
def neO {α : Type} (xs : List α) : Option Unit:=if xs.isEmpty then none else some ()
theorem Nq.nil {k : Nat} : Nq (.v (.p (.slice none 0 0))) k:=.inl rfl
theorem Nq.nn {c : C} {k : Nat} (h : Nq c k) : Nn c k:=fun v e => by
 rcases h with h | ⟨s,n,ws,h⟩
 ·rw [h] at e; cases e; exact .inl rfl
 ·rw [h] at e; cases e
theorem SlF.nil_len {α : Type} {d : Dt α} {xs : List α} {v : V} (h : SlF d xs v) (hv : v = .p (.slice none 0 0) ∨ v = .fz [] 0 d.sz true) : xs = []:=by
 obtain ⟨cs,h1,h2⟩:=h
 have h3:=(h1 []).len
 rcases hv with rfl | rfl
 ·exact List.eq_nil_of_length_eq_zero (Option.some.inj h3).symm
 ·exact List.eq_nil_of_length_eq_zero (Option.some.inj h3).symm
theorem Nq.mk {α : Type} {d : Dt α} {xs : List α} {c : C} {k : Nat} {u : Unit} (hS : SoC d xs c) (nt : Nn c k) (hk : d.sz = k) (hne : neO xs = some u) : Nq c k:=by
 unfold neO at hne
 rcases hS with ⟨v,rfl,hv⟩ | ⟨s,ws,rfl,_⟩
 ·have:=hv.nil_len (by rw [hk]; exact nt v rfl)
  subst this
  cases hne
 ·cases xs with
  | nil => cases hne
  | cons x xs => exact .inr ⟨s,xs.length,_,by rw [hk]; rfl⟩
section
variable {N : Nat} {h0 Hp : H} {B : List Rt} {Γ : List (Nat × Stamp × List C)} {Δ : List Gw}
theorem Fm.expG (S : Fm N h0 B Γ Δ Hp) {i d : Nat} {s : Stamp} {cs : List C} (hi : Γ[i]? = some (d,s,cs)) (hf : (freeG (Γ.eraseIdx i) d && freeD Δ d) = true) {frz : Bool} {τ : Stamp} :
  ∃ H',expF frz τ Hp (.ref ⟨h0.length,d,0,s,[]⟩ 0) = some (.own s cs,H')∧Fm N h0 B (Γ.eraseIdx i) Δ H':=by
 have S' : Fm N h0 B (Γ.eraseIdx i) Δ Hp:=S.wk (fun _ h => mem_erase h) (fun _ h => h)
 obtain ⟨L,rfl,h2,h3,h4,h5⟩:=S
 have h6:=h4 _ (List.mem_of_getElem? hi)
 simp only at h6
 have hlt:=(List.getElem?_eq_some_iff.1 h6).1
 have ht : top (L::pts h0 B) = h0.length:=by simp [top,pts_length]
 have hr : rootC (L::pts h0 B) ⟨h0.length,d,0,s,[]⟩ = some (.own s cs):=by
  simp [rootC,pts_length,h6]
 have ha : at_ (L::pts h0 B) ⟨h0.length,d,0,s,[]⟩ = some (.own s cs):=by
  simp [at_,hr,find,C.node]
 refine ⟨L.set d [.dead]::pts h0 B,?_,dead_ok S' hf [.dead]⟩
 have hs : setAt (L::pts h0 B) ⟨h0.length,d,0,s,[]⟩ .dead = L.set d [.dead]::pts h0 B:=by
  simp [setAt,hr,repl,setRoot,pts_length,h6]
 cases frz <;> simp only [expF,expC,ht,ha,hs,if_true]
theorem Fm.landG (S : Fm N h0 B Γ Δ Hp) {d : Nat} {s : Stamp} {cs : List C} (hd : d < N) (hf : (freeG Γ d && freeD Δ d) = true) :
  ∃ H',Ev.land Hp (some d) [.own s cs] = (.ref ⟨h0.length,d,0,s,[]⟩ 0,H')∧Fm N h0 B ((d,s,cs)::Γ) Δ H':=by
 refine ⟨_,?_,S.add hd hf⟩
 obtain ⟨L,rfl,_⟩:=S
 simp [Ev.land,resVs,tupV,allPlain,top,pts_length]
end
theorem Dt.setL {α : Type} {d : Dt α} {xs zs : List α} {cs : List V} (q1 : d.L xs cs) {k : Int} {old x : α} (ho : ix xs k = some old) (hz : stx xs k x = some zs) {off : Nat} {nv : List V} (hoff : off + nv.length ≤ d.sz)
  (hx : ∀ ws,d.R old ws→d.R x (ws.take off ++ nv ++ ws.drop (off + nv.length))) : d.L zs (cs.take (k.toNat * d.sz + off) ++ nv ++ cs.drop (k.toNat * d.sz + off + nv.length))∧k.toNat * d.sz + off + nv.length ≤ cs.length:=by
 obtain ⟨⟨hk0,hk1⟩,rfl⟩:=stx_some hz
 have hcl:=RL.length (fun h => d.len h) q1
 obtain ⟨_,hix,hold⟩:=ix_some ho
 obtain ⟨ws,hR,hw⟩:=RL.get (fun h => d.len h) q1 hix
 rw [hold] at hR
 have hwl:=d.len hR
 have hin : k.toNat * d.sz + d.sz ≤ cs.length:=by
  have:=Nat.mul_le_mul_right d.sz (Nat.succ_le_of_lt hix)
  rw [Nat.succ_mul] at this; omega
 refine ⟨?_,by omega⟩
 have:=RL.set (k:=d.sz) (fun h => d.len h) (i:=k.toNat) (y:=x) q1 hix (hx ws hR)
 have hsplit : cs = cs.take (k.toNat * d.sz) ++ (ws ++ cs.drop (k.toNat * d.sz + d.sz)):=by
  rw [← hw,← List.drop_drop,List.take_append_drop,List.take_append_drop]
 have hA : (cs.take (k.toNat * d.sz)).length = k.toNat * d.sz:=by rw [List.length_take]; omega
 generalize cs.take (k.toNat * d.sz) = A at hsplit hA this
 generalize cs.drop (k.toNat * d.sz + d.sz) = Bc at hsplit this
 rw [hsplit]
 rw [List.take_append,List.take_append,List.drop_append,List.drop_append,hA,hwl]
 rw [List.take_of_length_le (l:=A) (by omega),List.drop_of_length_le (l:=A) (by omega)]
 have t1 : k.toNat * d.sz + off - k.toNat * d.sz = off:=by omega
 have t2 : k.toNat * d.sz + off + nv.length - k.toNat * d.sz = off + nv.length:=by omega
 have t3 : off - d.sz = 0:=by omega
 have t4 : off + nv.length - d.sz = 0:=by omega
 rw [t1,t2,t3,t4,List.take_zero,List.drop_zero,List.append_nil,List.nil_append]
 simp only [List.append_assoc] at this ⊢
 exact this
theorem Dt.whole {α : Type} {d : Dt α} {old x : α} {nv : List V} {n : Nat} (hR : d.R x nv) (hn : d.sz = n) : ∀ ws,d.R old ws→d.R x (ws.take 0 ++ nv ++ ws.drop (0 + n)):=fun ws hw => by
 have:=d.len hw
 rw [List.take_zero,List.nil_append,Nat.zero_add,List.drop_of_length_le (by omega),List.append_nil]
 exact hR
section
variable {N : Nat} {h0 Hp : H} {B : List Rt} {Γ : List (Nat × Stamp × List C)} {Δ : List Gw}
end
end Go.Ev
namespace Go.Ev
section
variable {N : Nat} {h0 Hp : H} {B : List Rt} {Γ : List (Nat × Stamp × List C)} {Δ : List Gw}
end
end Go.Ev
namespace Go.Ev
def SlU {α : Type} (m : Nat) (h : H) (d : Dt α) (xs : List α) (v : V) : Prop:=m ≤ h.length∧SlH (h.drop (h.length - m)) d xs v
theorem SlH.ups {α : Type} {d : Dt α} {xs : List α} {v : V} : ∀ (k : Nat) {h : H},SlH (h.drop k) d xs v→SlH h d xs v
 | 0,_,hv => hv
 | k + 1,[],hv => by simpa using hv
 | k + 1,L::h,hv => by
  obtain ⟨cs,q1,q2⟩:=SlH.ups k (h:=h) (by simpa using hv)
  exact ⟨cs,q1.up L,q2⟩
theorem SlU.sl {α : Type} {m : Nat} {h : H} {d : Dt α} {xs : List α} {v : V} (hu : SlU m h d xs v) : SlH h d xs v:=SlH.ups _ hu.2
theorem SlH.cells {α : Type} {h : H} {d : Dt α} {xs : List α} {v : V} (hv : SlH h d xs v) : v.cells = [v]:=by
 obtain ⟨cs,q1,_⟩:=hv
 rcases q1.cases with ⟨rfl,_,_⟩ | ⟨t,rfl⟩ | ⟨l,off,av,ds,rfl,_⟩ <;> rfl
section
variable {N : Nat} {h0 Hp : H} {B : List Rt} {Γ : List (Nat × Stamp × List C)} {Δ : List Gw} {α : Type} {d : Dt α} {xs : List α} {v : V} {m : Nat}
end
end Go.Ev
namespace Go.Ev
def WL (l : Loc) (off : Nat) {α : Type} (d : Dt α) (xs : List α) (v : V) (cs : List C) : Prop:=∃ ws a,cs = ws.map .v∧d.L xs ws∧v = .sl l off xs.length a d.sz∧xs.length ≤ a
theorem WL.len {l : Loc} {off : Nat} {α : Type} {d : Dt α} {xs : List α} {v : V} {cs : List C} (h : WL l off d xs v cs) : cs.length = xs.length * d.sz:=by
 obtain ⟨ws,a,rfl,h2,_⟩:=h
 rw [List.length_map]; exact RL.length (fun h => d.len h) h2
theorem WL.same {l : Loc} {off : Nat} {α : Type} {d : Dt α} {xs ys : List α} {v : V} {cs cs' : List C} (h : WL l off d xs v cs) (h' : WL l off d ys v cs') : cs'.length = cs.length:=by
 rw [h.len,h'.len]
 obtain ⟨_,_,_,_,e,_⟩:=h
 obtain ⟨_,_,_,_,e',_⟩:=h'
 rw [e] at e'
 injection e' with _ _ e1
 rw [e1]
theorem WL.sl {H : Ev.H} {l : Loc} {off : Nat} {α : Type} {d : Dt α} {xs : List α} {v : V} {cs : List C} (ha : AtC H l off cs) (h : WL l off d xs v cs) : SlH H d xs v:=by
 have hlen:=h.len
 obtain ⟨ws,a,rfl,h2,rfl,h4⟩:=h
 obtain ⟨p,q,hn,hp⟩:=ha
 refine ⟨ws,.mk_sl hn (by simp only [List.length_append,hlen]; omega) ?_ h4,h2⟩
 rw [← hlen,← hp,List.append_assoc,List.drop_left,List.take_left,toVs_plain]
theorem AtC.stN {H : Ev.H} {l : Loc} {off : Nat} {cs : List V} (ha : AtC H l off (cs.map .v)) {own : Bool} {σ : Stamp} {x : V} {nv : List V} {j : Nat} (hst : StN x nv) (hj : j + nv.length ≤ cs.length) :
  stO own nv.length σ H (.ref l (off + j)) x = some (ptC H l off ((cs.take j ++ nv ++ cs.drop (j + nv.length)).map .v)):=by
 obtain ⟨p,q,hn,hp⟩:=ha
 rw [hst own σ H l _ (off + j) hn (by simp only [List.length_append,List.length_map]; omega),ptC_eq hn hp (by simp only [List.length_map,List.length_append,List.length_take,List.length_drop]; omega)]
 congr 2
 simp only [List.map_append,List.map_take,List.map_drop]
 rw [List.append_assoc p,List.take_append,List.take_of_length_le (l:=p) (by omega),List.drop_append,List.drop_of_length_le (l:=p) (by omega),List.nil_append,hp,Nat.add_sub_cancel_left,Nat.add_assoc,Nat.add_sub_cancel_left,List.take_append_of_le_length (by simp only [List.length_map]; omega),List.drop_append_of_le_length (by simp only [List.length_map]; omega)]
 simp only [List.append_assoc]
def KN (v : V) (l : Loc) : Prop:=∀ l' o n a e,v = .sl l' o n a e→l'.key ≠ l.key
section
variable {N : Nat} {h0 Hp : H} {B : List Rt} {Γ : List (Nat × Stamp × List C)} {Δ : List Gw} {α : Type} {d : Dt α} {xs zs : List α} {v : V}
theorem Fm.slW (S : Fm N h0 B Γ Δ Hp) {i off : Nat} {l : Loc} {cs : List C} (hi : B[i]? = some ⟨l,off,cs⟩) (hw : WL l off d xs v cs) : SlH Hp d xs v:=hw.sl (S.atB hi)
theorem Fm.setW (S : Fm N h0 B Γ Δ Hp) {i o n off e : Nat} {l : Loc} {cs : List C} {own : Bool} {σ : Stamp} {k : Int} {old x : α} {nv : List V} {xv : V} (hi : B[i]? = some ⟨l,off,cs⟩) (hw : WL l off d xs v cs)
  (ho : ix xs k = some old) (hz : stx xs k x = some zs) (he : d.sz = e) (hn : nv.length = n) (hoff : o + n ≤ e) (hst : StN xv nv) (hx : ∀ ws,d.R old ws→d.R x (ws.take o ++ nv ++ ws.drop (o + n))) :
  ∃ cs' H',stO own n σ Hp (adr v (k.toNat * e + o)) xv = some H'∧WL l off d zs v cs'∧Fm N h0 (B.set i ⟨l,off,cs'⟩) Γ Δ H':=by
 subst he; subst hn
 obtain ⟨_,hzs⟩:=stx_some hz
 obtain ⟨ws,a,rfl,h2,rfl,h4⟩:=hw
 obtain ⟨hL,hle⟩:=Dt.setL h2 ho hz hoff hx
 have ha:=S.atB hi
 have e1:=ha.stN (own:=own) (σ:=σ) hst hle
 have hlen : (ws.take (k.toNat * d.sz + o) ++ nv ++ ws.drop (k.toNat * d.sz + o + nv.length)).length = ws.length:=by
  simp only [List.length_append,List.length_take,List.length_drop]; omega
 exact ⟨_,_,e1,⟨_,a,rfl,hL,by rw [hzs,List.length_set],by rw [hzs,List.length_set]; exact h4⟩,S.setB (cs:=(ws.take (k.toNat * d.sz + o) ++ nv ++ ws.drop (k.toNat * d.sz + o + nv.length)).map .v) hi (by simp only [List.length_map]; exact hlen)⟩
theorem cell_lend {l : Loc} {off j e : Nat} {cs : List C} {c : C} {u : Unit} (ha : AtC Hp l off cs) (hj : cs[j]? = some c) (hS : SoC d xs c) (nt : Nn c e) (he : d.sz = e) (hne : neO xs = some u) :
  ∃ l' w,WL l' 0 d xs (cellV l (off + j) c) w∧AtC Hp l' 0 w∧(∃ s,l' = l.hop (off + j) s)∧∀ zs w',WL l' 0 d zs (cellV l (off + j) c) w'→∃ c',SoC d zs c'∧Nq c' e∧pts Hp [⟨l',0,w'⟩] = ptC Hp l off (cs.set j c'):=by
 subst he
 rcases hS with ⟨v,rfl,hv⟩ | ⟨s,ws,rfl,hl⟩
 ·have:=hv.nil_len (nt v rfl)
  subst this
  cases hne
 ·have hnode : (C.arr s xs.length d.sz (ws.map .v)).node s = some (ws.map .v):=by simp [C.node]
  refine ⟨l.hop (off + j) s,ws.map .v,⟨ws,xs.length,rfl,hl,rfl,Nat.le_refl _⟩,ha.hop hj hnode,⟨s,rfl⟩,fun zs w' hw => ?_⟩
  have hw':=hw
  obtain ⟨ws',a,rfl,h2,h3,h4⟩:=hw
  have hlen : zs.length = xs.length:=by
   simp only [cellV,toV,Option.getD_some] at h3
   injection h3 with _ _ e1
   exact e1.symm
  have hcl : (ws'.map C.v).length = (ws.map C.v).length:=by
   rw [List.length_map,List.length_map,RL.length (fun h => d.len h) h2,RL.length (fun h => d.len h) hl,hlen]
  refine ⟨.arr s zs.length d.sz (ws'.map .v),.inr ⟨s,ws',rfl,h2⟩,?_,?_⟩
  ·cases xs with
   | nil => cases hne
   | cons x xs => exact .inr ⟨s,xs.length,_,by rw [hlen]; rfl⟩
  ·show ptC Hp (l.hop (off + j) s) 0 (ws'.map .v) = _
   rw [ha.hop_pt hj hnode hcl,hlen]
   simp [C.withNode]
theorem Fm.lendB (S : Fm N h0 B Γ Δ Hp) {i j e off : Nat} {l : Loc} {cs : List C} {c : C} {u : Unit} (hi : B[i]? = some ⟨l,off,cs⟩) (hj : cs[j]? = some c) (hS : SoC d xs c) (nt : Nn c e) (he : d.sz = e) (hne : neO xs = some u) :
  ∃ l' w,WL l' 0 d xs (cellV l (off + j) c) w∧AtC Hp l' 0 w∧l'.key = l.key∧∀ zs w',WL l' 0 d zs (cellV l (off + j) c) w'→∃ c',SoC d zs c'∧Nq c' e∧Fm N h0 (B.set i ⟨l,off,cs.set j c'⟩) Γ Δ (pts Hp [⟨l',0,w'⟩]):=by
 obtain ⟨l',w,h1,h2,⟨s,h3⟩,h4⟩:=cell_lend (S.atB hi) hj hS nt he hne
 refine ⟨l',w,h1,h2,by rw [h3]; rfl,fun zs w' hw => ?_⟩
 obtain ⟨c',q1,q2,q3⟩:=h4 zs w' hw
 exact ⟨c',q1,q2,by rw [q3]; exact S.setB (cs:=cs.set j c') hi (by simp)⟩
theorem Fm.lowN (S : Fm N h0 B Γ Δ Hp) (hB : ∀ r ∈ B,KN v r.l) (hu : SlH h0 d xs v) : SlH Hp d xs v:=by
 obtain ⟨L,rfl,_,h3,_⟩:=S
 obtain ⟨ws,q1,q2⟩:=hu
 refine SlH.ups 1 (h:=L::pts h0 B) ⟨ws,?_,q2⟩
 show IsSl (pts h0 B) _ _ _ _
 rcases q1.cases with ⟨rfl,h1,h2⟩ | ⟨t,rfl⟩ | ⟨l,off,av,ds,rfl,hn,hl,hv,hav⟩
 ·rw [h1,h2]; exact .nil _ _
 ·exact Fz.fz q1.clen t _
 ·have ha : AtC h0 l 0 ds:=⟨[],[],by simpa using hn,rfl⟩
  have : ∀ (B : List Rt),(∀ r ∈ B,KN (.sl l off xs.length av d.sz) r.l)→AtC (pts h0 B) l 0 ds:=by
   intro B
   induction B with
   | nil => intro _; exact ha
   | cons r rs ih => intro hB; exact (ih fun q hq => hB q (List.mem_cons_of_mem _ hq)).frame (Ne.symm (hB r (List.mem_cons_self ..) _ _ _ _ _ rfl))
  obtain ⟨p,q,hn',hp⟩:=this B hB
  have hp0 : p = []:=List.length_eq_zero_iff.1 hp
  subst hp0
  refine .mk_sl hn' (by simp only [List.nil_append,List.length_append]; omega) ?_ hav
  rw [List.nil_append,List.drop_append_of_le_length (by omega),List.take_append_of_le_length (by rw [List.length_drop]; omega)]
  exact hv
theorem KN.of_low (hu : SlH h0 d xs v) {l : Loc} (hl : h0.length ≤ l.lvl) : KN v l:=fun l' o n a e hv => by
 obtain ⟨ws,q1,_⟩:=hu
 rcases q1.cases with ⟨rfl,_,_⟩ | ⟨t,rfl⟩ | ⟨l2,off,av,ds,rfl,hn,_⟩
 ·cases hv
 ·cases hv
 ·injection hv with e1
  subst e1
  have:=nd_lt hn
  intro hk
  simp only [Loc.key,Prod.mk.injEq] at hk
  omega
theorem KN.key {l l' : Loc} (hk : KN v l) (he : l'.key = l.key) : KN v l':=fun _ _ _ _ _ hv => by rw [he]; exact hk _ _ _ _ _ hv
theorem KN.frz (hv : SlF d xs v) {l : Loc} : KN v l:=fun l' o n a e hv' => by
 subst hv'
 obtain ⟨ws,q1,_⟩:=hv
 rcases (q1 []).cases with ⟨h,_,_⟩ | ⟨t,h⟩ | ⟨l2,off,av,ds,h,hn,_⟩
 ·cases h
 ·cases h
 ·have:=nd_lt hn
  simp at this
end
end Go.Ev
namespace Go.Ev
section
variable {N : Nat} {h0 Hp : H} {B : List Rt} {Γ : List (Nat × Stamp × List C)} {Δ : List Gw} {α : Type} {d : Dt α} {xs zs : List α} {v : V}
theorem Fm.setWA (S : Fm N h0 B Γ Δ Hp) {i off e : Nat} {l : Loc} {cs : List C} {own : Bool} {σ : Stamp} {k : Int} {x : α} {nv : List V} {xv : V} (hi : B[i]? = some ⟨l,off,cs⟩) (hw : WL l off d xs v cs)
  (hz : stx xs k x = some zs) (he : d.sz = e) (hst : StN xv nv) (hR : d.R x nv) (hn : nv.length = e) :
  ∃ cs' H',stO own e σ Hp (adr v (k.toNat * e)) xv = some H'∧WL l off d zs v cs'∧Fm N h0 (B.set i ⟨l,off,cs'⟩) Γ Δ H':=by
 subst he
 obtain ⟨⟨hk0,hk1⟩,_⟩:=stx_some hz
 have ho : ix xs k = some (xs[k.toNat]'(by omega)):=by
  unfold ix
  rw [if_pos hk0,List.getElem?_eq_getElem (by omega)]
 have:=S.setW (own:=own) (σ:=σ) (o:=0) hi hw ho hz rfl hn (by omega) hst (Dt.whole hR rfl)
 rw [Nat.add_zero] at this
 exact this
end
end Go.Ev
namespace Go.Ev
section
variable {N : Nat} {h0 Hp : H} {B : List Rt} {Γ : List (Nat × Stamp × List C)} {Δ : List Gw}
end
end Go.Ev
namespace Go.Ev
section
variable {N : Nat} {h0 Hp : H} {B : List Rt} {Γ : List (Nat × Stamp × List C)} {Δ : List Gw}
end
end Go.Ev
namespace Go.Ev
def del {α : Type} (xs : List α) (i j : Int) : Option (List α):=if 0 ≤ i∧i < j∧j ≤ xs.length then some (xs.take i.toNat ++ xs.drop j.toNat) else none
def delBody (G : Cfg) (e b t N : Nat) (τ : Stamp) (d : Nat) (σ : Stamp) (x : V) (i j : Int) (h : H) : Option (List C × H) :=
 (lenO x).bind fun t1 => (castI .i64 t1).bind fun n2 => (slS e x (some i) (some j) (some n2)).bind fun _ => bif i == j then (fin false σ (List.replicate N []::h) [x]) else ((lenO x).bind fun t4 => (castI .i64 t4).bind fun n5 => (slS e x none (some i) none).bind fun t6 => (slS e x (some j) none none).bind fun t7 => (apO false e b τ d (List.replicate N []::h) t6 t7).bind fun q8 => (lenO q8.1).bind fun t9 => (castI .i64 t9).bind fun n10 => (slS e q8.1 (some n10) (some n5) none).bind fun t11 => (clearV G q8.2 t t11).bind fun q12 => fin false σ q12.2 [q8.1])
theorem rept_len {α : Type} (z : List α) : ∀ n : Nat,(rept n z).length = n * z.length
 | 0 => by simp [rept]
 | n + 1 => by simp only [rept,List.length_append,rept_len z n,Nat.succ_mul]; omega
theorem rept_stills {z : List V} (hz : Stills z) : ∀ n : Nat,Stills (rept n z)
 | 0 => sN
 | n + 1 => fun x hx => by
  simp only [rept,List.mem_append] at hx
  rcases hx with hx | hx
  ·exact hz x hx
  ·exact rept_stills hz n x hx
theorem over3 {A R Z : List V} {m : Nat} (hA : A.length = m) (hR : R.length = Z.length) : (A ++ R).take m ++ Z ++ (A ++ R).drop (m + Z.length) = A ++ Z:=by
 subst hA
 rw [List.take_append_of_le_length (Nat.le_refl _),List.take_of_length_le (Nat.le_refl _),← List.drop_drop,List.drop_left,List.drop_of_length_le (by omega),List.append_nil]
theorem del_run {G : Cfg} {e b t te N d n i j : Nat} {τ σ : Stamp} {L : Loc} {z ws : List V} {h : H} (hn : nd h L = some (ws.map .v)) (hw : ws.length = n * e) (hst : Stills ws) (he : e ≠ 0) (hij : i < j) (hjn : j ≤ n)
  (ht : telem G.P t = some te) (hz : tzero G.P te = some z) (hzl : z.length = e) (hts : tsize G.P te = e) (hzs : Stills z) :
  ∃ W : List V,W.length = n * e∧W.take ((i + (n - j)) * e) = ws.take (i * e) ++ ws.drop (j * e)∧delBody G e b t N τ d σ (.sl L 0 n n e) i j h = some ([.v (.sl L 0 (i + (n - j)) n e)],setNd h L (W.map .v)):=by
 have hlt:=nd_lt hn
 have hnu:=nd_up hn (List.replicate N [])
 have m1 : i * e ≤ n * e:=Nat.mul_le_mul_right e (by omega)
 have m2 : j * e ≤ n * e:=Nat.mul_le_mul_right e hjn
 have m3 : (n - j) * e = n * e - j * e:=Nat.sub_mul ..
 have m4 : (i + (n - j)) * e = i * e + (n * e - j * e):=by rw [Nat.add_mul,m3]
 have m5 : (j - i) * e = j * e - i * e:=Nat.sub_mul ..
 have m6 : i * e ≤ j * e:=Nat.mul_le_mul_right e (by omega)
 have ap : apO false e b τ d (List.replicate N []::h) (.sl L 0 i n e) (.sl L (j * e) (n - j) (n - j) e) = some (.sl L 0 (i + (n - j)) n e,List.replicate N []::setNd h L ((ws.take (i * e) ++ ws.drop (j * e) ++ ws.drop (i * e + (n * e - j * e))).map .v)):=by
  have hc : cellsOf (List.replicate N []::h) (.sl L (j * e) (n - j) (n - j) e) = some (ws.drop (j * e)):=by
   simp only [cellsOf,hnu,Option.bind_some]
   unfold rng
   rw [if_pos (by rw [List.length_map]; omega)]
   simp only [Option.bind_some]
   rw [List.take_of_length_le (by rw [List.length_drop,List.length_map]; omega),← List.map_drop,toVs_plain]
  unfold apO
  rw [hc]
  simp only [lenOf,Option.bind_some,List.length_drop]
  rw [if_neg (by omega)]
  by_cases h0 : n - j = 0
  ·have hj : j = n:=by omega
   subst hj
   rw [if_pos h0]
   simp only [isSl,if_true,h0,Nat.add_zero]
   congr 2
   have e1 : ws.drop (j * e) = []:=List.drop_of_length_le (by omega)
   rw [Nat.sub_self,e1,List.append_nil,Nat.add_zero,List.take_append_drop,setNd_same hn]
  ·rw [if_neg h0,layCs_still false _ (fun x hx => hst x (List.mem_of_mem_drop hx))]
   simp only [Option.bind_some,apTo,hnu]
   rw [if_neg (by simp),if_pos ⟨by omega,by rw [List.length_map,List.length_map,List.length_drop]; omega⟩,setNd_up hn]
   congr 4
   simp only [List.map_append,List.map_take,List.map_drop,Nat.zero_add,List.length_map,List.length_drop,hw]
 have nd1:=nd_setNd hn ((ws.take (i * e) ++ ws.drop (j * e) ++ ws.drop (i * e + (n * e - j * e))).map .v)
 have nd1u:=nd_up nd1 (List.replicate N [])
 have l1 : (ws.take (i * e) ++ ws.drop (j * e) ++ ws.drop (i * e + (n * e - j * e))).length = n * e:=by
  simp only [List.length_append,List.length_take,List.length_drop]; omega
 have l2 : (ws.take (i * e) ++ ws.drop (j * e)).length = (i + (n - j)) * e:=by
  simp only [List.length_append,List.length_take,List.length_drop]; omega
 have lz : (rept (n - (i + (n - j))) z).length = (n - (i + (n - j))) * e:=by rw [rept_len,hzl]
 have m7 : (n - (i + (n - j))) * e = j * e - i * e:=by rw [show n - (i + (n - j)) = j - i by omega,m5]
 have cl : clearV G (List.replicate N []::setNd h L ((ws.take (i * e) ++ ws.drop (j * e) ++ ws.drop (i * e + (n * e - j * e))).map .v)) t (.sl L ((i + (n - j)) * e) (n - (i + (n - j))) (n - (i + (n - j))) e) = some (.tup [],List.replicate N []::setNd h L ((ws.take (i * e) ++ ws.drop (j * e) ++ rept (n - (i + (n - j))) z).map .v)):=by
  unfold clearV
  rw [ht]
  simp only [Option.bind_some,hz,lenOf,isSl,hzl,hts,eszIs,beq_self_eq_true,if_true,Bool.not_true,Bool.false_eq_true,if_false,ne_eq,not_true_eq_false]
  rw [if_neg (by omega)]
  simp only [overV]
  rw [if_neg (by omega),layCs_still true _ (rept_stills hzs _)]
  simp only [Option.bind_some,nd1u]
  rw [if_pos (by rw [List.length_map,List.length_map,l1,lz]; omega),setNd_up nd1,setNd_setNd hn]
  simp only [Option.map_some]
  congr 4
  rw [List.length_map,← List.map_take,← List.map_drop,← List.map_append,← List.map_append]
  congr 1
  exact over3 l2 (by rw [lz,List.length_drop]; omega)
 refine ⟨ws.take (i * e) ++ ws.drop (j * e) ++ rept (n - (i + (n - j))) z,by rw [List.length_append,l2,lz]; omega,?_,?_⟩
 ·rw [← l2,List.take_append_of_le_length (Nat.le_refl _),List.take_of_length_le (Nat.le_refl _)]
 ·unfold delBody
  have s1 : slS e (.sl L 0 n n e) (some (i : Int)) (some (j : Int)) (some (n : Int)) = some (if n = i then .fz [] 0 e true else .sl L (0 + i * e) (j - i) (n - i) e):=by
   simp only [slS,bI,Option.isSome_some,true_and]
   rw [if_neg (by simp),if_pos ⟨by omega,by omega⟩]
   simp only [Option.bind_some,Int.toNat_natCast]
   rw [if_pos ⟨by omega,by omega⟩]
   simp only [Option.bind_some]
   rw [if_pos ⟨by omega,by omega⟩]
   simp only [Option.bind_some]
   split <;> rfl
  have s2 : slS e (.sl L 0 n n e) none (some (i : Int)) none = some (.sl L 0 i n e):=by
   simp only [slS,bI,Option.isSome_none,Bool.false_eq_true,false_and,if_false]
   rw [if_neg (by simp)]
   simp only [Option.bind_some,Int.toNat_natCast]
   rw [if_pos ⟨by omega,by omega⟩]
   simp
  have s3 : slS e (.sl L 0 n n e) (some (j : Int)) none none = some (.sl L (j * e) (n - j) (n - j) e):=by
   simp only [slS,bI,Option.isSome_none,Bool.false_eq_true,false_and,if_false]
   rw [if_neg (by simp)]
   simp only [Option.bind_some,Int.toNat_natCast]
   rw [if_pos ⟨by omega,by omega⟩]
   simp
  have s4 : slS e (.sl L 0 (i + (n - j)) n e) (some ((i + (n - j) : Nat) : Int)) (some (n : Int)) none = some (.sl L ((i + (n - j)) * e) (n - (i + (n - j))) (n - (i + (n - j))) e):=by
   simp only [slS,bI,Option.isSome_none,Bool.false_eq_true,false_and,if_false]
   rw [if_neg (by simp)]
   simp only [Option.bind_some,Int.toNat_natCast]
   rw [if_pos ⟨by omega,by omega⟩]
   simp only [Option.bind_some]
   rw [if_pos ⟨by omega,by omega⟩]
   simp
  have hne : ((i : Int) == (j : Int)) = false:=beq_eq_false_iff_ne.2 (by omega)
  have ln : ∀ m a o : Nat,lenO (.sl L o m a e) = some (.p (.int .i64 (m : Int))):=fun _ _ _ => rfl
  simp only [ln,Option.bind_some,castI_p,s1,hne,cond_false,s2,s3,ap,s4,cl]
  exact fin_low (by have:=nd_lt (nd_setNd hn ((ws.take (i * e) ++ ws.drop (j * e) ++ rept (n - (i + (n - j))) z).map .v)); exact this)
theorem cell_del {G : Cfg} {X : CallF} {Hp : H} {l : Loc} {off jj f N e b t te d d' : Nat} {τ σ : Stamp} {z : List V} {cs : List C} {c : C} {α : Type} {dt : Dt α} {xs zs : List α} {i j : Int} (entry : ∀ (x : V) (i j : Int) (h : H),cvBody G (ev G X) (cvL G X) f σ [x,.p (.int .i64 i),.p (.int .i64 j)] h = delBody G e b t N τ d' σ x i j h)
  (hX : ∀ y,X f σ y Hp = none) (ha : AtC Hp l off cs) (hj : cs[jj]? = some c) (hS : SoC dt xs c) (nt : Nn c e) (he : dt.sz = e) (hk : e ≠ 0) (hz : del xs i j = some zs)
  (h1 : telem G.P t = some te) (h2 : tzero G.P te = some z) (h3 : z.length = e) (h4 : tsize G.P te = e) (h5 : Stills z) :
  ∃ y c1,callO (ev G X) f σ [cellV l (off + jj) c,.p (.int .i64 i),.p (.int .i64 j)] Hp (some d) = some (y,ptC Hp l off (cs.set jj c1))∧∀ own σ',∃ c2,stO own 1 σ' (ptC Hp l off (cs.set jj c1)) (.ref l (off + jj)) y = some (ptC Hp l off (cs.set jj c2))∧SoC dt zs c2∧Nn c2 e:=by
 subst he
 have hr : 0 ≤ i∧i < j∧j ≤ xs.length:=by
  unfold del at hz
  split at hz
  ·rename_i hr; exact hr
  ·cases hz
 unfold del at hz
 rw [if_pos hr] at hz
 have hz : zs = xs.take i.toNat ++ xs.drop j.toNat:=(Option.some.inj hz).symm
 obtain ⟨ii,rfl⟩ : ∃ n : Nat,i = n:=⟨i.toNat,by omega⟩
 obtain ⟨j2,rfl⟩ : ∃ n : Nat,j = n:=⟨j.toNat,by omega⟩
 simp only [Int.toNat_natCast] at hz
 rcases hS with ⟨v,rfl,hv⟩ | ⟨s,ws,rfl,hl⟩
 ·have:=hv.nil_len (nt v rfl)
  subst this
  simp at hr; omega
 ·have hnode : (C.arr s xs.length dt.sz (ws.map .v)).node s = some (ws.map .v):=by simp [C.node]
  have hlt:=(List.getElem?_eq_some_iff.1 hj).1
  have hlen:=RL.length (fun h => dt.len h) hl
  obtain ⟨p,q,hnL,hp⟩:=ha.hop hj hnode
  have hp0 : p = []:=List.length_eq_zero_iff.1 hp
  subst hp0
  have hnL' : nd Hp (l.hop (off + jj) s) = some (ws.map .v):=by
   obtain ⟨p,q,hn2,hp⟩:=ha
   exact nd_in hn2 (c:=.arr s xs.length dt.sz (ws.map .v)) (by rw [getElem_app hp hlt,hj]) hnode
  obtain ⟨W,w1,w2,w3⟩:=del_run (b:=b) (N:=N) (d:=d') (τ:=τ) (σ:=σ) (i:=ii) (j:=j2) hnL' hlen (RL.stills hl) hk (by omega) (by omega) h1 h2 h3 h4 h5
  have hWl : (W.map C.v).length = (ws.map C.v).length:=by rw [List.length_map,List.length_map,w1,hlen]
  have hpt:=ha.hop_pt hj (s:=s) (ds:=ws.map .v) (ds':=W.map .v) hnode hWl
  have hset : setNd Hp (l.hop (off + jj) s) (W.map .v) = ptC Hp l off (cs.set jj (.arr s xs.length dt.sz (W.map .v))):=by
   rw [show ptC Hp l off (cs.set jj (.arr s xs.length dt.sz (W.map .v))) = ptC Hp (l.hop (off + jj) s) 0 (W.map .v) from hpt.symm]
   rw [ptC_eq (off:=0) (p:=[]) (q:=[]) (cs:=ws.map .v) (by rw [hnL']; simp) rfl hWl]
   simp
  refine ⟨.sl (l.hop (off + jj) s) 0 (ii + (xs.length - j2)) xs.length dt.sz,.arr s xs.length dt.sz (W.map .v),?_,fun own σ' => ?_⟩
  ·rw [← hset]
   exact callO_1 (ev_cv (hX _) (by rw [entry]; exact w3))
  ·refine ⟨.arr s (ii + (xs.length - j2)) dt.sz ((ws.take (ii * dt.sz) ++ ws.drop (j2 * dt.sz)).map .v),?_,.inr ⟨s,ws.take (ii * dt.sz) ++ ws.drop (j2 * dt.sz),?_,?_⟩,fun v hv => by cases hv⟩
   ·have ha1:=ha.put (cs':=cs.set jj (.arr s xs.length dt.sz (W.map .v))) (by simp)
    obtain ⟨p,q,hn1,hp1⟩:=ha1
    have hcell : (p ++ cs.set jj (.arr s xs.length dt.sz (W.map .v)) ++ q)[off + jj]? = some (.arr s xs.length dt.sz (W.map .v)):=by
     rw [getElem_app hp1 (by simpa using hlt)]; simp [hlt]
    unfold stO
    simp only [V.cells,List.length_cons,List.length_nil,Nat.zero_add,bne_self_eq_false,Bool.not_true,Bool.or_self,Bool.false_eq_true,if_false,hn1,Option.bind_some,hcell]
    have hsame : sameArr l (off + jj) (some (.arr s xs.length dt.sz (W.map .v))) (.sl (l.hop (off + jj) s) 0 (ii + (xs.length - j2)) xs.length dt.sz) = true:=by simp [sameArr]
    rw [hsame]
    have hcut : cutArr σ' (some (.arr s xs.length dt.sz (W.map .v))) (.sl (l.hop (off + jj) s) 0 (ii + (xs.length - j2)) xs.length dt.sz) = some (.arr s (ii + (xs.length - j2)) dt.sz ((ws.take (ii * dt.sz) ++ ws.drop (j2 * dt.sz)).map .v)):=by
     simp only [cutArr,if_true]
     unfold rng
     have hm : (ii + (xs.length - j2)) * dt.sz ≤ xs.length * dt.sz:=Nat.mul_le_mul_right _ (by omega)
     rw [if_pos (by rw [List.length_map,w1]; omega),List.drop_zero,← List.map_take,w2]
     rfl
    simp only [hcut,Option.map_some]
    rw [← ha.put_put (a:=cs.set jj (.arr s xs.length dt.sz (W.map .v))) (b:=cs.set jj (.arr s (ii + (xs.length - j2)) dt.sz ((ws.take (ii * dt.sz) ++ ws.drop (j2 * dt.sz)).map .v))) (by simp) (by simp),ptC_eq (cs':=cs.set jj (.arr s (ii + (xs.length - j2)) dt.sz ((ws.take (ii * dt.sz) ++ ws.drop (j2 * dt.sz)).map .v))) hn1 hp1 (by simp)]
    have e1 : ∀ c2 : C,(p ++ cs.set jj (.arr s xs.length dt.sz (W.map .v)) ++ q).set (off + jj) c2 = p ++ cs.set jj c2 ++ q:=fun c2 => by
     rw [List.append_assoc,List.set_append_right _ _ (by omega),List.set_append_left _ _ (by rw [List.length_set]; omega),show off + jj - p.length = jj by omega,List.set_set,← List.append_assoc]
    rw [e1]
   ·congr 1
    rw [hz,List.length_append,List.length_take,List.length_drop]; omega
   ·rw [hz]
    exact (RL.take (fun h => dt.len h) ii hl).append (RL.drop (fun h => dt.len h) j2 hl)
section
variable {N : Nat} {h0 Hp : H} {B : List Rt} {Γ : List (Nat × Stamp × List C)} {Δ : List Gw}
theorem Fm.delB (S : Fm N h0 B Γ Δ Hp) {G : Cfg} {X : CallF} {ii off jj f M e b t te d d' : Nat} {l : Loc} {τ σ : Stamp} {z : List V} {cs : List C} {c : C} {α : Type} {dt : Dt α} {xs zs : List α} {i j : Int} (entry : ∀ (x : V) (i j : Int) (h : H),cvBody G (ev G X) (cvL G X) f σ [x,.p (.int .i64 i),.p (.int .i64 j)] h = delBody G e b t M τ d' σ x i j h)
  (hX : ∀ y,X f σ y Hp = none) (hi : B[ii]? = some ⟨l,off,cs⟩) (hj : cs[jj]? = some c) (hS : SoC dt xs c) (nt : Nn c e) (he : dt.sz = e) (hk : e ≠ 0) (hz : del xs i j = some zs)
  (h1 : telem G.P t = some te) (h2 : tzero G.P te = some z) (h3 : z.length = e) (h4 : tsize G.P te = e) (h5 : Stills z) :
  ∃ y c1 H1,callO (ev G X) f σ [cellV l (off + jj) c,.p (.int .i64 i),.p (.int .i64 j)] Hp (some d) = some (y,H1)∧Fm N h0 (B.set ii ⟨l,off,cs.set jj c1⟩) Γ Δ H1∧∀ own σ',∃ c2 H2,stO own 1 σ' H1 (.ref l (off + jj)) y = some H2∧SoC dt zs c2∧Nn c2 e∧Fm N h0 (B.set ii ⟨l,off,cs.set jj c2⟩) Γ Δ H2:=by
 obtain ⟨y,c1,e1,e2⟩:=cell_del (d:=d) entry hX (S.atB hi) hj hS nt he hk hz h1 h2 h3 h4 h5
 refine ⟨y,c1,_,e1,S.setB (cs:=cs.set jj c1) hi (by simp),fun own σ' => ?_⟩
 obtain ⟨c2,q1,q2,q3⟩:=e2 own σ'
 exact ⟨c2,_,q1,q2,q3,S.setB (cs:=cs.set jj c2) hi (by simp)⟩
end
end Go.Ev
namespace Go.Ev
set_option linter.unusedVariables false
structure T_alarm_Due where
 f_At : Int
 Key : Int
def T_alarm_Due.tp (x : T_alarm_Due) : (Int × (Int × Unit)):=(x.f_At,(x.Key,()))
def dT_alarm_Due : Dt T_alarm_Due:=(dP (dI .i64) (dP (dI .u64) dU)).via T_alarm_Due.tp
theorem dT_alarm_Due.inv {x : T_alarm_Due} {vs : List V} (h : dT_alarm_Due.R x vs) : vs = [.p (.int .i64 x.f_At),.p (.int .u64 x.Key)]:=by
 obtain ⟨u0,w0,e0,h0,u1,w1,e1,h1,hend⟩:=h
 obtain rfl : u0 = [.p (.int .i64 x.f_At)]:=h0
 obtain rfl : u1 = [.p (.int .u64 x.Key)]:=h1
 obtain rfl:=(show _ = [] from hend)
 subst e1
 subst e0
 rfl
theorem dT_alarm_Due.mk {y_f_At : Int} {y_Key : Int}  : dT_alarm_Due.R (⟨y_f_At,y_Key⟩ : T_alarm_Due) [.p (.int .i64 y_f_At),.p (.int .u64 y_Key)]:=⟨[.p (.int .i64 y_f_At)],[.p (.int .u64 y_Key)],rfl,rfl,⟨[.p (.int .u64 y_Key)],[],rfl,rfl,rfl⟩⟩
structure Tz12Ask where
 Kind : Int
 Key : Int
 f_At : Int
def Tz12Ask.tp (x : Tz12Ask) : (Int × (Int × (Int × Unit))):=(x.Kind,(x.Key,(x.f_At,())))
def dTz12Ask : Dt Tz12Ask:=(dP (dI .i64) (dP (dI .u64) (dP (dI .i64) dU))).via Tz12Ask.tp
theorem dTz12Ask.inv {x : Tz12Ask} {vs : List V} (h : dTz12Ask.R x vs) : vs = [.p (.int .i64 x.Kind),.p (.int .u64 x.Key),.p (.int .i64 x.f_At)]:=by
 obtain ⟨u0,w0,e0,h0,u1,w1,e1,h1,u2,w2,e2,h2,hend⟩:=h
 obtain rfl : u0 = [.p (.int .i64 x.Kind)]:=h0
 obtain rfl : u1 = [.p (.int .u64 x.Key)]:=h1
 obtain rfl : u2 = [.p (.int .i64 x.f_At)]:=h2
 obtain rfl:=(show _ = [] from hend)
 subst e2
 subst e1
 subst e0
 rfl
theorem dTz12Ask.mk {y_Kind : Int} {y_Key : Int} {y_f_At : Int}  : dTz12Ask.R (⟨y_Kind,y_Key,y_f_At⟩ : Tz12Ask) [.p (.int .i64 y_Kind),.p (.int .u64 y_Key),.p (.int .i64 y_f_At)]:=⟨[.p (.int .i64 y_Kind)],[.p (.int .u64 y_Key),.p (.int .i64 y_f_At)],rfl,rfl,⟨[.p (.int .u64 y_Key)],[.p (.int .i64 y_f_At)],rfl,rfl,⟨[.p (.int .i64 y_f_At)],[],rfl,rfl,rfl⟩⟩⟩
structure T_alarm_Table where
 l : (List T_alarm_Due)
def T_alarm_Table.tp (x : T_alarm_Table) : ((List T_alarm_Due) × Unit):=(x.l,())
end Go.Ev
namespace Go.Ev
open Go.RowKit (Below)
set_option linter.unusedVariables false

theorem SimN.below {ι : Inj} {B : Nat} {w w' : World} {ns : Nodes} (h : SimN ι B w.heap ns) (hb : Below w.heap.size w w') : SimN ι B w'.heap ns:=by
 refine ⟨h.nodup,fun s cs hm p hp => ?_,h.inj,fun b f hf => ?_,h.apart,h.nwb⟩
 ·obtain ⟨a1,c1,e1,a2,a3⟩:=h.lie s cs hm p hp
  exact ⟨a1,c1,e1,by rw [hb.block _ (Array.getElem?_eq_some_iff.1 a2).1]; exact a2,a3⟩
 ·obtain ⟨c,e,fr,k1,k2⟩:=h.frz b f hf
  exact ⟨c,e,fr,by rw [hb.block _ (Array.getElem?_eq_some_iff.1 k1).1]; exact k1,k2⟩
def plainX (t : FuncId→List V→Option Value) : CallF:=fun f _ args h => (t f args).map fun v => ([.v (.p v)],h)
theorem plainX_ok {G : Cfg} {t : FuncId→List V→Option Value}
  (ht : ∀ f args v, t f args = some v → ∃ us : List Value, args = us.map .p ∧ (∃ fn, G.P.funcs[f]? = some fn ∧ (fn.name == "runtime.NumGoroutine") = false ∧ fn.body.isNone = false) ∧
   ∀ w,Calls G.P f us.toArray w fun e w' => e = .returned v∧Below w.heap.size w w') (B : Nat) : CallOk G B (plainX t):=by
 intro f σ args h cs h' hev ι w us hS hargs hf hB
 simp only [plainX,Option.map_eq_some_iff,Prod.mk.injEq] at hev
 obtain ⟨v,hv,rfl,rfl⟩:=hev
 obtain ⟨us0,rfl,hfn,hc⟩:=ht f args v hv
 have e : us = us0.toArray:=by
  apply Array.ext'
  refine List.ext_getElem? fun i => ?_
  simp only
  by_cases hi : i < us0.length
  ·have h1 : (us0.map V.p)[i]? = some (.p us0[i]):=by simp [hi]
   obtain ⟨u,hu,r⟩:=hargs.get h1
   cases r
   rw [hu]; simp [hi]
  ·have:=hargs.length
   simp only [List.length_map] at this
   rw [List.getElem?_eq_none (by omega),List.getElem?_eq_none (by omega)]
 subst e
 refine ⟨hfn,(hc w).mono fun e w' he => ?_⟩
 obtain ⟨rfl,hb⟩:=he
 exact ⟨v,ι,rfl,hS.below hb,⟨fun h d => .p v⟩,.refl _,.refl _ _ _,hb.mono hB⟩

theorem Below.setIter {w : World} {k : Nat} {o : Obj} {B : Nat} (hk : B ≤ k) : Below B w { w with heap:=w.heap.setIfInBounds k o }:=by
 refine ⟨rfl,rfl,rfl,by simp,fun i hi => ?_⟩
 simp only
 rw [Array.getElem?_setIfInBounds_ne (by omega)]
def itAt (w : World) (k : Nat) (s : ByteArray) (pos : Nat) : World:={ w with heap:=w.heap.setIfInBounds k (.stringIter s pos) }
theorem itAt_heap {w : World} {k : Nat} {s : ByteArray} {pos p : Nat} (h : w.heap[k]? = some (.stringIter s p)) : (itAt w k s pos).heap[k]? = some (.stringIter s pos):=by
 have:=(Array.getElem?_eq_some_iff.1 h).1
 simp [itAt,this]
theorem run_next_at {P : Program} {w : World} {k : Nat} {s : ByteArray} {pos : Nat} (hk : w.heap[k]? = some (.stringIter s pos)) (ty : TypeId) (h : pos < s.size) :
  (Instr.next (.pointer (some ⟨k,0,none⟩)) true ty).run P w = .ok (.tuple #[.bool true,.int .i64 pos,.int .i32 (Utf8.decode s pos).1]) (itAt w k s (pos + (Utf8.decode s pos).2)):=by
 simp only [Instr.next,getObj,setObj,Sem.run_bind,Sem.run,hk,Result.andThen,h,if_true]
 simp [goInt,itAt]
theorem run_next_over {P : Program} {w : World} {k : Nat} {s : ByteArray} {pos : Nat} (hk : w.heap[k]? = some (.stringIter s pos)) (ty : TypeId) (h : ¬ pos < s.size) :
  (Instr.next (.pointer (some ⟨k,0,none⟩)) true ty).run P w = .ok (.tuple #[.bool false]) w:=by
 simp [Instr.next,getObj,Sem.run,hk,h]
theorem dec_pos (s : ByteArray) (pos : Nat) (h : pos < s.size) : 1 ≤ (Utf8.decode s pos).2:=by
 by_cases ha : (s[pos]'h).toNat < 128
 ·rw [decode_ascii s pos h ha]
  exact Nat.le_refl _
 ·exact (decode_high s pos h (by omega)).2
def runesF (s : ByteArray) : Nat→Nat→List Int
 | 0,_ => []
 | n + 1,pos => if pos < s.size then ((Utf8.decode s pos).1 : Int)::runesF s n (pos + (Utf8.decode s pos).2) else []
theorem runesF_stable (s : ByteArray) : ∀ (n m pos : Nat),s.size - pos ≤ n→s.size - pos ≤ m→runesF s n pos = runesF s m pos
 | 0,0,_,_,_ => rfl
 | 0,m + 1,pos,h,_ => by
  have : ¬ pos < s.size:=by omega
  simp [runesF,this]
 | n + 1,0,pos,_,h => by
  have : ¬ pos < s.size:=by omega
  simp [runesF,this]
 | n + 1,m + 1,pos,h1,h2 => by
  simp only [runesF]
  split
  ·rename_i hp
   have:=dec_pos s pos hp
   rw [runesF_stable s n m _ (by omega) (by omega)]
  ·rfl
def runes (s : ByteArray) (pos : Nat) : List Int:=runesF s s.size pos
theorem runes_cons {s : ByteArray} {pos : Nat} (h : pos < s.size) : runes s pos = ((Utf8.decode s pos).1 : Int)::runes s (pos + (Utf8.decode s pos).2):=by
 have hw:=dec_pos s pos h
 unfold runes
 rw [runesF_stable s s.size (s.size + 1) pos (by omega) (by omega)]
 simp [runesF,h]
theorem runes_end {s : ByteArray} {pos : Nat} (h : ¬ pos < s.size) : runes s pos = []:=by
 unfold runes
 cases hs : s.size with
 | zero => rfl
 | succ n => simp only [runesF]; rw [if_neg h]
end Go.Ev
namespace Go.RidX
open Go.Ev (runes runes_cons runes_end run_next_at run_next_over itAt itAt_heap dec_pos V)
open Go.Proofs Go.Proofs.Ytceljnchfgimbaa
open Go.RowKit (Below wrap64 Hid)
set_option maxRecDepth 1000000
set_option maxHeartbeats 2000000
set_option linter.unusedSimpArgs false
set_option linter.unusedVariables false
def isRid (r : Int) : Bool:=(decide (r ≥ 97) && decide (r ≤ 122)) || (decide (r ≥ 65) && decide (r ≤ 90)) || (decide (r ≥ 48) && decide (r ≤ 57)) || (r == 45) || (r == 95)
theorem wrap_succ (n : Int) : wrap64 (wrap64 n + 1) = wrap64 (n + 1):=by
 simp only [wrap64]
 omega
def rightB (s : ByteArray) : Bool:=(runes s 0).all isRid && (decide (1 ≤ wrap64 (runes s 0).length) && decide (wrap64 (runes s 0).length ≤ 8))
def countN (s : ByteArray) : Int:=wrap64 (runes s 0).length
theorem rid_one (c : Int) (w : World) : Calls Try.prog 162 #[.int .i32 c] w fun e w' => e = .returned (.bool (isRid c))∧w' = w:=by
 go_enter Try.func162,Try.ntmps162
 go_wp2
 all_goals
  go_ret
  refine ⟨?_,rfl⟩
  simp only [Ending.returned.injEq,Value.bool.injEq,isRid]
  simp [*]
  try grind
theorem rid_Right (s : ByteArray) (w : World) : Calls Try.prog 129 #[.string s] w fun e w' => e = .returned (.bool (rightB s))∧Below w.heap.size w w':=by
 go_enter Try.func129,Try.ntmps129
 go_wp2
 go_loopw [3] (fun n wr => ∃ (pos : Nat) (pre : List Int) (c : Int),wr.heap[w.heap.size]? = some (.stringIter s pos)∧Below w.heap.size w wr∧n = .int .i64 c∧c = wrap64 (pre.length : Int)∧pre.all isRid = true∧runes s 0 = pre ++ runes s pos) (fun _ wr => s.size - wr.iterPos w.heap.size)
 case atStart => exact ⟨0,[],0,by simp [World.iter_heap],(Below.refl _ w).alloc (Nat.le_refl _) _,rfl,by simp [wrap64],rfl,rfl⟩
 case round =>
  obtain ⟨pos,pre,c,hk,hb,rfl,hc,hall,hrs⟩:=hrel
  by_cases hp : pos < s.size
  ·have hnx : ∀ ty,(Instr.next (.pointer (some ⟨w.heap.size,0,none⟩)) true ty).run Try.prog wr = _:=fun ty => run_next_at hk ty hp
   have hk1:=itAt_heap (pos:=pos + (Utf8.decode s pos).2) hk
   have hb1 : Below w.heap.size w (itAt wr w.heap.size s (pos + (Utf8.decode s pos).2)):=hb.trans (Go.Ev.Below.setIter (Nat.le_refl _))
   have hwd:=dec_pos s pos hp
   have hmu : wr.iterPos w.heap.size = pos:=by simp [World.iterPos,hk]
   have hmu2 : (itAt wr w.heap.size s (pos + (Utf8.decode s pos).2)).iterPos w.heap.size = pos + (Utf8.decode s pos).2:=by simp [World.iterPos,hk1]
   rw [runes_cons hp] at hrs
   have k1 : ∀ {b : Bool},isRid ↑(Utf8.decode s pos).fst = b→b = false→(runes s 0).all isRid = false:=fun e1 e2 => by
    rw [hrs,List.all_append,List.all_cons,e1,e2]
    simp
   have k2 : ∀ {b : Bool},isRid ↑(Utf8.decode s pos).fst = b→b = true→(pre ++ [((Utf8.decode s pos).1 : Int)]).all isRid = true:=fun e1 e2 => by
    rw [List.all_append,List.all_cons,e1,e2,hall]
    rfl
   have k3 : Hid (wrap64 (c + 1) = wrap64 ((pre ++ [((Utf8.decode s pos).1 : Int)]).length : Int)):=by
    unfold Hid
    rw [hc,wrap_succ,List.length_append]; rfl
   have k4 : Hid (runes s 0 = (pre ++ [((Utf8.decode s pos).1 : Int)]) ++ runes s (pos + (Utf8.decode s pos).2)):=by unfold Hid; rw [hrs]; simp
   clear hrs hall hc
   go_wp2_with (go_at_call 162; refine (rid_one _ _).mono ?_; rintro e W2 ⟨rfl,rfl⟩)
   ·rename_i hone
    have k5 : rightB s = false:=by unfold rightB; rw [k1 rfl (by simpa using hone)]; rfl
    clear hone k1 k2 k3 k4
    go_ret
    rw [k5]
    exact ⟨rfl,hb1⟩
   ·rename_i hone
    have k5:=k2 rfl (by simpa using hone)
    clear hone k1 k2
    go_roundw
    case rel => exact ⟨_,pre ++ [((Utf8.decode s pos).1 : Int)],_,hk1,hb1,rfl,k3.out,k5,k4.out⟩
    case measure =>
     rw [hmu,hmu2]
     omega
  ·have hnx : ∀ ty,(Instr.next (.pointer (some ⟨w.heap.size,0,none⟩)) true ty).run Try.prog wr = _:=fun ty => run_next_over hk ty hp
   rw [runes_end hp,List.append_nil] at hrs
   have k1 : ∀ {b : Bool},decide (c ≤ 8) = b→1 ≤ c→rightB s = b:=fun e1 e2 => by
    unfold rightB
    rw [hrs,hall,← hc,e1]; simp [e2]
   have k2 : c < 1→rightB s = false:=fun e2 => by
    unfold rightB
    rw [hrs,hall,← hc]; simp; omega
   clear hrs hall hc
   go_wp2
   ·rename_i h1
    have k5:=k1 rfl h1
    go_ret
    rw [k5]
    exact ⟨rfl,hb⟩
   ·rename_i h1
    have k5:=k2 (by omega)
    go_ret
    exact ⟨rfl,hb⟩
theorem ref_Count (s : ByteArray) (w : World) : Calls Try.prog 181 #[.string s] w fun e w' => e = .returned (.int .i64 (countN s))∧Below w.heap.size w w':=by
 go_enter Try.func181,Try.ntmps181
 go_wp2
 go_loopw [3] (fun n wr => ∃ (pos : Nat) (pre : List Int) (c : Int),wr.heap[w.heap.size]? = some (.stringIter s pos)∧Below w.heap.size w wr∧n = .int .i64 c∧c = wrap64 (pre.length : Int)∧runes s 0 = pre ++ runes s pos) (fun _ wr => s.size - wr.iterPos w.heap.size)
 case atStart => exact ⟨0,[],0,by simp [World.iter_heap],(Below.refl _ w).alloc (Nat.le_refl _) _,rfl,by simp [wrap64],rfl⟩
 case round =>
  obtain ⟨pos,pre,c,hk,hb,rfl,hc,hrs⟩:=hrel
  by_cases hp : pos < s.size
  ·have hnx : ∀ ty,(Instr.next (.pointer (some ⟨w.heap.size,0,none⟩)) true ty).run Try.prog wr = _:=fun ty => run_next_at hk ty hp
   have hk1:=itAt_heap (pos:=pos + (Utf8.decode s pos).2) hk
   have hb1 : Below w.heap.size w (itAt wr w.heap.size s (pos + (Utf8.decode s pos).2)):=hb.trans (Go.Ev.Below.setIter (Nat.le_refl _))
   have hwd:=dec_pos s pos hp
   have hmu : wr.iterPos w.heap.size = pos:=by simp [World.iterPos,hk]
   have hmu2 : (itAt wr w.heap.size s (pos + (Utf8.decode s pos).2)).iterPos w.heap.size = pos + (Utf8.decode s pos).2:=by simp [World.iterPos,hk1]
   rw [runes_cons hp] at hrs
   have k3 : Hid (wrap64 (c + 1) = wrap64 ((pre ++ [((Utf8.decode s pos).1 : Int)]).length : Int)):=by
    unfold Hid
    rw [hc,wrap_succ,List.length_append]; rfl
   have k4 : Hid (runes s 0 = (pre ++ [((Utf8.decode s pos).1 : Int)]) ++ runes s (pos + (Utf8.decode s pos).2)):=by unfold Hid; rw [hrs]; simp
   clear hrs hc
   go_wp2
   go_roundw
   case rel => exact ⟨_,pre ++ [((Utf8.decode s pos).1 : Int)],_,hk1,hb1,rfl,k3.out,k4.out⟩
   case measure =>
    rw [hmu,hmu2]
    omega
  ·have hnx : ∀ ty,(Instr.next (.pointer (some ⟨w.heap.size,0,none⟩)) true ty).run Try.prog wr = _:=fun ty => run_next_over hk ty hp
   rw [runes_end hp,List.append_nil] at hrs
   have k1 : Hid (countN s = c):=by unfold Hid countN; rw [hrs,hc]
   clear hrs hc
   go_wp2
   go_ret
   rw [k1.out]
   exact ⟨rfl,hb⟩
theorem ref_Count' (s : ByteArray) (w : World) {n : Int} (hn : countN s = n) : Calls Try.prog 181 #[.string s] w fun e w' => e = .returned (.int .i64 n)∧Below w.heap.size w w':=by
 subst hn; exact ref_Count s w
theorem ref_letter (c : Int) (w : World) : Calls Try.prog 180 #[.int .i32 c] w fun e w' => e = .returned (.bool (isRid c))∧w' = w:=by
 go_enter Try.func180,Try.ntmps180
 go_wp2
 all_goals
  go_ret
  refine ⟨?_,rfl⟩
  simp only [Ending.returned.injEq,Value.bool.injEq,isRid]
  simp [*]
  try grind
theorem ref_Rid (s : ByteArray) (w : World) : Calls Try.prog 174 #[.string s] w fun e w' => e = .returned (.bool (rightB s))∧Below w.heap.size w w':=by
 go_enter Try.func174,Try.ntmps174
 go_wp2
 go_loopw [] (fun  wr => ∃ (pos : Nat) (pre : List Int),wr.heap[w.heap.size]? = some (.stringIter s pos)∧Below w.heap.size w wr∧pre.all isRid = true∧runes s 0 = pre ++ runes s pos) (fun  wr => s.size - wr.iterPos w.heap.size)
 case atStart => exact ⟨0,[],by simp [World.iter_heap],(Below.refl _ w).alloc (Nat.le_refl _) _,rfl,rfl⟩
 case round =>
  obtain ⟨pos,pre,hk,hb,hall,hrs⟩:=hrel
  by_cases hp : pos < s.size
  ·have hnx : ∀ ty,(Instr.next (.pointer (some ⟨w.heap.size,0,none⟩)) true ty).run Try.prog wr = _:=fun ty => run_next_at hk ty hp
   have hk1:=itAt_heap (pos:=pos + (Utf8.decode s pos).2) hk
   have hb1 : Below w.heap.size w (itAt wr w.heap.size s (pos + (Utf8.decode s pos).2)):=hb.trans (Go.Ev.Below.setIter (Nat.le_refl _))
   have hwd:=dec_pos s pos hp
   have hmu : wr.iterPos w.heap.size = pos:=by simp [World.iterPos,hk]
   have hmu2 : (itAt wr w.heap.size s (pos + (Utf8.decode s pos).2)).iterPos w.heap.size = pos + (Utf8.decode s pos).2:=by simp [World.iterPos,hk1]
   rw [runes_cons hp] at hrs
   have k1 : ∀ {b : Bool},isRid ↑(Utf8.decode s pos).fst = b→b = false→(runes s 0).all isRid = false:=fun e1 e2 => by
    rw [hrs,List.all_append,List.all_cons,e1,e2]
    simp
   have k2 : ∀ {b : Bool},isRid ↑(Utf8.decode s pos).fst = b→b = true→(pre ++ [((Utf8.decode s pos).1 : Int)]).all isRid = true:=fun e1 e2 => by
    rw [List.all_append,List.all_cons,e1,e2,hall]
    rfl
   have k4 : Hid (runes s 0 = (pre ++ [((Utf8.decode s pos).1 : Int)]) ++ runes s (pos + (Utf8.decode s pos).2)):=by unfold Hid; rw [hrs]; simp
   clear hrs hall
   go_wp2_with (go_at_call 180; refine (ref_letter _ _).mono ?_; rintro e W2 ⟨rfl,rfl⟩)
   ·rename_i hone
    have k5 : rightB s = false:=by unfold rightB; rw [k1 rfl (by simpa using hone)]; rfl
    clear hone k1 k2 k4
    go_ret
    rw [k5]
    exact ⟨rfl,hb1⟩
   ·rename_i hone
    have k5:=k2 rfl (by simpa using hone)
    clear hone k1 k2
    go_roundw
    case rel => exact ⟨_,pre ++ [((Utf8.decode s pos).1 : Int)],hk1,hb1,k5,k4.out⟩
    case measure =>
     rw [hmu,hmu2]
     omega
  ·have hnx : ∀ ty,(Instr.next (.pointer (some ⟨w.heap.size,0,none⟩)) true ty).run Try.prog wr = _:=fun ty => run_next_over hk ty hp
   rw [runes_end hp,List.append_nil] at hrs
   obtain ⟨n,hn⟩ : ∃ n,countN s = n:=⟨_,rfl⟩
   have k1 : ∀ {b : Bool},decide (n ≤ 8) = b→1 ≤ n→rightB s = b:=fun e1 e2 => by
    unfold rightB
    rw [hrs,hall,← hrs,show wrap64 ((runes s 0).length : Int) = n from hn,e1]; simp [e2]
   have k2 : n < 1→rightB s = false:=fun e2 => by
    unfold rightB
    rw [hrs,hall,← hrs,show wrap64 ((runes s 0).length : Int) = n from hn]; simp; omega
   have hn' : Hid (countN s = n):=hn
   clear hrs hall hn
   go_wp2_with (go_at_call 181; refine (ref_Count' _ _ hn'.out).mono ?_; rintro e W2 ⟨rfl,hB⟩)
   ·rename_i hB0 h1
    have k5:=k1 rfl h1
    go_ret
    rw [k5]
    exact ⟨rfl,hb.trans ((hB0.mono hb.size).trans (hB.mono (Nat.le_trans hb.size hB0.size)))⟩
   ·rename_i h1
    have k5:=k2 (by omega)
    go_ret
    exact ⟨rfl,hb.trans (hB.mono hb.size)⟩
def lowR (r : Int) : Int:=if 65 ≤ r∧r ≤ 90 then r + 32 else r
def foldS (l : List Int) : ByteArray:=l.foldl (fun a r => a ++ Utf8.encode (lowR r)) ByteArray.empty
theorem foldS_snoc (l : List Int) (r : Int) : foldS (l ++ [r]) = foldS l ++ Utf8.encode (lowR r):=by simp [foldS]
theorem enc_le (r : Int) : (Utf8.encode r).size ≤ 4:=by
 simp only [Utf8.encode]
 generalize (if Utf8.valid r = true then r.toNat else Utf8.runeError) = c
 split
 ·simp [ByteArray.size]
 ·split
  ·simp [ByteArray.size]
  ·split <;> simp [ByteArray.size]
theorem dec_le4 (s : ByteArray) (pos : Nat) : (Utf8.decode s pos).2 ≤ 4:=by
 simp only [Utf8.decode]
 repeat' split
 all_goals simp
def foldB (s : ByteArray) : ByteArray:=foldS (runes s 0)
theorem ref_Fold (s : ByteArray) (hs : s.size < 2 ^ 40) (w : World) : Calls Try.prog 175 #[.string s] w fun e w' => e = .returned (.string (foldB s))∧Below w.heap.size w w':=by
 go_enter Try.func175,Try.ntmps175
 go_wp2
 go_loopw [3] (fun n wr => ∃ (pos : Nat) (pre : List Int) (c : ByteArray),wr.heap[w.heap.size]? = some (.stringIter s pos)∧Below w.heap.size w wr∧n = .string c∧c = foldS pre∧c.size ≤ 4 * pre.length∧pre.length ≤ pos∧pos ≤ s.size + 3∧runes s 0 = pre ++ runes s pos) (fun _ wr => s.size - wr.iterPos w.heap.size)
 case atStart => exact ⟨0,[],ByteArray.empty,by simp [World.iter_heap],(Below.refl _ w).alloc (Nat.le_refl _) _,rfl,rfl,by simp,by simp,by simp,rfl⟩
 case round =>
  obtain ⟨pos,pre,c,hk,hb,rfl,hc,hsz,hpl,hps,hrs⟩:=hrel
  by_cases hp : pos < s.size
  ·have hnx : ∀ ty,(Instr.next (.pointer (some ⟨w.heap.size,0,none⟩)) true ty).run Try.prog wr = _:=fun ty => run_next_at hk ty hp
   have hk1:=itAt_heap (pos:=pos + (Utf8.decode s pos).2) hk
   have hb1 : Below w.heap.size w (itAt wr w.heap.size s (pos + (Utf8.decode s pos).2)):=hb.trans (Go.Ev.Below.setIter (Nat.le_refl _))
   have hwd:=dec_pos s pos hp
   have hmu : wr.iterPos w.heap.size = pos:=by simp [World.iterPos,hk]
   have hmu2 : (itAt wr w.heap.size s (pos + (Utf8.decode s pos).2)).iterPos w.heap.size = pos + (Utf8.decode s pos).2:=by simp [World.iterPos,hk1]
   rw [runes_cons hp] at hrs
   have hw4:=dec_le4 s pos
   obtain ⟨r,hr⟩ : ∃ r : Int,r = ((Utf8.decode s pos).1 : Int):=⟨_,rfl⟩
   rw [← hr] at hnx hrs
   have k4 : Hid (runes s 0 = (pre ++ [r]) ++ runes s (pos + (Utf8.decode s pos).2)):=by unfold Hid; rw [hrs]; simp
   have k5 : ∀ {x : Int},9223372036854775807 < c.size + (Utf8.encode x).size→False:=fun {x} h => by
    have:=enc_le x; omega
   have k7 : ∀ {x : Int},x = lowR r→Hid (c ++ Utf8.encode x = foldS (pre ++ [r])∧(c ++ Utf8.encode x).size ≤ 4 * (pre ++ [r]).length):=fun {x} e => by
    have:=enc_le x
    refine ⟨by rw [foldS_snoc,← hc,e],?_⟩
    rw [ByteArray.size_append,List.length_append]
    simp only [List.length_cons,List.length_nil]
    omega
   have k8 : (pre ++ [r]).length ≤ pos + (Utf8.decode s pos).2:=by rw [List.length_append]; simp only [List.length_cons,List.length_nil]; omega
   have k9 : pos + (Utf8.decode s pos).2 ≤ s.size + 3:=by omega
   clear hrs hc hr
   go_wp2
   ·exact (k5 (by assumption)).elim
   ·have k6:=k7 (x:=r - 65 + 97) (by unfold lowR; rw [if_pos ⟨by assumption,by assumption⟩]; omega)
    go_roundw
    case rel => exact ⟨_,pre ++ [r],_,hk1,hb1,rfl,k6.out.1,k6.out.2,k8,k9,k4.out⟩
    case measure =>
     rw [hmu,hmu2]
     omega
   ·exact (k5 (by assumption)).elim
   ·rename_i h1 h2 _
    have k6:=k7 (x:=r) (by unfold lowR; rw [if_neg (by omega)])
    go_roundw
    case rel => exact ⟨_,pre ++ [r],_,hk1,hb1,rfl,k6.out.1,k6.out.2,k8,k9,k4.out⟩
    case measure =>
     rw [hmu,hmu2]
     omega
   ·exact (k5 (by assumption)).elim
   ·rename_i h1 _
    have k6:=k7 (x:=r) (by unfold lowR; rw [if_neg (by omega)])
    go_roundw
    case rel => exact ⟨_,pre ++ [r],_,hk1,hb1,rfl,k6.out.1,k6.out.2,k8,k9,k4.out⟩
    case measure =>
     rw [hmu,hmu2]
     omega
  ·have hnx : ∀ ty,(Instr.next (.pointer (some ⟨w.heap.size,0,none⟩)) true ty).run Try.prog wr = _:=fun ty => run_next_over hk ty hp
   rw [runes_end hp,List.append_nil] at hrs
   have k1 : Hid (foldB s = c):=by unfold Hid foldB; rw [hrs,hc]
   clear hrs hc
   go_wp2
   go_ret
   rw [k1.out]
   exact ⟨rfl,hb⟩
theorem app1 {P : Program} {ops : Array Oper} {rest : List Oper} {o : Oper} {a : Act} {Q : Exit→Act→World→Prop} {w1 : World} (hgd : o.guard = none) (s x : Operand) (t : TypeId)
  (ho : o.op = .call { callee:=.builtin .append,args:=#[s,x],argTypes:=#[t,t] }) (base : Nat) (e : TypeId) (i : TypeInfo) (ht : P.underlying t = some (.slice e)) (hi : P.info? e = some i) (hz : i.zero = some (.int .i32 0))
  (hsize : i.size = 1) (hby : i.bytes = 4) {v : Value} (n : Nat) (xs : List Value) (hs : a.eval s = v) (hown : w1.ownsRow base e 1 v n xs) {r : Int} {e' : TypeId}
  (hx : a.eval x = .slice (some ⟨w1.heap.size,0,none⟩) 1 1) (hn : n < 2 ^ 44) (hbase : base ≤ w1.heap.size)
  (h : ∀ v' w',w'.ownsRow base e 1 v' (n + 1) (xs ++ [.int .i32 r])→(w1.alloc (.cells #[.int .i32 r] e')).grownBy w' v.ownBlock→wpList P ops Q rest (a.put o.dst v') w') : wpList P ops Q (o::rest) a (w1.alloc (.cells #[.int .i32 r] e')):=by
 refine wpList_append_own _ hgd s x t ho base e i (.int .i32 0) 1 4 ht hi hz hsize hby rfl (by decide) v n xs hs (hown.alloc _) ⟨w1.heap.size,0,none⟩ 1 1 [.int .i32 r] hx rfl ?_ ?_ (by unfold maxLen; omega) (by omega) ?_ fun v' w' h1 h2 _ => h v' w' h1 h2
 ·intro j u hj; match j,hj with | 0,hj => simp at hj; subst hj; simp [Addr.add]
 ·intro u hu; simp at hu; subst hu; rfl
 ·exact Nat.le_trans hbase (by show _ ≤ (w1.heap.push _).size; rw [Array.size_push]; omega)
theorem ownsRow_it {w : World} {base e k : Nat} {v : Value} {n : Nat} {xs : List Value} {s : ByteArray} {pos : Nat} (h : w.ownsRow base e 1 v n xs) (hk : k < base) : (itAt w k s pos).ownsRow base e 1 v n xs:=by
 obtain ⟨h1,h2 | ⟨g,cap,cur,h2,h3,h4,h5⟩⟩:=h
 ·exact ⟨h1,.inl h2⟩
 ·refine ⟨h1,.inr ⟨g,cap,cur,h2,h3,?_,h5⟩⟩
  simp only [itAt]
  rw [Array.getElem?_setIfInBounds_ne (by omega)]; exact h4
theorem fold_conv {P : Program} {w : World} {base e src dst : Nat} {v : Value} {n : Nat} {ns : List Int} (h : w.ownsRow base e 1 v n (ns.map (Value.int .i32))) (hs : P.underlying src = some (.slice e)) (he : P.underlying e = some (.int .i32)) (hd : P.underlying dst = some .string) :
  (convert src dst v).run P w = .ok (.string (runesBytes ns)) w:=by
 have h0:=h
 obtain ⟨h1,⟨rfl,rfl⟩ | ⟨g,cap,cur,rfl,h3,h4,h5,h6,h7,h8⟩⟩:=h
 ·have : ns = []:=by simpa using h1
  subst this
  exact run_convert_runes_nil w src dst e 0 0 hs he hd
 ·have hl : n = ns.length:=by simpa using h1.symm
  subst hl
  have:=run_convert_runes (P:=P) w src dst e ⟨g,0,none⟩ ns.length cap ns (Nat.le_refl _) hs he hd (fun j hj => h0.cells (g:=g) rfl j _ (by simp [List.getD,List.getElem?_eq_getElem hj]))
  rw [List.take_of_length_le (Nat.le_refl _)] at this
  exact this
theorem foldS_bytes (l : List Int) : runesBytes (l.map lowR) = foldS l:=by
 unfold runesBytes foldS; rw [List.foldl_map]
theorem fold_step {w W1 w' : World} {s : ByteArray} {pos e : Nat} {v : Value} {n : Nat} {xs : List Value} {o : Obj} (hk1 : W1.heap[w.heap.size]? = some (.stringIter s pos)) (hb1 : Below w.heap.size w W1) (how1 : W1.ownsRow (w.heap.size + 1) e 1 v n xs)
  (hg : (W1.alloc o).grownBy w' v.ownBlock) : w'.heap[w.heap.size]? = some (.stringIter s pos)∧Below w.heap.size w w':=by
 have hlt:=(Array.getElem?_eq_some_iff.1 hk1).1
 have hsz : (W1.alloc o).heap.size = W1.heap.size + 1:=by show (W1.heap.push o).size = _; simp
 refine ⟨?_,(hb1.alloc hb1.size o).grown hg (by have:=hb1.size; omega) fun k hk => ?_⟩
 ·rw [hg.block _ (by omega) (fun e => by have:=(how1.lt _ e.symm).1; omega),Below.heap_alloc _ _ _ hlt]
  exact hk1
 ·have:=(how1.lt _ hk).1; omega
theorem map_snoc (pre : List Int) (r x : Int) (h : x = lowR r) : (pre.map lowR).map (Value.int .i32) ++ [Value.int .i32 x] = ((pre ++ [r]).map lowR).map (Value.int .i32):=by
 subst h; simp
theorem rid_Fold (s : ByteArray) (hs : s.size < 2 ^ 40) (w : World) : Calls Try.prog 164 #[.string s] w fun e w' => e = .returned (.string (foldB s))∧Below w.heap.size w w':=by
 obtain ⟨i0,hi,hz0,hz1,hz2⟩:=info_parts (show (Try.prog.info? 21).map (fun i => (i.zero,i.size,i.bytes)) = some (some (.int .i32 0),1,4) from by kernel_rfl)
 go_enter Try.func164,Try.ntmps164
 go_wp2
 go_loopw [3] (fun v wr => ∃ (pos : Nat) (pre : List Int),wr.heap[w.heap.size]? = some (.stringIter s pos)∧Below w.heap.size w wr∧wr.ownsRow (w.heap.size + 1) 21 1 v pre.length ((pre.map lowR).map (Value.int .i32))∧pre.length ≤ pos∧pos ≤ s.size + 3∧runes s 0 = pre ++ runes s pos) (fun _ wr => s.size - wr.iterPos w.heap.size)
 case atStart => exact ⟨0,[],by simp [World.iter_heap],(Below.refl _ w).alloc (Nat.le_refl _) _,World.ownsRow_nil ..,by simp,by simp,rfl⟩
 case round =>
  obtain ⟨pos,pre,hk,hb,how,hpl,hps,hrs⟩:=hrel
  by_cases hp : pos < s.size
  ·have hnx : ∀ ty,(Instr.next (.pointer (some ⟨w.heap.size,0,none⟩)) true ty).run Try.prog wr = _:=fun ty => run_next_at hk ty hp
   have hk1:=itAt_heap (pos:=pos + (Utf8.decode s pos).2) hk
   have hb1 : Below w.heap.size w (itAt wr w.heap.size s (pos + (Utf8.decode s pos).2)):=hb.trans (Go.Ev.Below.setIter (Nat.le_refl _))
   have how1:=ownsRow_it (s:=s) (pos:=pos + (Utf8.decode s pos).2) how (Nat.lt_succ_self _)
   have hwd:=dec_pos s pos hp
   have hmu : wr.iterPos w.heap.size = pos:=by simp [World.iterPos,hk]
   rw [runes_cons hp] at hrs
   have hw4:=dec_le4 s pos
   obtain ⟨r,hr⟩ : ∃ r : Int,r = ((Utf8.decode s pos).1 : Int):=⟨_,rfl⟩
   rw [← hr] at hnx hrs
   have k4 : Hid (runes s 0 = (pre ++ [r]) ++ runes s (pos + (Utf8.decode s pos).2)):=by unfold Hid; rw [hrs]; simp
   have k8 : (pre ++ [r]).length ≤ pos + (Utf8.decode s pos).2:=by rw [List.length_append]; simp only [List.length_cons,List.length_nil]; omega
   have k9 : pos + (Utf8.decode s pos).2 ≤ s.size + 3:=by omega
   have hn44 : pre.length < 2 ^ 44:=by omega
   have hW1 : w.heap.size + 1 ≤ (itAt wr w.heap.size s (pos + (Utf8.decode s pos).2)).heap.size:=(Array.getElem?_eq_some_iff.1 hk1).1
   clear hrs hr how hk hb
   generalize itAt wr w.heap.size s (pos + (Utf8.decode s pos).2) = W1 at hnx hk1 hb1 how1 hW1
   go_wp2_with (first | (at_builtin; refine app1 rfl (.tmp 19) (.tmp 21) 233 rfl (w.heap.size + 1) 21 i0 Try.underlying233 hi hz0 hz1 hz2 pre.length _ rfl how1 rfl hn44 hW1 ?_) | go_in)
   ·have e1 : r + 32 = lowR r:=by unfold lowR; rw [if_pos ⟨by assumption,by assumption⟩]
    intro v' w' hown hgrow
    obtain ⟨hk2,hb2⟩:=fold_step hk1 hb1 how1 hgrow
    have hmu3 : w'.iterPos w.heap.size = pos + (Utf8.decode s pos).2:=by simp [World.iterPos,hk2]
    have hown2 : w'.ownsRow (w.heap.size + 1) 21 1 v' (pre ++ [r]).length (((pre ++ [r]).map lowR).map (Value.int .i32)):=by
     rw [← map_snoc pre r _ e1,List.length_append]
     simpa using hown
    clear hown hgrow hk1 hb1 how1 e1
    go_wp2
    go_roundw
    case rel => exact ⟨_,pre ++ [r],hk2,hb2,hown2,k8,k9,k4.out⟩
    case measure =>
     rw [hmu,hmu3]
     omega
   ·rename_i h1 h2
    have e1 : r = lowR r:=by unfold lowR; rw [if_neg (by omega)]
    intro v' w' hown hgrow
    obtain ⟨hk2,hb2⟩:=fold_step hk1 hb1 how1 hgrow
    have hmu3 : w'.iterPos w.heap.size = pos + (Utf8.decode s pos).2:=by simp [World.iterPos,hk2]
    have hown2 : w'.ownsRow (w.heap.size + 1) 21 1 v' (pre ++ [r]).length (((pre ++ [r]).map lowR).map (Value.int .i32)):=by
     rw [← map_snoc pre r _ e1,List.length_append]
     simpa using hown
    clear hown hgrow hk1 hb1 how1 e1
    go_wp2
    go_roundw
    case rel => exact ⟨_,pre ++ [r],hk2,hb2,hown2,k8,k9,k4.out⟩
    case measure =>
     rw [hmu,hmu3]
     omega
   ·rename_i h1
    have e1 : r = lowR r:=by unfold lowR; rw [if_neg (by omega)]
    intro v' w' hown hgrow
    obtain ⟨hk2,hb2⟩:=fold_step hk1 hb1 how1 hgrow
    have hmu3 : w'.iterPos w.heap.size = pos + (Utf8.decode s pos).2:=by simp [World.iterPos,hk2]
    have hown2 : w'.ownsRow (w.heap.size + 1) 21 1 v' (pre ++ [r]).length (((pre ++ [r]).map lowR).map (Value.int .i32)):=by
     rw [← map_snoc pre r _ e1,List.length_append]
     simpa using hown
    clear hown hgrow hk1 hb1 how1 e1
    go_wp2
    go_roundw
    case rel => exact ⟨_,pre ++ [r],hk2,hb2,hown2,k8,k9,k4.out⟩
    case measure =>
     rw [hmu,hmu3]
     omega
  ·have hnx : ∀ ty,(Instr.next (.pointer (some ⟨w.heap.size,0,none⟩)) true ty).run Try.prog wr = _:=fun ty => run_next_over hk ty hp
   rw [runes_end hp,List.append_nil] at hrs
   have hcv:=fold_conv (P:=Try.prog) (src:=233) (dst:=9) how Try.underlying233 Try.underlying21 Try.underlying9
   rw [foldS_bytes,← hrs,show foldS (runes s 0) = foldB s from rfl] at hcv
   clear hrs how
   go_wp2
   go_ret
   exact ⟨rfl,hb⟩
end Go.RidX
namespace Go.Ev
open Go.Proofs
def ownT : TypeId→Bool:=fun t => [76,96,136,186].contains t
def frzF : FuncId→Bool:=fun f => [32,15].contains f
def frzIn : FuncId→Bool:=fun f => [].contains f
def frzMk : TypeId→Bool:=fun t => [].contains t
noncomputable def G : Cfg:=⟨Try.prog,ownT,frzF,frzIn,frzMk⟩
noncomputable def XT (f : FuncId) (args : List V) : Option Value :=
 if f = 129 then (match args with | [.p (.string s)] => some (.bool (RidX.rightB s)) | _ => none) else
 if f = 181 then (match args with | [.p (.string s)] => some (.int .i64 (RidX.countN s)) | _ => none) else
 if f = 174 then (match args with | [.p (.string s)] => some (.bool (RidX.rightB s)) | _ => none) else
 if f = 175 then (match args with | [.p (.string s)] => if s.size < 2 ^ 40 then some (.string (RidX.foldB s)) else none | _ => none) else
 if f = 164 then (match args with | [.p (.string s)] => if s.size < 2 ^ 40 then some (.string (RidX.foldB s)) else none | _ => none) else
 none
noncomputable def X0 : CallF:=plainX XT
theorem x_ok (B : Nat) : CallOk G B X0:=plainX_ok (fun f args v h => by
 unfold XT at h
 split at h
 ·rename_i hf; subst hf
  split at h
  ·rename_i s; cases h
   exact ⟨[.string s],rfl,⟨Try.f129,Try.func129,by kernel_rfl,by kernel_rfl⟩,fun w => RidX.rid_Right s w⟩
  ·cases h
 split at h
 ·rename_i hf; subst hf
  split at h
  ·rename_i s; cases h
   exact ⟨[.string s],rfl,⟨Try.f181,Try.func181,by kernel_rfl,by kernel_rfl⟩,fun w => RidX.ref_Count s w⟩
  ·cases h
 split at h
 ·rename_i hf; subst hf
  split at h
  ·rename_i s; cases h
   exact ⟨[.string s],rfl,⟨Try.f174,Try.func174,by kernel_rfl,by kernel_rfl⟩,fun w => RidX.ref_Rid s w⟩
  ·cases h
 split at h
 ·rename_i hf; subst hf
  split at h
  ·rename_i s; split at h
   ·rename_i hs; cases h
    exact ⟨[.string s],rfl,⟨Try.f175,Try.func175,by kernel_rfl,by kernel_rfl⟩,fun w => RidX.ref_Fold s hs w⟩
   ·cases h
  ·cases h
 split at h
 ·rename_i hf; subst hf
  split at h
  ·rename_i s; split at h
   ·rename_i hs; cases h
    exact ⟨[.string s],rfl,⟨Try.f164,Try.func164,by kernel_rfl,by kernel_rfl⟩,fun w => RidX.rid_Fold s hs w⟩
   ·cases h
  ·cases h
 cases h) B
theorem mixed : G.P.follows .mixedOrders = true:=by kernel_rfl
end Go.Ev
namespace Go.Ev
open Go.Proofs
set_option linter.unusedVariables false
set_option linter.unusedSimpArgs false
set_option maxRecDepth 100000
noncomputable section
abbrev KT1:=Exit→Env→H→Option (List C × H)
variable (rec : CallF) (loop : LoopV) (σ : Stamp)
theorem slices_SortFunc_Lalarm_Due_alarm_Due_entry (x0 : V) (x1 : V) (h : H) : cvBody G rec loop 46 σ [x0,x1] h =
(lenO x0).bind fun t1 =>
(castI .i64 t1).bind fun n2 =>
(callO rec 101 (4::1::0::σ) [(.p (.int .u64 (IntKind.wrap .u64 n2)))] (List.replicate 14 []::h) (some 11)).bind fun q3 =>
(castI .i64 q3.1).bind fun n4 =>
(callO rec 100 (6::1::0::σ) [x0,(.p (.int .i64 0)),(.p (.int .i64 n2)),(.p (.int .i64 n4)),x1] q3.2 (some 13)).bind fun q5 =>
fin false σ q5.2 []:=by kernel_rfl
theorem math_bits_Len_entry (x0 : Int) (h : H) : cvBody G rec loop 101 σ [(.p (.int .u64 x0))] h =
bif false then (
(callO rec 150 (2::0::0::1::0::σ) [(.p (.int .u32 (IntKind.wrap .u32 x0)))] (List.replicate 8 []::h) (some 5)).bind fun q1 =>
(castI .i64 q1.1).bind fun n2 =>
fin false σ q1.2 [(.p (.int .i64 n2))])
else (
(callO rec 151 (1::0::1::1::0::σ) [(.p (.int .u64 x0))] (List.replicate 8 []::h) (some 7)).bind fun q3 =>
(castI .i64 q3.1).bind fun n4 =>
fin false σ q3.2 [(.p (.int .i64 n4))]):=by kernel_rfl
theorem math_bits_Len64_entry (x0 : Int) (h : H) : cvBody G rec loop 151 σ [(.p (.int .u64 x0))] h =
bif decide (x0 ≥ 4294967296) then (
bif decide ((Int.fdiv x0 (2 ^ 32)) ≥ 65536) then (
bif decide ((Int.fdiv (Int.fdiv x0 (2 ^ 32)) (2 ^ 16)) ≥ 256) then (
(iStr ((⟨#[0,1,2,2,3,3,3,3,4,4,4,4,4,4,4,4,5,5,5,5,5,5,5,5,5,5,5,5,5,5,5,5,6,6,6,6,6,6,6,6,6,6,6,6,6,6,6,6,6,6,6,6,6,6,6,6,6,6,6,6,6,6,6,6,7,7,7,7,7,7,7,7,7,7,7,7,7,7,7,7,7,7,7,7,7,7,7,7,7,7,7,7,7,7,7,7,7,7,7,7,7,7,7,7,7,7,7,7,7,7,7,7,7,7,7,7,7,7,7,7,7,7,7,7,7,7,7,7,8,8,8,8,8,8,8,8,8,8,8,8,8,8,8,8,8,8,8,8,8,8,8,8,8,8,8,8,8,8,8,8,8,8,8,8,8,8,8,8,8,8,8,8,8,8,8,8,8,8,8,8,8,8,8,8,8,8,8,8,8,8,8,8,8,8,8,8,8,8,8,8,8,8,8,8,8,8,8,8,8,8,8,8,8,8,8,8,8,8,8,8,8,8,8,8,8,8,8,8,8,8,8,8,8,8,8,8,8,8,8,8,8,8,8,8,8,8,8,8,8,8,8,8,8,8,8,8]⟩ : ByteArray)) (IntKind.wrap .u8 (Int.fdiv (Int.fdiv (Int.fdiv x0 (2 ^ 32)) (2 ^ 16)) (2 ^ 8)))).bind fun t1 =>
(castI .u8 t1).bind fun n2 =>
fin false σ (List.replicate 25 []::h) [(.p (.int .i64 (IntKind.wrap .i64 ((IntKind.wrap .i64 ((IntKind.wrap .i64 (32 + 16)) + 8)) + (IntKind.wrap .i64 n2)))))])
else (
(iStr ((⟨#[0,1,2,2,3,3,3,3,4,4,4,4,4,4,4,4,5,5,5,5,5,5,5,5,5,5,5,5,5,5,5,5,6,6,6,6,6,6,6,6,6,6,6,6,6,6,6,6,6,6,6,6,6,6,6,6,6,6,6,6,6,6,6,6,7,7,7,7,7,7,7,7,7,7,7,7,7,7,7,7,7,7,7,7,7,7,7,7,7,7,7,7,7,7,7,7,7,7,7,7,7,7,7,7,7,7,7,7,7,7,7,7,7,7,7,7,7,7,7,7,7,7,7,7,7,7,7,7,8,8,8,8,8,8,8,8,8,8,8,8,8,8,8,8,8,8,8,8,8,8,8,8,8,8,8,8,8,8,8,8,8,8,8,8,8,8,8,8,8,8,8,8,8,8,8,8,8,8,8,8,8,8,8,8,8,8,8,8,8,8,8,8,8,8,8,8,8,8,8,8,8,8,8,8,8,8,8,8,8,8,8,8,8,8,8,8,8,8,8,8,8,8,8,8,8,8,8,8,8,8,8,8,8,8,8,8,8,8,8,8,8,8,8,8,8,8,8,8,8,8,8,8,8,8,8,8]⟩ : ByteArray)) (IntKind.wrap .u8 (Int.fdiv (Int.fdiv x0 (2 ^ 32)) (2 ^ 16)))).bind fun t3 =>
(castI .u8 t3).bind fun n4 =>
fin false σ (List.replicate 25 []::h) [(.p (.int .i64 (IntKind.wrap .i64 ((IntKind.wrap .i64 (32 + 16)) + (IntKind.wrap .i64 n4)))))]))
else (
bif decide ((Int.fdiv x0 (2 ^ 32)) ≥ 256) then (
(iStr ((⟨#[0,1,2,2,3,3,3,3,4,4,4,4,4,4,4,4,5,5,5,5,5,5,5,5,5,5,5,5,5,5,5,5,6,6,6,6,6,6,6,6,6,6,6,6,6,6,6,6,6,6,6,6,6,6,6,6,6,6,6,6,6,6,6,6,7,7,7,7,7,7,7,7,7,7,7,7,7,7,7,7,7,7,7,7,7,7,7,7,7,7,7,7,7,7,7,7,7,7,7,7,7,7,7,7,7,7,7,7,7,7,7,7,7,7,7,7,7,7,7,7,7,7,7,7,7,7,7,7,8,8,8,8,8,8,8,8,8,8,8,8,8,8,8,8,8,8,8,8,8,8,8,8,8,8,8,8,8,8,8,8,8,8,8,8,8,8,8,8,8,8,8,8,8,8,8,8,8,8,8,8,8,8,8,8,8,8,8,8,8,8,8,8,8,8,8,8,8,8,8,8,8,8,8,8,8,8,8,8,8,8,8,8,8,8,8,8,8,8,8,8,8,8,8,8,8,8,8,8,8,8,8,8,8,8,8,8,8,8,8,8,8,8,8,8,8,8,8,8,8,8,8,8,8,8,8,8]⟩ : ByteArray)) (IntKind.wrap .u8 (Int.fdiv (Int.fdiv x0 (2 ^ 32)) (2 ^ 8)))).bind fun t5 =>
(castI .u8 t5).bind fun n6 =>
fin false σ (List.replicate 25 []::h) [(.p (.int .i64 (IntKind.wrap .i64 ((IntKind.wrap .i64 (32 + 8)) + (IntKind.wrap .i64 n6)))))])
else (
(iStr ((⟨#[0,1,2,2,3,3,3,3,4,4,4,4,4,4,4,4,5,5,5,5,5,5,5,5,5,5,5,5,5,5,5,5,6,6,6,6,6,6,6,6,6,6,6,6,6,6,6,6,6,6,6,6,6,6,6,6,6,6,6,6,6,6,6,6,7,7,7,7,7,7,7,7,7,7,7,7,7,7,7,7,7,7,7,7,7,7,7,7,7,7,7,7,7,7,7,7,7,7,7,7,7,7,7,7,7,7,7,7,7,7,7,7,7,7,7,7,7,7,7,7,7,7,7,7,7,7,7,7,8,8,8,8,8,8,8,8,8,8,8,8,8,8,8,8,8,8,8,8,8,8,8,8,8,8,8,8,8,8,8,8,8,8,8,8,8,8,8,8,8,8,8,8,8,8,8,8,8,8,8,8,8,8,8,8,8,8,8,8,8,8,8,8,8,8,8,8,8,8,8,8,8,8,8,8,8,8,8,8,8,8,8,8,8,8,8,8,8,8,8,8,8,8,8,8,8,8,8,8,8,8,8,8,8,8,8,8,8,8,8,8,8,8,8,8,8,8,8,8,8,8,8,8,8,8,8,8]⟩ : ByteArray)) (IntKind.wrap .u8 (Int.fdiv x0 (2 ^ 32)))).bind fun t7 =>
(castI .u8 t7).bind fun n8 =>
fin false σ (List.replicate 25 []::h) [(.p (.int .i64 (IntKind.wrap .i64 (32 + (IntKind.wrap .i64 n8)))))])))
else (
bif decide (x0 ≥ 65536) then (
bif decide ((Int.fdiv x0 (2 ^ 16)) ≥ 256) then (
(iStr ((⟨#[0,1,2,2,3,3,3,3,4,4,4,4,4,4,4,4,5,5,5,5,5,5,5,5,5,5,5,5,5,5,5,5,6,6,6,6,6,6,6,6,6,6,6,6,6,6,6,6,6,6,6,6,6,6,6,6,6,6,6,6,6,6,6,6,7,7,7,7,7,7,7,7,7,7,7,7,7,7,7,7,7,7,7,7,7,7,7,7,7,7,7,7,7,7,7,7,7,7,7,7,7,7,7,7,7,7,7,7,7,7,7,7,7,7,7,7,7,7,7,7,7,7,7,7,7,7,7,7,8,8,8,8,8,8,8,8,8,8,8,8,8,8,8,8,8,8,8,8,8,8,8,8,8,8,8,8,8,8,8,8,8,8,8,8,8,8,8,8,8,8,8,8,8,8,8,8,8,8,8,8,8,8,8,8,8,8,8,8,8,8,8,8,8,8,8,8,8,8,8,8,8,8,8,8,8,8,8,8,8,8,8,8,8,8,8,8,8,8,8,8,8,8,8,8,8,8,8,8,8,8,8,8,8,8,8,8,8,8,8,8,8,8,8,8,8,8,8,8,8,8,8,8,8,8,8,8]⟩ : ByteArray)) (IntKind.wrap .u8 (Int.fdiv (Int.fdiv x0 (2 ^ 16)) (2 ^ 8)))).bind fun t9 =>
(castI .u8 t9).bind fun n10 =>
fin false σ (List.replicate 25 []::h) [(.p (.int .i64 (IntKind.wrap .i64 ((IntKind.wrap .i64 ((IntKind.wrap .i64 (0 + 16)) + 8)) + (IntKind.wrap .i64 n10)))))])
else (
(iStr ((⟨#[0,1,2,2,3,3,3,3,4,4,4,4,4,4,4,4,5,5,5,5,5,5,5,5,5,5,5,5,5,5,5,5,6,6,6,6,6,6,6,6,6,6,6,6,6,6,6,6,6,6,6,6,6,6,6,6,6,6,6,6,6,6,6,6,7,7,7,7,7,7,7,7,7,7,7,7,7,7,7,7,7,7,7,7,7,7,7,7,7,7,7,7,7,7,7,7,7,7,7,7,7,7,7,7,7,7,7,7,7,7,7,7,7,7,7,7,7,7,7,7,7,7,7,7,7,7,7,7,8,8,8,8,8,8,8,8,8,8,8,8,8,8,8,8,8,8,8,8,8,8,8,8,8,8,8,8,8,8,8,8,8,8,8,8,8,8,8,8,8,8,8,8,8,8,8,8,8,8,8,8,8,8,8,8,8,8,8,8,8,8,8,8,8,8,8,8,8,8,8,8,8,8,8,8,8,8,8,8,8,8,8,8,8,8,8,8,8,8,8,8,8,8,8,8,8,8,8,8,8,8,8,8,8,8,8,8,8,8,8,8,8,8,8,8,8,8,8,8,8,8,8,8,8,8,8,8]⟩ : ByteArray)) (IntKind.wrap .u8 (Int.fdiv x0 (2 ^ 16)))).bind fun t11 =>
(castI .u8 t11).bind fun n12 =>
fin false σ (List.replicate 25 []::h) [(.p (.int .i64 (IntKind.wrap .i64 ((IntKind.wrap .i64 (0 + 16)) + (IntKind.wrap .i64 n12)))))]))
else (
bif decide (x0 ≥ 256) then (
(iStr ((⟨#[0,1,2,2,3,3,3,3,4,4,4,4,4,4,4,4,5,5,5,5,5,5,5,5,5,5,5,5,5,5,5,5,6,6,6,6,6,6,6,6,6,6,6,6,6,6,6,6,6,6,6,6,6,6,6,6,6,6,6,6,6,6,6,6,7,7,7,7,7,7,7,7,7,7,7,7,7,7,7,7,7,7,7,7,7,7,7,7,7,7,7,7,7,7,7,7,7,7,7,7,7,7,7,7,7,7,7,7,7,7,7,7,7,7,7,7,7,7,7,7,7,7,7,7,7,7,7,7,8,8,8,8,8,8,8,8,8,8,8,8,8,8,8,8,8,8,8,8,8,8,8,8,8,8,8,8,8,8,8,8,8,8,8,8,8,8,8,8,8,8,8,8,8,8,8,8,8,8,8,8,8,8,8,8,8,8,8,8,8,8,8,8,8,8,8,8,8,8,8,8,8,8,8,8,8,8,8,8,8,8,8,8,8,8,8,8,8,8,8,8,8,8,8,8,8,8,8,8,8,8,8,8,8,8,8,8,8,8,8,8,8,8,8,8,8,8,8,8,8,8,8,8,8,8,8,8]⟩ : ByteArray)) (IntKind.wrap .u8 (Int.fdiv x0 (2 ^ 8)))).bind fun t13 =>
(castI .u8 t13).bind fun n14 =>
fin false σ (List.replicate 25 []::h) [(.p (.int .i64 (IntKind.wrap .i64 ((IntKind.wrap .i64 (0 + 8)) + (IntKind.wrap .i64 n14)))))])
else (
(iStr ((⟨#[0,1,2,2,3,3,3,3,4,4,4,4,4,4,4,4,5,5,5,5,5,5,5,5,5,5,5,5,5,5,5,5,6,6,6,6,6,6,6,6,6,6,6,6,6,6,6,6,6,6,6,6,6,6,6,6,6,6,6,6,6,6,6,6,7,7,7,7,7,7,7,7,7,7,7,7,7,7,7,7,7,7,7,7,7,7,7,7,7,7,7,7,7,7,7,7,7,7,7,7,7,7,7,7,7,7,7,7,7,7,7,7,7,7,7,7,7,7,7,7,7,7,7,7,7,7,7,7,8,8,8,8,8,8,8,8,8,8,8,8,8,8,8,8,8,8,8,8,8,8,8,8,8,8,8,8,8,8,8,8,8,8,8,8,8,8,8,8,8,8,8,8,8,8,8,8,8,8,8,8,8,8,8,8,8,8,8,8,8,8,8,8,8,8,8,8,8,8,8,8,8,8,8,8,8,8,8,8,8,8,8,8,8,8,8,8,8,8,8,8,8,8,8,8,8,8,8,8,8,8,8,8,8,8,8,8,8,8,8,8,8,8,8,8,8,8,8,8,8,8,8,8,8,8,8,8]⟩ : ByteArray)) (IntKind.wrap .u8 x0)).bind fun t15 =>
(castI .u8 t15).bind fun n16 =>
fin false σ (List.replicate 25 []::h) [(.p (.int .i64 (IntKind.wrap .i64 (0 + (IntKind.wrap .i64 n16)))))]))):=by kernel_rfl
end
end Go.Ev
namespace Go.Ev
open Go.Proofs
set_option linter.unusedVariables false
set_option linter.unusedSimpArgs false
set_option maxRecDepth 100000
section
variable {β α : Type} {Q : β→α→Prop} {K : Exit × Env × H→Option α}
def p_math_bits_Len64 (x0 : Int) : Option (Int) :=
bif decide (x0 ≥ 4294967296) then (
bif decide ((Int.fdiv x0 (2 ^ 32)) ≥ 65536) then (
bif decide ((Int.fdiv (Int.fdiv x0 (2 ^ 32)) (2 ^ 16)) ≥ 256) then (
(ixS ((⟨#[0,1,2,2,3,3,3,3,4,4,4,4,4,4,4,4,5,5,5,5,5,5,5,5,5,5,5,5,5,5,5,5,6,6,6,6,6,6,6,6,6,6,6,6,6,6,6,6,6,6,6,6,6,6,6,6,6,6,6,6,6,6,6,6,7,7,7,7,7,7,7,7,7,7,7,7,7,7,7,7,7,7,7,7,7,7,7,7,7,7,7,7,7,7,7,7,7,7,7,7,7,7,7,7,7,7,7,7,7,7,7,7,7,7,7,7,7,7,7,7,7,7,7,7,7,7,7,7,8,8,8,8,8,8,8,8,8,8,8,8,8,8,8,8,8,8,8,8,8,8,8,8,8,8,8,8,8,8,8,8,8,8,8,8,8,8,8,8,8,8,8,8,8,8,8,8,8,8,8,8,8,8,8,8,8,8,8,8,8,8,8,8,8,8,8,8,8,8,8,8,8,8,8,8,8,8,8,8,8,8,8,8,8,8,8,8,8,8,8,8,8,8,8,8,8,8,8,8,8,8,8,8,8,8,8,8,8,8,8,8,8,8,8,8,8,8,8,8,8,8,8,8,8,8,8,8]⟩ : ByteArray)) (IntKind.wrap .u8 (Int.fdiv (Int.fdiv (Int.fdiv x0 (2 ^ 32)) (2 ^ 16)) (2 ^ 8)))).bind fun n4 =>
some ((IntKind.wrap .i64 ((IntKind.wrap .i64 ((IntKind.wrap .i64 (32 + 16)) + 8)) + (IntKind.wrap .i64 n4)))))
else (
(ixS ((⟨#[0,1,2,2,3,3,3,3,4,4,4,4,4,4,4,4,5,5,5,5,5,5,5,5,5,5,5,5,5,5,5,5,6,6,6,6,6,6,6,6,6,6,6,6,6,6,6,6,6,6,6,6,6,6,6,6,6,6,6,6,6,6,6,6,7,7,7,7,7,7,7,7,7,7,7,7,7,7,7,7,7,7,7,7,7,7,7,7,7,7,7,7,7,7,7,7,7,7,7,7,7,7,7,7,7,7,7,7,7,7,7,7,7,7,7,7,7,7,7,7,7,7,7,7,7,7,7,7,8,8,8,8,8,8,8,8,8,8,8,8,8,8,8,8,8,8,8,8,8,8,8,8,8,8,8,8,8,8,8,8,8,8,8,8,8,8,8,8,8,8,8,8,8,8,8,8,8,8,8,8,8,8,8,8,8,8,8,8,8,8,8,8,8,8,8,8,8,8,8,8,8,8,8,8,8,8,8,8,8,8,8,8,8,8,8,8,8,8,8,8,8,8,8,8,8,8,8,8,8,8,8,8,8,8,8,8,8,8,8,8,8,8,8,8,8,8,8,8,8,8,8,8,8,8,8,8]⟩ : ByteArray)) (IntKind.wrap .u8 (Int.fdiv (Int.fdiv x0 (2 ^ 32)) (2 ^ 16)))).bind fun n6 =>
some ((IntKind.wrap .i64 ((IntKind.wrap .i64 (32 + 16)) + (IntKind.wrap .i64 n6))))))
else (
bif decide ((Int.fdiv x0 (2 ^ 32)) ≥ 256) then (
(ixS ((⟨#[0,1,2,2,3,3,3,3,4,4,4,4,4,4,4,4,5,5,5,5,5,5,5,5,5,5,5,5,5,5,5,5,6,6,6,6,6,6,6,6,6,6,6,6,6,6,6,6,6,6,6,6,6,6,6,6,6,6,6,6,6,6,6,6,7,7,7,7,7,7,7,7,7,7,7,7,7,7,7,7,7,7,7,7,7,7,7,7,7,7,7,7,7,7,7,7,7,7,7,7,7,7,7,7,7,7,7,7,7,7,7,7,7,7,7,7,7,7,7,7,7,7,7,7,7,7,7,7,8,8,8,8,8,8,8,8,8,8,8,8,8,8,8,8,8,8,8,8,8,8,8,8,8,8,8,8,8,8,8,8,8,8,8,8,8,8,8,8,8,8,8,8,8,8,8,8,8,8,8,8,8,8,8,8,8,8,8,8,8,8,8,8,8,8,8,8,8,8,8,8,8,8,8,8,8,8,8,8,8,8,8,8,8,8,8,8,8,8,8,8,8,8,8,8,8,8,8,8,8,8,8,8,8,8,8,8,8,8,8,8,8,8,8,8,8,8,8,8,8,8,8,8,8,8,8,8]⟩ : ByteArray)) (IntKind.wrap .u8 (Int.fdiv (Int.fdiv x0 (2 ^ 32)) (2 ^ 8)))).bind fun n9 =>
some ((IntKind.wrap .i64 ((IntKind.wrap .i64 (32 + 8)) + (IntKind.wrap .i64 n9)))))
else (
(ixS ((⟨#[0,1,2,2,3,3,3,3,4,4,4,4,4,4,4,4,5,5,5,5,5,5,5,5,5,5,5,5,5,5,5,5,6,6,6,6,6,6,6,6,6,6,6,6,6,6,6,6,6,6,6,6,6,6,6,6,6,6,6,6,6,6,6,6,7,7,7,7,7,7,7,7,7,7,7,7,7,7,7,7,7,7,7,7,7,7,7,7,7,7,7,7,7,7,7,7,7,7,7,7,7,7,7,7,7,7,7,7,7,7,7,7,7,7,7,7,7,7,7,7,7,7,7,7,7,7,7,7,8,8,8,8,8,8,8,8,8,8,8,8,8,8,8,8,8,8,8,8,8,8,8,8,8,8,8,8,8,8,8,8,8,8,8,8,8,8,8,8,8,8,8,8,8,8,8,8,8,8,8,8,8,8,8,8,8,8,8,8,8,8,8,8,8,8,8,8,8,8,8,8,8,8,8,8,8,8,8,8,8,8,8,8,8,8,8,8,8,8,8,8,8,8,8,8,8,8,8,8,8,8,8,8,8,8,8,8,8,8,8,8,8,8,8,8,8,8,8,8,8,8,8,8,8,8,8,8]⟩ : ByteArray)) (IntKind.wrap .u8 (Int.fdiv x0 (2 ^ 32)))).bind fun n11 =>
some ((IntKind.wrap .i64 (32 + (IntKind.wrap .i64 n11)))))))
else (
bif decide (x0 ≥ 65536) then (
bif decide ((Int.fdiv x0 (2 ^ 16)) ≥ 256) then (
(ixS ((⟨#[0,1,2,2,3,3,3,3,4,4,4,4,4,4,4,4,5,5,5,5,5,5,5,5,5,5,5,5,5,5,5,5,6,6,6,6,6,6,6,6,6,6,6,6,6,6,6,6,6,6,6,6,6,6,6,6,6,6,6,6,6,6,6,6,7,7,7,7,7,7,7,7,7,7,7,7,7,7,7,7,7,7,7,7,7,7,7,7,7,7,7,7,7,7,7,7,7,7,7,7,7,7,7,7,7,7,7,7,7,7,7,7,7,7,7,7,7,7,7,7,7,7,7,7,7,7,7,7,8,8,8,8,8,8,8,8,8,8,8,8,8,8,8,8,8,8,8,8,8,8,8,8,8,8,8,8,8,8,8,8,8,8,8,8,8,8,8,8,8,8,8,8,8,8,8,8,8,8,8,8,8,8,8,8,8,8,8,8,8,8,8,8,8,8,8,8,8,8,8,8,8,8,8,8,8,8,8,8,8,8,8,8,8,8,8,8,8,8,8,8,8,8,8,8,8,8,8,8,8,8,8,8,8,8,8,8,8,8,8,8,8,8,8,8,8,8,8,8,8,8,8,8,8,8,8,8]⟩ : ByteArray)) (IntKind.wrap .u8 (Int.fdiv (Int.fdiv x0 (2 ^ 16)) (2 ^ 8)))).bind fun n15 =>
some ((IntKind.wrap .i64 ((IntKind.wrap .i64 ((IntKind.wrap .i64 (0 + 16)) + 8)) + (IntKind.wrap .i64 n15)))))
else (
(ixS ((⟨#[0,1,2,2,3,3,3,3,4,4,4,4,4,4,4,4,5,5,5,5,5,5,5,5,5,5,5,5,5,5,5,5,6,6,6,6,6,6,6,6,6,6,6,6,6,6,6,6,6,6,6,6,6,6,6,6,6,6,6,6,6,6,6,6,7,7,7,7,7,7,7,7,7,7,7,7,7,7,7,7,7,7,7,7,7,7,7,7,7,7,7,7,7,7,7,7,7,7,7,7,7,7,7,7,7,7,7,7,7,7,7,7,7,7,7,7,7,7,7,7,7,7,7,7,7,7,7,7,8,8,8,8,8,8,8,8,8,8,8,8,8,8,8,8,8,8,8,8,8,8,8,8,8,8,8,8,8,8,8,8,8,8,8,8,8,8,8,8,8,8,8,8,8,8,8,8,8,8,8,8,8,8,8,8,8,8,8,8,8,8,8,8,8,8,8,8,8,8,8,8,8,8,8,8,8,8,8,8,8,8,8,8,8,8,8,8,8,8,8,8,8,8,8,8,8,8,8,8,8,8,8,8,8,8,8,8,8,8,8,8,8,8,8,8,8,8,8,8,8,8,8,8,8,8,8,8]⟩ : ByteArray)) (IntKind.wrap .u8 (Int.fdiv x0 (2 ^ 16)))).bind fun n17 =>
some ((IntKind.wrap .i64 ((IntKind.wrap .i64 (0 + 16)) + (IntKind.wrap .i64 n17))))))
else (
bif decide (x0 ≥ 256) then (
(ixS ((⟨#[0,1,2,2,3,3,3,3,4,4,4,4,4,4,4,4,5,5,5,5,5,5,5,5,5,5,5,5,5,5,5,5,6,6,6,6,6,6,6,6,6,6,6,6,6,6,6,6,6,6,6,6,6,6,6,6,6,6,6,6,6,6,6,6,7,7,7,7,7,7,7,7,7,7,7,7,7,7,7,7,7,7,7,7,7,7,7,7,7,7,7,7,7,7,7,7,7,7,7,7,7,7,7,7,7,7,7,7,7,7,7,7,7,7,7,7,7,7,7,7,7,7,7,7,7,7,7,7,8,8,8,8,8,8,8,8,8,8,8,8,8,8,8,8,8,8,8,8,8,8,8,8,8,8,8,8,8,8,8,8,8,8,8,8,8,8,8,8,8,8,8,8,8,8,8,8,8,8,8,8,8,8,8,8,8,8,8,8,8,8,8,8,8,8,8,8,8,8,8,8,8,8,8,8,8,8,8,8,8,8,8,8,8,8,8,8,8,8,8,8,8,8,8,8,8,8,8,8,8,8,8,8,8,8,8,8,8,8,8,8,8,8,8,8,8,8,8,8,8,8,8,8,8,8,8,8]⟩ : ByteArray)) (IntKind.wrap .u8 (Int.fdiv x0 (2 ^ 8)))).bind fun n20 =>
some ((IntKind.wrap .i64 ((IntKind.wrap .i64 (0 + 8)) + (IntKind.wrap .i64 n20)))))
else (
(ixS ((⟨#[0,1,2,2,3,3,3,3,4,4,4,4,4,4,4,4,5,5,5,5,5,5,5,5,5,5,5,5,5,5,5,5,6,6,6,6,6,6,6,6,6,6,6,6,6,6,6,6,6,6,6,6,6,6,6,6,6,6,6,6,6,6,6,6,7,7,7,7,7,7,7,7,7,7,7,7,7,7,7,7,7,7,7,7,7,7,7,7,7,7,7,7,7,7,7,7,7,7,7,7,7,7,7,7,7,7,7,7,7,7,7,7,7,7,7,7,7,7,7,7,7,7,7,7,7,7,7,7,8,8,8,8,8,8,8,8,8,8,8,8,8,8,8,8,8,8,8,8,8,8,8,8,8,8,8,8,8,8,8,8,8,8,8,8,8,8,8,8,8,8,8,8,8,8,8,8,8,8,8,8,8,8,8,8,8,8,8,8,8,8,8,8,8,8,8,8,8,8,8,8,8,8,8,8,8,8,8,8,8,8,8,8,8,8,8,8,8,8,8,8,8,8,8,8,8,8,8,8,8,8,8,8,8,8,8,8,8,8,8,8,8,8,8,8,8,8,8,8,8,8,8,8,8,8,8,8]⟩ : ByteArray)) (IntKind.wrap .u8 x0)).bind fun n22 =>
some ((IntKind.wrap .i64 (0 + (IntKind.wrap .i64 n22)))))))
theorem math_bits_Len64_ok {h : H} {σ : Stamp} (x0 : Int) : Sim (p_math_bits_Len64 x0) (ev G X0 151 σ [(.p (.int .u64 x0))] h) (fun r s => s = ([.v (.p (.int .i64 r))],h)):=by
 refine .ev rfl (Sim.ext (math_bits_Len64_entry _ _ _ _ _) ?_)
 rw [p_math_bits_Len64]
 have S0 : Fm 25 h [] [] [] (List.replicate 25 []::h):=Fm.start0
 refine .cq ?_ ?_
 ·refine .cq ?_ ?_
  ·refine .cq ?_ ?_
   ·refine .bd fun n4 h5 => ?_
    refine .op (ixS_ok h5) ?_
    refine .ci ?_
    exact .fin (S0.finN (lC (sI _ _).lv lN)) rfl
   refine .bd fun n6 h7 => ?_
   refine .op (ixS_ok h7) ?_
   refine .ci ?_
   exact .fin (S0.finN (lC (sI _ _).lv lN)) rfl
  refine .cq ?_ ?_
  ·refine .bd fun n9 h10 => ?_
   refine .op (ixS_ok h10) ?_
   refine .ci ?_
   exact .fin (S0.finN (lC (sI _ _).lv lN)) rfl
  refine .bd fun n11 h12 => ?_
  refine .op (ixS_ok h12) ?_
  refine .ci ?_
  exact .fin (S0.finN (lC (sI _ _).lv lN)) rfl
 refine .cq ?_ ?_
 ·refine .cq ?_ ?_
  ·refine .bd fun n15 h16 => ?_
   refine .op (ixS_ok h16) ?_
   refine .ci ?_
   exact .fin (S0.finN (lC (sI _ _).lv lN)) rfl
  refine .bd fun n17 h18 => ?_
  refine .op (ixS_ok h18) ?_
  refine .ci ?_
  exact .fin (S0.finN (lC (sI _ _).lv lN)) rfl
 refine .cq ?_ ?_
 ·refine .bd fun n20 h21 => ?_
  refine .op (ixS_ok h21) ?_
  refine .ci ?_
  exact .fin (S0.finN (lC (sI _ _).lv lN)) rfl
 refine .bd fun n22 h23 => ?_
 refine .op (ixS_ok h23) ?_
 refine .ci ?_
 exact .fin (S0.finN (lC (sI _ _).lv lN)) rfl
def p_math_bits_Len (x0 : Int) : Option (Int) :=
(p_math_bits_Len64 x0).bind fun r1 =>
some (r1)
theorem math_bits_Len_ok {h : H} {σ : Stamp} (x0 : Int) : Sim (p_math_bits_Len x0) (ev G X0 101 σ [(.p (.int .u64 x0))] h) (fun r s => s = ([.v (.p (.int .i64 r))],h)):=by
 refine .ev rfl (Sim.ext (math_bits_Len_entry _ _ _ _ _) ?_)
 rw [p_math_bits_Len]
 have S0 : Fm 8 h [] [] [] (List.replicate 8 []::h):=Fm.start0
 refine .cdf rfl ?_
 refine .call (math_bits_Len64_ok x0) fun r1 cs2 H3 h4 q5 => ?_
 cases q5
 refine .ci ?_
 exact .fin (S0.finN (lC (sI _ _).lv lN)) rfl
end
end Go.Ev
namespace Go.Ev
open Go.Proofs
set_option linter.unusedVariables false
set_option linter.unusedSimpArgs false
set_option maxRecDepth 100000
noncomputable section
abbrev KT2:=Exit→Env→H→Option (List C × H)
variable (rec : CallF) (loop : LoopV) (σ : Stamp)
def slices_pdqsortCmpFunc_alarm_Due_c0 : Code:=(codeAt (bodyOf Try.f100) [1,1,0,0])
def slices_pdqsortCmpFunc_alarm_Due_l0 : Lv:=⟨0,0,[(0,0)]⟩
def slices_pdqsortCmpFunc_alarm_Due_k0 (rec : CallF) (loop : LoopV) (σ : Stamp) : KT2:=(kBlock 0 (finC G false Try.f100 (1::σ)))
theorem slices_pdqsortCmpFunc_alarm_Due_entry (x0 : V) (x1 : Int) (x2 : Int) (x3 : Int) (x4 : V) (h : H) : cvBody G rec loop 100 σ [x0,(.p (.int .i64 x1)),(.p (.int .i64 x2)),(.p (.int .i64 x3)),x4] h =
(loop slices_pdqsortCmpFunc_alarm_Due_c0 slices_pdqsortCmpFunc_alarm_Due_l0 (1::1::0::σ) (envL [(0,x0),(1,(.p (.int .i64 x1))),(2,(.p (.int .i64 x2))),(3,(.p (.int .i64 x3))),(4,x4),(10,(.p (.bool true))),(11,(.p (.bool true)))]) (List.replicate 148 []::h)).bind fun r1 => slices_pdqsortCmpFunc_alarm_Due_k0 rec loop σ r1.1 r1.2.1 r1.2.2:=by kernel_rfl
theorem slices_pdqsortCmpFunc_alarm_Due_r0 (x0 : V) (x1 : Int) (x2 : Int) (x3 : Int) (x4 : V) (x10 : Bool) (x11 : Bool) (h : H) : cvRound G rec loop slices_pdqsortCmpFunc_alarm_Due_c0 slices_pdqsortCmpFunc_alarm_Due_l0 σ (envL [(0,x0),(1,(.p (.int .i64 x1))),(2,(.p (.int .i64 x2))),(3,(.p (.int .i64 x3))),(4,x4),(10,(.p (.bool x10))),(11,(.p (.bool x11)))]) h =
bif decide ((IntKind.wrap .i64 (x2 - x1)) ≤ 12) then (
(callO rec 142 (4::0::1::0::1::0::σ) [x0,(.p (.int .i64 x1)),(.p (.int .i64 x2)),x4] h (some 30)).bind fun q2 =>
some (.ret,(envL []),q2.2))
else (
bif x3 == 0 then (
(callO rec 143 (4::0::1::0::1::1::0::σ) [x0,(.p (.int .i64 x1)),(.p (.int .i64 x2)),x4] h (some 37)).bind fun q3 =>
some (.ret,(envL []),q3.2))
else (
bif !x10 then (
(callO rec 144 (4::0::1::0::1::1::1::0::σ) [x0,(.p (.int .i64 x1)),(.p (.int .i64 x2)),x4] h (some 44)).bind fun q4 =>
(callO rec 145 (4::0::1::1::1::1::0::σ) [x0,(.p (.int .i64 x1)),(.p (.int .i64 x2)),x4] q4.2 (some 52)).bind fun q5 =>
(extV q5.1 0).bind fun t6 =>
(castI .i64 t6).bind fun n7 =>
(extV q5.1 1).bind fun t8 =>
(castI .i64 t8).bind fun n9 =>
bif n9 == 2 then (
(callO rec 146 (4::0::1::0::1::1::1::1::1::0::σ) [x0,(.p (.int .i64 x1)),(.p (.int .i64 x2)),x4] q5.2 (some 61)).bind fun q10 =>
(bif x10 then (some x11) else (some false)).bind fun b11 =>
(bif b11 then (some (1 == 1)) else (some false)).bind fun b12 =>
bif b12 then (
(callO rec 147 (4::0::1::0::1::1::1::1::1::1::0::σ) [x0,(.p (.int .i64 x1)),(.p (.int .i64 x2)),x4] q10.2 (some 80)).bind fun q13 =>
(asB q13.1).bind fun b14 =>
bif b14 then (
some (.ret,(envL []),q13.2))
else (
(bif decide (x1 > 0) then ((iS 2 x0 (IntKind.wrap .i64 (x1 - 1))).bind fun t15 =>
(ldO true 2 q13.2 t15).bind fun t16 =>
(iS 2 x0 (IntKind.wrap .i64 ((IntKind.wrap .i64 (x2 - 1)) - (IntKind.wrap .i64 (n7 - x1))))).bind fun t17 =>
(ldO true 2 q13.2 t17).bind fun t18 =>
(cloO rec x4 (13::0::0::1::1::1::1::1::1::1::0::σ) [t16,t18] q13.2 (some 94)).bind fun q19 =>
(castI .i64 q19.1).bind fun n20 =>
some ((.p (.bool (!(decide (n20 < 0))))),q19.2)) else (some ((.p (.bool false)),q13.2))).bind fun q21 =>
(asB q21.1).bind fun b22 =>
bif b22 then (
(callO rec 148 (5::0::1::0::1::1::1::1::1::1::1::0::σ) [x0,(.p (.int .i64 x1)),(.p (.int .i64 x2)),(.p (.int .i64 (IntKind.wrap .i64 ((IntKind.wrap .i64 (x2 - 1)) - (IntKind.wrap .i64 (n7 - x1)))))),x4] q21.2 (some 103)).bind fun q23 =>
(castI .i64 q23.1).bind fun n24 =>
loop slices_pdqsortCmpFunc_alarm_Due_c0 slices_pdqsortCmpFunc_alarm_Due_l0 (1::σ) (envL [(0,x0),(1,(.p (.int .i64 n24))),(2,(.p (.int .i64 x2))),(3,(.p (.int .i64 (IntKind.wrap .i64 (x3 - 1))))),(4,x4),(10,(.p (.bool x10))),(11,(.p (.bool x11)))]) q23.2)
else (
(callO rec 149 (5::0::1::1::1::1::1::1::1::1::0::σ) [x0,(.p (.int .i64 x1)),(.p (.int .i64 x2)),(.p (.int .i64 (IntKind.wrap .i64 ((IntKind.wrap .i64 (x2 - 1)) - (IntKind.wrap .i64 (n7 - x1)))))),x4] q21.2 (some 111)).bind fun q25 =>
(extV q25.1 0).bind fun t26 =>
(castI .i64 t26).bind fun n27 =>
(extV q25.1 1).bind fun t28 =>
(asB t28).bind fun b29 =>
bif decide ((IntKind.wrap .i64 (n27 - x1)) < (IntKind.wrap .i64 (x2 - n27))) then (
(callO rec 100 (5::0::1::1::1::1::1::1::1::1::1::1::1::1::1::1::0::σ) [x0,(.p (.int .i64 x1)),(.p (.int .i64 n27)),(.p (.int .i64 (IntKind.wrap .i64 (x3 - 1)))),x4] q25.2 (some 134)).bind fun q30 =>
loop slices_pdqsortCmpFunc_alarm_Due_c0 slices_pdqsortCmpFunc_alarm_Due_l0 (1::σ) (envL [(0,x0),(1,(.p (.int .i64 (IntKind.wrap .i64 (n27 + 1))))),(2,(.p (.int .i64 x2))),(3,(.p (.int .i64 (IntKind.wrap .i64 (x3 - 1))))),(4,x4),(10,(.p (.bool (decide ((IntKind.wrap .i64 (n27 - x1)) ≥ (IntKind.wrap .i64 (Int.tdiv (IntKind.wrap .i64 (x2 - x1)) 8))))))),(11,(.p (.bool b29)))]) q30.2)
else (
(callO rec 100 (6::0::1::1::1::1::1::1::1::1::1::1::1::1::1::1::0::σ) [x0,(.p (.int .i64 (IntKind.wrap .i64 (n27 + 1)))),(.p (.int .i64 x2)),(.p (.int .i64 (IntKind.wrap .i64 (x3 - 1)))),x4] q25.2 (some 146)).bind fun q31 =>
loop slices_pdqsortCmpFunc_alarm_Due_c0 slices_pdqsortCmpFunc_alarm_Due_l0 (1::σ) (envL [(0,x0),(1,(.p (.int .i64 x1))),(2,(.p (.int .i64 n27))),(3,(.p (.int .i64 (IntKind.wrap .i64 (x3 - 1))))),(4,x4),(10,(.p (.bool (decide ((IntKind.wrap .i64 (x2 - n27)) ≥ (IntKind.wrap .i64 (Int.tdiv (IntKind.wrap .i64 (x2 - x1)) 8))))))),(11,(.p (.bool b29)))]) q31.2))))
else (
(bif decide (x1 > 0) then ((iS 2 x0 (IntKind.wrap .i64 (x1 - 1))).bind fun t32 =>
(ldO true 2 q10.2 t32).bind fun t33 =>
(iS 2 x0 (IntKind.wrap .i64 ((IntKind.wrap .i64 (x2 - 1)) - (IntKind.wrap .i64 (n7 - x1))))).bind fun t34 =>
(ldO true 2 q10.2 t34).bind fun t35 =>
(cloO rec x4 (13::0::0::1::1::1::1::1::1::1::0::σ) [t33,t35] q10.2 (some 94)).bind fun q36 =>
(castI .i64 q36.1).bind fun n37 =>
some ((.p (.bool (!(decide (n37 < 0))))),q36.2)) else (some ((.p (.bool false)),q10.2))).bind fun q38 =>
(asB q38.1).bind fun b39 =>
bif b39 then (
(callO rec 148 (5::0::1::0::1::1::1::1::1::1::1::0::σ) [x0,(.p (.int .i64 x1)),(.p (.int .i64 x2)),(.p (.int .i64 (IntKind.wrap .i64 ((IntKind.wrap .i64 (x2 - 1)) - (IntKind.wrap .i64 (n7 - x1)))))),x4] q38.2 (some 103)).bind fun q40 =>
(castI .i64 q40.1).bind fun n41 =>
loop slices_pdqsortCmpFunc_alarm_Due_c0 slices_pdqsortCmpFunc_alarm_Due_l0 (1::σ) (envL [(0,x0),(1,(.p (.int .i64 n41))),(2,(.p (.int .i64 x2))),(3,(.p (.int .i64 (IntKind.wrap .i64 (x3 - 1))))),(4,x4),(10,(.p (.bool x10))),(11,(.p (.bool x11)))]) q40.2)
else (
(callO rec 149 (5::0::1::1::1::1::1::1::1::1::0::σ) [x0,(.p (.int .i64 x1)),(.p (.int .i64 x2)),(.p (.int .i64 (IntKind.wrap .i64 ((IntKind.wrap .i64 (x2 - 1)) - (IntKind.wrap .i64 (n7 - x1)))))),x4] q38.2 (some 111)).bind fun q42 =>
(extV q42.1 0).bind fun t43 =>
(castI .i64 t43).bind fun n44 =>
(extV q42.1 1).bind fun t45 =>
(asB t45).bind fun b46 =>
bif decide ((IntKind.wrap .i64 (n44 - x1)) < (IntKind.wrap .i64 (x2 - n44))) then (
(callO rec 100 (5::0::1::1::1::1::1::1::1::1::1::1::1::1::1::1::0::σ) [x0,(.p (.int .i64 x1)),(.p (.int .i64 n44)),(.p (.int .i64 (IntKind.wrap .i64 (x3 - 1)))),x4] q42.2 (some 134)).bind fun q47 =>
loop slices_pdqsortCmpFunc_alarm_Due_c0 slices_pdqsortCmpFunc_alarm_Due_l0 (1::σ) (envL [(0,x0),(1,(.p (.int .i64 (IntKind.wrap .i64 (n44 + 1))))),(2,(.p (.int .i64 x2))),(3,(.p (.int .i64 (IntKind.wrap .i64 (x3 - 1))))),(4,x4),(10,(.p (.bool (decide ((IntKind.wrap .i64 (n44 - x1)) ≥ (IntKind.wrap .i64 (Int.tdiv (IntKind.wrap .i64 (x2 - x1)) 8))))))),(11,(.p (.bool b46)))]) q47.2)
else (
(callO rec 100 (6::0::1::1::1::1::1::1::1::1::1::1::1::1::1::1::0::σ) [x0,(.p (.int .i64 (IntKind.wrap .i64 (n44 + 1)))),(.p (.int .i64 x2)),(.p (.int .i64 (IntKind.wrap .i64 (x3 - 1)))),x4] q42.2 (some 146)).bind fun q48 =>
loop slices_pdqsortCmpFunc_alarm_Due_c0 slices_pdqsortCmpFunc_alarm_Due_l0 (1::σ) (envL [(0,x0),(1,(.p (.int .i64 x1))),(2,(.p (.int .i64 n44))),(3,(.p (.int .i64 (IntKind.wrap .i64 (x3 - 1))))),(4,x4),(10,(.p (.bool (decide ((IntKind.wrap .i64 (x2 - n44)) ≥ (IntKind.wrap .i64 (Int.tdiv (IntKind.wrap .i64 (x2 - x1)) 8))))))),(11,(.p (.bool b46)))]) q48.2))))
else (
(bif x10 then (some x11) else (some false)).bind fun b49 =>
(bif b49 then (some (n9 == 1)) else (some false)).bind fun b50 =>
bif b50 then (
(callO rec 147 (4::0::1::0::1::1::1::1::1::1::0::σ) [x0,(.p (.int .i64 x1)),(.p (.int .i64 x2)),x4] q5.2 (some 80)).bind fun q51 =>
(asB q51.1).bind fun b52 =>
bif b52 then (
some (.ret,(envL []),q51.2))
else (
(bif decide (x1 > 0) then ((iS 2 x0 (IntKind.wrap .i64 (x1 - 1))).bind fun t53 =>
(ldO true 2 q51.2 t53).bind fun t54 =>
(iS 2 x0 n7).bind fun t55 =>
(ldO true 2 q51.2 t55).bind fun t56 =>
(cloO rec x4 (13::0::0::1::1::1::1::1::1::1::0::σ) [t54,t56] q51.2 (some 94)).bind fun q57 =>
(castI .i64 q57.1).bind fun n58 =>
some ((.p (.bool (!(decide (n58 < 0))))),q57.2)) else (some ((.p (.bool false)),q51.2))).bind fun q59 =>
(asB q59.1).bind fun b60 =>
bif b60 then (
(callO rec 148 (5::0::1::0::1::1::1::1::1::1::1::0::σ) [x0,(.p (.int .i64 x1)),(.p (.int .i64 x2)),(.p (.int .i64 n7)),x4] q59.2 (some 103)).bind fun q61 =>
(castI .i64 q61.1).bind fun n62 =>
loop slices_pdqsortCmpFunc_alarm_Due_c0 slices_pdqsortCmpFunc_alarm_Due_l0 (1::σ) (envL [(0,x0),(1,(.p (.int .i64 n62))),(2,(.p (.int .i64 x2))),(3,(.p (.int .i64 (IntKind.wrap .i64 (x3 - 1))))),(4,x4),(10,(.p (.bool x10))),(11,(.p (.bool x11)))]) q61.2)
else (
(callO rec 149 (5::0::1::1::1::1::1::1::1::1::0::σ) [x0,(.p (.int .i64 x1)),(.p (.int .i64 x2)),(.p (.int .i64 n7)),x4] q59.2 (some 111)).bind fun q63 =>
(extV q63.1 0).bind fun t64 =>
(castI .i64 t64).bind fun n65 =>
(extV q63.1 1).bind fun t66 =>
(asB t66).bind fun b67 =>
bif decide ((IntKind.wrap .i64 (n65 - x1)) < (IntKind.wrap .i64 (x2 - n65))) then (
(callO rec 100 (5::0::1::1::1::1::1::1::1::1::1::1::1::1::1::1::0::σ) [x0,(.p (.int .i64 x1)),(.p (.int .i64 n65)),(.p (.int .i64 (IntKind.wrap .i64 (x3 - 1)))),x4] q63.2 (some 134)).bind fun q68 =>
loop slices_pdqsortCmpFunc_alarm_Due_c0 slices_pdqsortCmpFunc_alarm_Due_l0 (1::σ) (envL [(0,x0),(1,(.p (.int .i64 (IntKind.wrap .i64 (n65 + 1))))),(2,(.p (.int .i64 x2))),(3,(.p (.int .i64 (IntKind.wrap .i64 (x3 - 1))))),(4,x4),(10,(.p (.bool (decide ((IntKind.wrap .i64 (n65 - x1)) ≥ (IntKind.wrap .i64 (Int.tdiv (IntKind.wrap .i64 (x2 - x1)) 8))))))),(11,(.p (.bool b67)))]) q68.2)
else (
(callO rec 100 (6::0::1::1::1::1::1::1::1::1::1::1::1::1::1::1::0::σ) [x0,(.p (.int .i64 (IntKind.wrap .i64 (n65 + 1)))),(.p (.int .i64 x2)),(.p (.int .i64 (IntKind.wrap .i64 (x3 - 1)))),x4] q63.2 (some 146)).bind fun q69 =>
loop slices_pdqsortCmpFunc_alarm_Due_c0 slices_pdqsortCmpFunc_alarm_Due_l0 (1::σ) (envL [(0,x0),(1,(.p (.int .i64 x1))),(2,(.p (.int .i64 n65))),(3,(.p (.int .i64 (IntKind.wrap .i64 (x3 - 1))))),(4,x4),(10,(.p (.bool (decide ((IntKind.wrap .i64 (x2 - n65)) ≥ (IntKind.wrap .i64 (Int.tdiv (IntKind.wrap .i64 (x2 - x1)) 8))))))),(11,(.p (.bool b67)))]) q69.2))))
else (
(bif decide (x1 > 0) then ((iS 2 x0 (IntKind.wrap .i64 (x1 - 1))).bind fun t70 =>
(ldO true 2 q5.2 t70).bind fun t71 =>
(iS 2 x0 n7).bind fun t72 =>
(ldO true 2 q5.2 t72).bind fun t73 =>
(cloO rec x4 (13::0::0::1::1::1::1::1::1::1::0::σ) [t71,t73] q5.2 (some 94)).bind fun q74 =>
(castI .i64 q74.1).bind fun n75 =>
some ((.p (.bool (!(decide (n75 < 0))))),q74.2)) else (some ((.p (.bool false)),q5.2))).bind fun q76 =>
(asB q76.1).bind fun b77 =>
bif b77 then (
(callO rec 148 (5::0::1::0::1::1::1::1::1::1::1::0::σ) [x0,(.p (.int .i64 x1)),(.p (.int .i64 x2)),(.p (.int .i64 n7)),x4] q76.2 (some 103)).bind fun q78 =>
(castI .i64 q78.1).bind fun n79 =>
loop slices_pdqsortCmpFunc_alarm_Due_c0 slices_pdqsortCmpFunc_alarm_Due_l0 (1::σ) (envL [(0,x0),(1,(.p (.int .i64 n79))),(2,(.p (.int .i64 x2))),(3,(.p (.int .i64 (IntKind.wrap .i64 (x3 - 1))))),(4,x4),(10,(.p (.bool x10))),(11,(.p (.bool x11)))]) q78.2)
else (
(callO rec 149 (5::0::1::1::1::1::1::1::1::1::0::σ) [x0,(.p (.int .i64 x1)),(.p (.int .i64 x2)),(.p (.int .i64 n7)),x4] q76.2 (some 111)).bind fun q80 =>
(extV q80.1 0).bind fun t81 =>
(castI .i64 t81).bind fun n82 =>
(extV q80.1 1).bind fun t83 =>
(asB t83).bind fun b84 =>
bif decide ((IntKind.wrap .i64 (n82 - x1)) < (IntKind.wrap .i64 (x2 - n82))) then (
(callO rec 100 (5::0::1::1::1::1::1::1::1::1::1::1::1::1::1::1::0::σ) [x0,(.p (.int .i64 x1)),(.p (.int .i64 n82)),(.p (.int .i64 (IntKind.wrap .i64 (x3 - 1)))),x4] q80.2 (some 134)).bind fun q85 =>
loop slices_pdqsortCmpFunc_alarm_Due_c0 slices_pdqsortCmpFunc_alarm_Due_l0 (1::σ) (envL [(0,x0),(1,(.p (.int .i64 (IntKind.wrap .i64 (n82 + 1))))),(2,(.p (.int .i64 x2))),(3,(.p (.int .i64 (IntKind.wrap .i64 (x3 - 1))))),(4,x4),(10,(.p (.bool (decide ((IntKind.wrap .i64 (n82 - x1)) ≥ (IntKind.wrap .i64 (Int.tdiv (IntKind.wrap .i64 (x2 - x1)) 8))))))),(11,(.p (.bool b84)))]) q85.2)
else (
(callO rec 100 (6::0::1::1::1::1::1::1::1::1::1::1::1::1::1::1::0::σ) [x0,(.p (.int .i64 (IntKind.wrap .i64 (n82 + 1)))),(.p (.int .i64 x2)),(.p (.int .i64 (IntKind.wrap .i64 (x3 - 1)))),x4] q80.2 (some 146)).bind fun q86 =>
loop slices_pdqsortCmpFunc_alarm_Due_c0 slices_pdqsortCmpFunc_alarm_Due_l0 (1::σ) (envL [(0,x0),(1,(.p (.int .i64 x1))),(2,(.p (.int .i64 n82))),(3,(.p (.int .i64 (IntKind.wrap .i64 (x3 - 1))))),(4,x4),(10,(.p (.bool (decide ((IntKind.wrap .i64 (x2 - n82)) ≥ (IntKind.wrap .i64 (Int.tdiv (IntKind.wrap .i64 (x2 - x1)) 8))))))),(11,(.p (.bool b84)))]) q86.2)))))
else (
(callO rec 145 (4::0::1::1::1::1::0::σ) [x0,(.p (.int .i64 x1)),(.p (.int .i64 x2)),x4] h (some 52)).bind fun q87 =>
(extV q87.1 0).bind fun t88 =>
(castI .i64 t88).bind fun n89 =>
(extV q87.1 1).bind fun t90 =>
(castI .i64 t90).bind fun n91 =>
bif n91 == 2 then (
(callO rec 146 (4::0::1::0::1::1::1::1::1::0::σ) [x0,(.p (.int .i64 x1)),(.p (.int .i64 x2)),x4] q87.2 (some 61)).bind fun q92 =>
(bif x10 then (some x11) else (some false)).bind fun b93 =>
(bif b93 then (some (1 == 1)) else (some false)).bind fun b94 =>
bif b94 then (
(callO rec 147 (4::0::1::0::1::1::1::1::1::1::0::σ) [x0,(.p (.int .i64 x1)),(.p (.int .i64 x2)),x4] q92.2 (some 80)).bind fun q95 =>
(asB q95.1).bind fun b96 =>
bif b96 then (
some (.ret,(envL []),q95.2))
else (
(bif decide (x1 > 0) then ((iS 2 x0 (IntKind.wrap .i64 (x1 - 1))).bind fun t97 =>
(ldO true 2 q95.2 t97).bind fun t98 =>
(iS 2 x0 (IntKind.wrap .i64 ((IntKind.wrap .i64 (x2 - 1)) - (IntKind.wrap .i64 (n89 - x1))))).bind fun t99 =>
(ldO true 2 q95.2 t99).bind fun t100 =>
(cloO rec x4 (13::0::0::1::1::1::1::1::1::1::0::σ) [t98,t100] q95.2 (some 94)).bind fun q101 =>
(castI .i64 q101.1).bind fun n102 =>
some ((.p (.bool (!(decide (n102 < 0))))),q101.2)) else (some ((.p (.bool false)),q95.2))).bind fun q103 =>
(asB q103.1).bind fun b104 =>
bif b104 then (
(callO rec 148 (5::0::1::0::1::1::1::1::1::1::1::0::σ) [x0,(.p (.int .i64 x1)),(.p (.int .i64 x2)),(.p (.int .i64 (IntKind.wrap .i64 ((IntKind.wrap .i64 (x2 - 1)) - (IntKind.wrap .i64 (n89 - x1)))))),x4] q103.2 (some 103)).bind fun q105 =>
(castI .i64 q105.1).bind fun n106 =>
loop slices_pdqsortCmpFunc_alarm_Due_c0 slices_pdqsortCmpFunc_alarm_Due_l0 (1::σ) (envL [(0,x0),(1,(.p (.int .i64 n106))),(2,(.p (.int .i64 x2))),(3,(.p (.int .i64 x3))),(4,x4),(10,(.p (.bool x10))),(11,(.p (.bool x11)))]) q105.2)
else (
(callO rec 149 (5::0::1::1::1::1::1::1::1::1::0::σ) [x0,(.p (.int .i64 x1)),(.p (.int .i64 x2)),(.p (.int .i64 (IntKind.wrap .i64 ((IntKind.wrap .i64 (x2 - 1)) - (IntKind.wrap .i64 (n89 - x1)))))),x4] q103.2 (some 111)).bind fun q107 =>
(extV q107.1 0).bind fun t108 =>
(castI .i64 t108).bind fun n109 =>
(extV q107.1 1).bind fun t110 =>
(asB t110).bind fun b111 =>
bif decide ((IntKind.wrap .i64 (n109 - x1)) < (IntKind.wrap .i64 (x2 - n109))) then (
(callO rec 100 (5::0::1::1::1::1::1::1::1::1::1::1::1::1::1::1::0::σ) [x0,(.p (.int .i64 x1)),(.p (.int .i64 n109)),(.p (.int .i64 x3)),x4] q107.2 (some 134)).bind fun q112 =>
loop slices_pdqsortCmpFunc_alarm_Due_c0 slices_pdqsortCmpFunc_alarm_Due_l0 (1::σ) (envL [(0,x0),(1,(.p (.int .i64 (IntKind.wrap .i64 (n109 + 1))))),(2,(.p (.int .i64 x2))),(3,(.p (.int .i64 x3))),(4,x4),(10,(.p (.bool (decide ((IntKind.wrap .i64 (n109 - x1)) ≥ (IntKind.wrap .i64 (Int.tdiv (IntKind.wrap .i64 (x2 - x1)) 8))))))),(11,(.p (.bool b111)))]) q112.2)
else (
(callO rec 100 (6::0::1::1::1::1::1::1::1::1::1::1::1::1::1::1::0::σ) [x0,(.p (.int .i64 (IntKind.wrap .i64 (n109 + 1)))),(.p (.int .i64 x2)),(.p (.int .i64 x3)),x4] q107.2 (some 146)).bind fun q113 =>
loop slices_pdqsortCmpFunc_alarm_Due_c0 slices_pdqsortCmpFunc_alarm_Due_l0 (1::σ) (envL [(0,x0),(1,(.p (.int .i64 x1))),(2,(.p (.int .i64 n109))),(3,(.p (.int .i64 x3))),(4,x4),(10,(.p (.bool (decide ((IntKind.wrap .i64 (x2 - n109)) ≥ (IntKind.wrap .i64 (Int.tdiv (IntKind.wrap .i64 (x2 - x1)) 8))))))),(11,(.p (.bool b111)))]) q113.2))))
else (
(bif decide (x1 > 0) then ((iS 2 x0 (IntKind.wrap .i64 (x1 - 1))).bind fun t114 =>
(ldO true 2 q92.2 t114).bind fun t115 =>
(iS 2 x0 (IntKind.wrap .i64 ((IntKind.wrap .i64 (x2 - 1)) - (IntKind.wrap .i64 (n89 - x1))))).bind fun t116 =>
(ldO true 2 q92.2 t116).bind fun t117 =>
(cloO rec x4 (13::0::0::1::1::1::1::1::1::1::0::σ) [t115,t117] q92.2 (some 94)).bind fun q118 =>
(castI .i64 q118.1).bind fun n119 =>
some ((.p (.bool (!(decide (n119 < 0))))),q118.2)) else (some ((.p (.bool false)),q92.2))).bind fun q120 =>
(asB q120.1).bind fun b121 =>
bif b121 then (
(callO rec 148 (5::0::1::0::1::1::1::1::1::1::1::0::σ) [x0,(.p (.int .i64 x1)),(.p (.int .i64 x2)),(.p (.int .i64 (IntKind.wrap .i64 ((IntKind.wrap .i64 (x2 - 1)) - (IntKind.wrap .i64 (n89 - x1)))))),x4] q120.2 (some 103)).bind fun q122 =>
(castI .i64 q122.1).bind fun n123 =>
loop slices_pdqsortCmpFunc_alarm_Due_c0 slices_pdqsortCmpFunc_alarm_Due_l0 (1::σ) (envL [(0,x0),(1,(.p (.int .i64 n123))),(2,(.p (.int .i64 x2))),(3,(.p (.int .i64 x3))),(4,x4),(10,(.p (.bool x10))),(11,(.p (.bool x11)))]) q122.2)
else (
(callO rec 149 (5::0::1::1::1::1::1::1::1::1::0::σ) [x0,(.p (.int .i64 x1)),(.p (.int .i64 x2)),(.p (.int .i64 (IntKind.wrap .i64 ((IntKind.wrap .i64 (x2 - 1)) - (IntKind.wrap .i64 (n89 - x1)))))),x4] q120.2 (some 111)).bind fun q124 =>
(extV q124.1 0).bind fun t125 =>
(castI .i64 t125).bind fun n126 =>
(extV q124.1 1).bind fun t127 =>
(asB t127).bind fun b128 =>
bif decide ((IntKind.wrap .i64 (n126 - x1)) < (IntKind.wrap .i64 (x2 - n126))) then (
(callO rec 100 (5::0::1::1::1::1::1::1::1::1::1::1::1::1::1::1::0::σ) [x0,(.p (.int .i64 x1)),(.p (.int .i64 n126)),(.p (.int .i64 x3)),x4] q124.2 (some 134)).bind fun q129 =>
loop slices_pdqsortCmpFunc_alarm_Due_c0 slices_pdqsortCmpFunc_alarm_Due_l0 (1::σ) (envL [(0,x0),(1,(.p (.int .i64 (IntKind.wrap .i64 (n126 + 1))))),(2,(.p (.int .i64 x2))),(3,(.p (.int .i64 x3))),(4,x4),(10,(.p (.bool (decide ((IntKind.wrap .i64 (n126 - x1)) ≥ (IntKind.wrap .i64 (Int.tdiv (IntKind.wrap .i64 (x2 - x1)) 8))))))),(11,(.p (.bool b128)))]) q129.2)
else (
(callO rec 100 (6::0::1::1::1::1::1::1::1::1::1::1::1::1::1::1::0::σ) [x0,(.p (.int .i64 (IntKind.wrap .i64 (n126 + 1)))),(.p (.int .i64 x2)),(.p (.int .i64 x3)),x4] q124.2 (some 146)).bind fun q130 =>
loop slices_pdqsortCmpFunc_alarm_Due_c0 slices_pdqsortCmpFunc_alarm_Due_l0 (1::σ) (envL [(0,x0),(1,(.p (.int .i64 x1))),(2,(.p (.int .i64 n126))),(3,(.p (.int .i64 x3))),(4,x4),(10,(.p (.bool (decide ((IntKind.wrap .i64 (x2 - n126)) ≥ (IntKind.wrap .i64 (Int.tdiv (IntKind.wrap .i64 (x2 - x1)) 8))))))),(11,(.p (.bool b128)))]) q130.2))))
else (
(bif x10 then (some x11) else (some false)).bind fun b131 =>
(bif b131 then (some (n91 == 1)) else (some false)).bind fun b132 =>
bif b132 then (
(callO rec 147 (4::0::1::0::1::1::1::1::1::1::0::σ) [x0,(.p (.int .i64 x1)),(.p (.int .i64 x2)),x4] q87.2 (some 80)).bind fun q133 =>
(asB q133.1).bind fun b134 =>
bif b134 then (
some (.ret,(envL []),q133.2))
else (
(bif decide (x1 > 0) then ((iS 2 x0 (IntKind.wrap .i64 (x1 - 1))).bind fun t135 =>
(ldO true 2 q133.2 t135).bind fun t136 =>
(iS 2 x0 n89).bind fun t137 =>
(ldO true 2 q133.2 t137).bind fun t138 =>
(cloO rec x4 (13::0::0::1::1::1::1::1::1::1::0::σ) [t136,t138] q133.2 (some 94)).bind fun q139 =>
(castI .i64 q139.1).bind fun n140 =>
some ((.p (.bool (!(decide (n140 < 0))))),q139.2)) else (some ((.p (.bool false)),q133.2))).bind fun q141 =>
(asB q141.1).bind fun b142 =>
bif b142 then (
(callO rec 148 (5::0::1::0::1::1::1::1::1::1::1::0::σ) [x0,(.p (.int .i64 x1)),(.p (.int .i64 x2)),(.p (.int .i64 n89)),x4] q141.2 (some 103)).bind fun q143 =>
(castI .i64 q143.1).bind fun n144 =>
loop slices_pdqsortCmpFunc_alarm_Due_c0 slices_pdqsortCmpFunc_alarm_Due_l0 (1::σ) (envL [(0,x0),(1,(.p (.int .i64 n144))),(2,(.p (.int .i64 x2))),(3,(.p (.int .i64 x3))),(4,x4),(10,(.p (.bool x10))),(11,(.p (.bool x11)))]) q143.2)
else (
(callO rec 149 (5::0::1::1::1::1::1::1::1::1::0::σ) [x0,(.p (.int .i64 x1)),(.p (.int .i64 x2)),(.p (.int .i64 n89)),x4] q141.2 (some 111)).bind fun q145 =>
(extV q145.1 0).bind fun t146 =>
(castI .i64 t146).bind fun n147 =>
(extV q145.1 1).bind fun t148 =>
(asB t148).bind fun b149 =>
bif decide ((IntKind.wrap .i64 (n147 - x1)) < (IntKind.wrap .i64 (x2 - n147))) then (
(callO rec 100 (5::0::1::1::1::1::1::1::1::1::1::1::1::1::1::1::0::σ) [x0,(.p (.int .i64 x1)),(.p (.int .i64 n147)),(.p (.int .i64 x3)),x4] q145.2 (some 134)).bind fun q150 =>
loop slices_pdqsortCmpFunc_alarm_Due_c0 slices_pdqsortCmpFunc_alarm_Due_l0 (1::σ) (envL [(0,x0),(1,(.p (.int .i64 (IntKind.wrap .i64 (n147 + 1))))),(2,(.p (.int .i64 x2))),(3,(.p (.int .i64 x3))),(4,x4),(10,(.p (.bool (decide ((IntKind.wrap .i64 (n147 - x1)) ≥ (IntKind.wrap .i64 (Int.tdiv (IntKind.wrap .i64 (x2 - x1)) 8))))))),(11,(.p (.bool b149)))]) q150.2)
else (
(callO rec 100 (6::0::1::1::1::1::1::1::1::1::1::1::1::1::1::1::0::σ) [x0,(.p (.int .i64 (IntKind.wrap .i64 (n147 + 1)))),(.p (.int .i64 x2)),(.p (.int .i64 x3)),x4] q145.2 (some 146)).bind fun q151 =>
loop slices_pdqsortCmpFunc_alarm_Due_c0 slices_pdqsortCmpFunc_alarm_Due_l0 (1::σ) (envL [(0,x0),(1,(.p (.int .i64 x1))),(2,(.p (.int .i64 n147))),(3,(.p (.int .i64 x3))),(4,x4),(10,(.p (.bool (decide ((IntKind.wrap .i64 (x2 - n147)) ≥ (IntKind.wrap .i64 (Int.tdiv (IntKind.wrap .i64 (x2 - x1)) 8))))))),(11,(.p (.bool b149)))]) q151.2))))
else (
(bif decide (x1 > 0) then ((iS 2 x0 (IntKind.wrap .i64 (x1 - 1))).bind fun t152 =>
(ldO true 2 q87.2 t152).bind fun t153 =>
(iS 2 x0 n89).bind fun t154 =>
(ldO true 2 q87.2 t154).bind fun t155 =>
(cloO rec x4 (13::0::0::1::1::1::1::1::1::1::0::σ) [t153,t155] q87.2 (some 94)).bind fun q156 =>
(castI .i64 q156.1).bind fun n157 =>
some ((.p (.bool (!(decide (n157 < 0))))),q156.2)) else (some ((.p (.bool false)),q87.2))).bind fun q158 =>
(asB q158.1).bind fun b159 =>
bif b159 then (
(callO rec 148 (5::0::1::0::1::1::1::1::1::1::1::0::σ) [x0,(.p (.int .i64 x1)),(.p (.int .i64 x2)),(.p (.int .i64 n89)),x4] q158.2 (some 103)).bind fun q160 =>
(castI .i64 q160.1).bind fun n161 =>
loop slices_pdqsortCmpFunc_alarm_Due_c0 slices_pdqsortCmpFunc_alarm_Due_l0 (1::σ) (envL [(0,x0),(1,(.p (.int .i64 n161))),(2,(.p (.int .i64 x2))),(3,(.p (.int .i64 x3))),(4,x4),(10,(.p (.bool x10))),(11,(.p (.bool x11)))]) q160.2)
else (
(callO rec 149 (5::0::1::1::1::1::1::1::1::1::0::σ) [x0,(.p (.int .i64 x1)),(.p (.int .i64 x2)),(.p (.int .i64 n89)),x4] q158.2 (some 111)).bind fun q162 =>
(extV q162.1 0).bind fun t163 =>
(castI .i64 t163).bind fun n164 =>
(extV q162.1 1).bind fun t165 =>
(asB t165).bind fun b166 =>
bif decide ((IntKind.wrap .i64 (n164 - x1)) < (IntKind.wrap .i64 (x2 - n164))) then (
(callO rec 100 (5::0::1::1::1::1::1::1::1::1::1::1::1::1::1::1::0::σ) [x0,(.p (.int .i64 x1)),(.p (.int .i64 n164)),(.p (.int .i64 x3)),x4] q162.2 (some 134)).bind fun q167 =>
loop slices_pdqsortCmpFunc_alarm_Due_c0 slices_pdqsortCmpFunc_alarm_Due_l0 (1::σ) (envL [(0,x0),(1,(.p (.int .i64 (IntKind.wrap .i64 (n164 + 1))))),(2,(.p (.int .i64 x2))),(3,(.p (.int .i64 x3))),(4,x4),(10,(.p (.bool (decide ((IntKind.wrap .i64 (n164 - x1)) ≥ (IntKind.wrap .i64 (Int.tdiv (IntKind.wrap .i64 (x2 - x1)) 8))))))),(11,(.p (.bool b166)))]) q167.2)
else (
(callO rec 100 (6::0::1::1::1::1::1::1::1::1::1::1::1::1::1::1::0::σ) [x0,(.p (.int .i64 (IntKind.wrap .i64 (n164 + 1)))),(.p (.int .i64 x2)),(.p (.int .i64 x3)),x4] q162.2 (some 146)).bind fun q168 =>
loop slices_pdqsortCmpFunc_alarm_Due_c0 slices_pdqsortCmpFunc_alarm_Due_l0 (1::σ) (envL [(0,x0),(1,(.p (.int .i64 x1))),(2,(.p (.int .i64 n164))),(3,(.p (.int .i64 x3))),(4,x4),(10,(.p (.bool (decide ((IntKind.wrap .i64 (x2 - n164)) ≥ (IntKind.wrap .i64 (Int.tdiv (IntKind.wrap .i64 (x2 - x1)) 8))))))),(11,(.p (.bool b166)))]) q168.2))))))):=by kernel_rfl
theorem slices_pdqsortCmpFunc_alarm_Due_a0_ret  (h : H) : slices_pdqsortCmpFunc_alarm_Due_k0 rec loop σ .ret (envL []) h =
fin false σ h []:=by kernel_rfl
theorem alarm_Table_Set_1_entry (x0 : V) (x1 : V) (h : H) : cvBody G rec loop 47 σ [x0,x1] h =
(boxO false (0::0::0::σ) 2 (List.replicate 17 []::h) x0).bind fun q1 =>
(boxO false (1::0::0::σ) 3 q1.2 x1).bind fun q2 =>
(fA q1.1 0).bind fun t3 =>
(ldO false 1 q2.2 t3).bind fun t4 =>
(castI .i64 t4).bind fun n5 =>
(fA q2.1 0).bind fun t6 =>
(ldO false 1 q2.2 t6).bind fun t7 =>
(castI .i64 t7).bind fun n8 =>
(fA q1.1 1).bind fun t9 =>
(ldO false 1 q2.2 t9).bind fun t10 =>
(castI .u64 t10).bind fun n11 =>
(fA q2.1 1).bind fun t12 =>
(ldO false 1 q2.2 t12).bind fun t13 =>
(castI .u64 t13).bind fun n14 =>
(callO rec 49 (4::0::1::0::σ) [(.p (.int .i64 n5)),(.p (.int .i64 n8))] q2.2 (some 9)).bind fun q15 =>
(castI .i64 q15.1).bind fun n16 =>
need (ldO false 1 q15.2 t12 = some (.p (.int .u64 n14))) (
need (ldO false 1 q15.2 t9 = some (.p (.int .u64 n11))) (
(callO rec 50 (9::0::1::0::σ) [(.p (.int .u64 n11)),(.p (.int .u64 n14))] q15.2 (some 14)).bind fun q17 =>
(castI .i64 q17.1).bind fun n18 =>
(bSV Try.prog 43 2 [(0,(.p (.int .i64 n16))),(1,(.p (.int .i64 n18)))]).bind fun t19 =>
(callO rec 48 (11::0::1::0::σ) [t19] q17.2 (some 16)).bind fun q20 =>
(castI .i64 q20.1).bind fun n21 =>
fin false σ q20.2 [(.p (.int .i64 n21))])):=by kernel_rfl
theorem cmp_Compare_int64_entry (x0 : Int) (x1 : Int) (h : H) : cvBody G rec loop 49 σ [(.p (.int .i64 x0)),(.p (.int .i64 x1))] h =
(callO rec 102 (1::0::1::0::σ) [(.p (.int .i64 x0))] (List.replicate 20 []::h) (some 8)).bind fun q1 =>
(asB q1.1).bind fun b2 =>
(callO rec 102 (1::0::1::1::0::σ) [(.p (.int .i64 x1))] q1.2 (some 10)).bind fun q3 =>
(asB q3.1).bind fun b4 =>
bif b2 then (
bif b4 then (
fin false σ q3.2 [(.p (.int .i64 0))])
else (
fin false σ q3.2 [(.p (.int .i64 (-1)))]))
else (
bif b4 then (
fin false σ q3.2 [(.p (.int .i64 1))])
else (
bif decide (x0 < x1) then (
fin false σ q3.2 [(.p (.int .i64 (-1)))])
else (
bif decide (x0 > x1) then (
fin false σ q3.2 [(.p (.int .i64 1))])
else (
fin false σ q3.2 [(.p (.int .i64 0))])))):=by kernel_rfl
theorem cmp_isNaN_int64_entry (x0 : Int) (h : H) : cvBody G rec loop 102 σ [(.p (.int .i64 x0))] h =
fin false σ (List.replicate 6 []::h) [(.p (.bool (x0 != x0)))]:=by kernel_rfl
end
end Go.Ev
namespace Go.Ev
open Go.Proofs
set_option linter.unusedVariables false
set_option linter.unusedSimpArgs false
set_option maxRecDepth 100000
section
variable {β α : Type} {Q : β→α→Prop} {K : Exit × Env × H→Option α}
def p_cmp_isNaN_int64 (x0 : Int) : Option (Bool) :=
some ((x0 != x0))
theorem cmp_isNaN_int64_ok {h : H} {σ : Stamp} (x0 : Int) : Sim (p_cmp_isNaN_int64 x0) (ev G X0 102 σ [(.p (.int .i64 x0))] h) (fun r s => s = ([.v (.p (.bool r))],h)):=by
 refine .ev rfl (Sim.ext (cmp_isNaN_int64_entry _ _ _ _ _) ?_)
 rw [p_cmp_isNaN_int64]
 have S0 : Fm 6 h [] [] [] (List.replicate 6 []::h):=Fm.start0
 exact .fin (S0.finN (lC (sB _).lv lN)) rfl
def p_cmp_Compare_int64 (x0 : Int) (x1 : Int) : Option (Int) :=
(p_cmp_isNaN_int64 x0).bind fun r1 =>
(p_cmp_isNaN_int64 x1).bind fun r6 =>
bif r1 then (
bif r6 then (
some (0))
else (
some ((-1))))
else (
bif r6 then (
some (1))
else (
bif decide (x0 < x1) then (
some ((-1)))
else (
bif decide (x0 > x1) then (
some (1))
else (
some (0)))))
theorem cmp_Compare_int64_ok {h : H} {σ : Stamp} (x0 : Int) (x1 : Int) : Sim (p_cmp_Compare_int64 x0 x1) (ev G X0 49 σ [(.p (.int .i64 x0)),(.p (.int .i64 x1))] h) (fun r s => s = ([.v (.p (.int .i64 r))],h)):=by
 refine .ev rfl (Sim.ext (cmp_Compare_int64_entry _ _ _ _ _ _) ?_)
 rw [p_cmp_Compare_int64]
 have S0 : Fm 20 h [] [] [] (List.replicate 20 []::h):=Fm.start0
 refine .call (cmp_isNaN_int64_ok x0) fun r1 cs2 H3 h4 q5 => ?_
 cases q5
 refine .ab ?_
 refine .call (cmp_isNaN_int64_ok x1) fun r6 cs7 H8 h9 q10 => ?_
 cases q10
 refine .ab ?_
 refine .cq ?_ ?_
 ·refine .cq ?_ ?_
  ·exact .fin (S0.finN (lC (sI _ _).lv lN)) rfl
  exact .fin (S0.finN (lC (sI _ _).lv lN)) rfl
 refine .cq ?_ ?_
 ·exact .fin (S0.finN (lC (sI _ _).lv lN)) rfl
 refine .cq ?_ ?_
 ·exact .fin (S0.finN (lC (sI _ _).lv lN)) rfl
 refine .cq ?_ ?_
 ·exact .fin (S0.finN (lC (sI _ _).lv lN)) rfl
 exact .fin (S0.finN (lC (sI _ _).lv lN)) rfl
end
end Go.Ev
namespace Go.Ev
open Go.Proofs
set_option linter.unusedVariables false
set_option linter.unusedSimpArgs false
set_option maxRecDepth 100000
noncomputable section
abbrev KT3:=Exit→Env→H→Option (List C × H)
variable (rec : CallF) (loop : LoopV) (σ : Stamp)
theorem cmp_Compare_uint64_entry (x0 : Int) (x1 : Int) (h : H) : cvBody G rec loop 50 σ [(.p (.int .u64 x0)),(.p (.int .u64 x1))] h =
(callO rec 103 (1::0::1::0::σ) [(.p (.int .u64 x0))] (List.replicate 20 []::h) (some 8)).bind fun q1 =>
(asB q1.1).bind fun b2 =>
(callO rec 103 (1::0::1::1::0::σ) [(.p (.int .u64 x1))] q1.2 (some 10)).bind fun q3 =>
(asB q3.1).bind fun b4 =>
bif b2 then (
bif b4 then (
fin false σ q3.2 [(.p (.int .i64 0))])
else (
fin false σ q3.2 [(.p (.int .i64 (-1)))]))
else (
bif b4 then (
fin false σ q3.2 [(.p (.int .i64 1))])
else (
bif decide (x0 < x1) then (
fin false σ q3.2 [(.p (.int .i64 (-1)))])
else (
bif decide (x0 > x1) then (
fin false σ q3.2 [(.p (.int .i64 1))])
else (
fin false σ q3.2 [(.p (.int .i64 0))])))):=by kernel_rfl
theorem cmp_isNaN_uint64_entry (x0 : Int) (h : H) : cvBody G rec loop 103 σ [(.p (.int .u64 x0))] h =
fin false σ (List.replicate 6 []::h) [(.p (.bool (x0 != x0)))]:=by kernel_rfl
end
end Go.Ev
namespace Go.Ev
open Go.Proofs
set_option linter.unusedVariables false
set_option linter.unusedSimpArgs false
set_option maxRecDepth 100000
section
variable {β α : Type} {Q : β→α→Prop} {K : Exit × Env × H→Option α}
def p_cmp_isNaN_uint64 (x0 : Int) : Option (Bool) :=
some ((x0 != x0))
theorem cmp_isNaN_uint64_ok {h : H} {σ : Stamp} (x0 : Int) : Sim (p_cmp_isNaN_uint64 x0) (ev G X0 103 σ [(.p (.int .u64 x0))] h) (fun r s => s = ([.v (.p (.bool r))],h)):=by
 refine .ev rfl (Sim.ext (cmp_isNaN_uint64_entry _ _ _ _ _) ?_)
 rw [p_cmp_isNaN_uint64]
 have S0 : Fm 6 h [] [] [] (List.replicate 6 []::h):=Fm.start0
 exact .fin (S0.finN (lC (sB _).lv lN)) rfl
def p_cmp_Compare_uint64 (x0 : Int) (x1 : Int) : Option (Int) :=
(p_cmp_isNaN_uint64 x0).bind fun r1 =>
(p_cmp_isNaN_uint64 x1).bind fun r6 =>
bif r1 then (
bif r6 then (
some (0))
else (
some ((-1))))
else (
bif r6 then (
some (1))
else (
bif decide (x0 < x1) then (
some ((-1)))
else (
bif decide (x0 > x1) then (
some (1))
else (
some (0)))))
theorem cmp_Compare_uint64_ok {h : H} {σ : Stamp} (x0 : Int) (x1 : Int) : Sim (p_cmp_Compare_uint64 x0 x1) (ev G X0 50 σ [(.p (.int .u64 x0)),(.p (.int .u64 x1))] h) (fun r s => s = ([.v (.p (.int .i64 r))],h)):=by
 refine .ev rfl (Sim.ext (cmp_Compare_uint64_entry _ _ _ _ _ _) ?_)
 rw [p_cmp_Compare_uint64]
 have S0 : Fm 20 h [] [] [] (List.replicate 20 []::h):=Fm.start0
 refine .call (cmp_isNaN_uint64_ok x0) fun r1 cs2 H3 h4 q5 => ?_
 cases q5
 refine .ab ?_
 refine .call (cmp_isNaN_uint64_ok x1) fun r6 cs7 H8 h9 q10 => ?_
 cases q10
 refine .ab ?_
 refine .cq ?_ ?_
 ·refine .cq ?_ ?_
  ·exact .fin (S0.finN (lC (sI _ _).lv lN)) rfl
  exact .fin (S0.finN (lC (sI _ _).lv lN)) rfl
 refine .cq ?_ ?_
 ·exact .fin (S0.finN (lC (sI _ _).lv lN)) rfl
 refine .cq ?_ ?_
 ·exact .fin (S0.finN (lC (sI _ _).lv lN)) rfl
 refine .cq ?_ ?_
 ·exact .fin (S0.finN (lC (sI _ _).lv lN)) rfl
 exact .fin (S0.finN (lC (sI _ _).lv lN)) rfl
end
end Go.Ev
namespace Go.Ev
open Go.Proofs
set_option linter.unusedVariables false
set_option linter.unusedSimpArgs false
set_option maxRecDepth 100000
noncomputable section
abbrev KT4:=Exit→Env→H→Option (List C × H)
variable (rec : CallF) (loop : LoopV) (σ : Stamp)
def cmp_Or_int_c0 : Code:=(codeAt (bodyOf Try.f48) [1,1,0,1,0,0])
def cmp_Or_int_l0 : Lv:=⟨8,4,[(0,8)]⟩
def cmp_Or_int_k0 : KT4:=(kBlock 0 (kSeq G rec loop (codeAt (bodyOf Try.f48) [1,1,1]) ⟨4,4,[]⟩ (1::1::0::σ) (finC G false Try.f48 (1::σ))))
theorem cmp_Or_int_entry (x0 : V) (h : H) : cvBody G rec loop 48 σ [x0] h =
(lenO x0).bind fun t1 =>
(castI .i64 t1).bind fun n2 =>
(loop cmp_Or_int_c0 cmp_Or_int_l0 (1::0::1::1::0::σ) (envL [(3,(.p (.int .i64 0))),(6,x0),(7,(.p (.int .i64 n2))),(8,(.p (.int .i64 0)))]) (List.replicate 18 []::h)).bind fun r3 => cmp_Or_int_k0 rec loop σ r3.1 r3.2.1 r3.2.2:=by kernel_rfl
theorem cmp_Or_int_r0 (x3 : Int) (x6 : V) (x7 : Int) (x8 : Int) (h : H) : cvRound G rec loop cmp_Or_int_c0 cmp_Or_int_l0 σ (envL [(3,(.p (.int .i64 x3))),(6,x6),(7,(.p (.int .i64 x7))),(8,(.p (.int .i64 x8)))]) h =
bif decide (x8 < x7) then (
(iS 1 x6 x8).bind fun t4 =>
(ldO false 1 h t4).bind fun t5 =>
(castI .i64 t5).bind fun n6 =>
bif n6 != x3 then (
some (.ret,(envL [(2,(.p (.int .i64 n6)))]),h))
else (
loop cmp_Or_int_c0 cmp_Or_int_l0 (1::σ) (envL [(3,(.p (.int .i64 x3))),(6,x6),(7,(.p (.int .i64 x7))),(8,(.p (.int .i64 (IntKind.wrap .i64 (x8 + 1)))))]) h))
else (
some ((.exit 0),(envL [(3,(.p (.int .i64 x3)))]),h)):=by kernel_rfl
theorem cmp_Or_int_a0_0 (x3 : Int) (h : H) : cmp_Or_int_k0 rec loop σ (.exit 0) (envL [(3,(.p (.int .i64 x3)))]) h =
fin false σ h [(.p (.int .i64 x3))]:=by kernel_rfl
theorem cmp_Or_int_a0_ret (x2 : Int) (h : H) : cmp_Or_int_k0 rec loop σ .ret (envL [(2,(.p (.int .i64 x2)))]) h =
fin false σ h [(.p (.int .i64 x2))]:=by kernel_rfl
end
end Go.Ev
namespace Go.Ev
open Go.Proofs
set_option linter.unusedVariables false
set_option linter.unusedSimpArgs false
set_option maxRecDepth 100000
section
variable {β α : Type} {Q : β→α→Prop} {K : Exit × Env × H→Option α}
def p_cmp_Or_int_l0 {β : Type} (k : Nat) (kE0 : Int→Option β) (kE1 : Int→Option β) (x3 : Int) (x6 : (List Int)) (x7 : Int) (x8 : Int) : Option β:=match k with
| 0 => none
| k + 1 =>
bif decide (x8 < x7) then (
(ix x6 x8).bind fun a6 =>
bif a6 != x3 then (
kE1 a6)
else (
p_cmp_Or_int_l0 k kE0 kE1 x3 x6 x7 (IntKind.wrap .i64 (x8 + 1))))
else (
kE0 x3)
def p_cmp_Or_int (k : Nat) (x0 : (List Int)) : Option (Int) :=
p_cmp_Or_int_l0 k (fun r14_3 =>
some (r14_3)) (fun r17_2 =>
some (r17_2)) 0 x0 ((x0.length : Int)) 0
theorem cmp_Or_int_l0_ok {h : H}  {kE0 : Int→Option β} {kE1 : Int→Option β} (hE0 : ∀ (q3 : Int) (H10 : Go.Ev.H) (_ : Fm 18 h [] [] [] H10),Sim (kE0 q3) (K ((.exit 0),(envL [(3,(.p (.int .i64 q3)))]),H10)) Q) (hE1 : ∀ (q2 : Int) (H12 : Go.Ev.H) (_ : Fm 18 h [] [] [] H12),Sim (kE1 q2) (K (.ret,(envL [(2,(.p (.int .i64 q2)))]),H12)) Q) (k : Nat) : ∀ (x3 : Int) (x6 : (List Int)) (x7 : Int) (x8 : Int) (v3 : V) (h4 : SlH h (dI .i64) x6 v3) (H1 : Go.Ev.H) (_ : Fm 18 h [] [] [] H1) {σ : Stamp},Sim (p_cmp_Or_int_l0 k kE0 kE1 x3 x6 x7 x8) ((cvL G X0 cmp_Or_int_c0 cmp_Or_int_l0 σ (envL [(3,(.p (.int .i64 x3))),(6,v3),(7,(.p (.int .i64 x7))),(8,(.p (.int .i64 x8)))]) H1).bind K) Q:=by
 induction k with
 | zero => intros; exact .no
 | succ k ih =>
  intro x3 x6 x7 x8 v3 h4 H1 S2 σ
  rw [p_cmp_Or_int_l0]
  refine .round (Sim.ext (cmp_Or_int_r0 _ _ _ _ _ _ _ _) ?_)
  refine .cq ?_ ?_
  ·refine .bd fun a6 h7 => ?_
   refine .op ((S2.low h4).iS h7 rfl) ?_
   obtain ⟨_,rfl,hE8⟩:=(S2.low h4).el h7 rfl
   refine .op (hE8.ld (j:=0) rfl) ?_
   refine .ci ?_
   refine .cq ?_ ?_
   ·exact hE1 a6 H1 (S2.wk2 aN aN)
   exact ih x3 x6 x7 (IntKind.wrap .i64 (x8 + 1)) v3 h4 H1 (S2.wk2 aN aN)
  exact hE0 x3 H1 (S2.wk2 aN aN)
theorem cmp_Or_int_ok (k : Nat) {h : H} {σ : Stamp} (x0 : List Int) {u0 : V} (hu0 : SlH h (dI .i64) x0 u0) : Sim (p_cmp_Or_int k x0) (ev G X0 48 σ [u0] h) (fun r s => s = ([.v (.p (.int .i64 r))],h)):=by
 refine .ev rfl (Sim.ext (cmp_Or_int_entry _ _ _ _ _) ?_)
 rw [p_cmp_Or_int]
 have S0 : Fm 18 h [] [] [] (List.replicate 18 []::h):=Fm.start0
 refine .op ((S0.low hu0).len) ?_
 refine .ci ?_
 refine .as (cmp_Or_int_l0_ok ?_ ?_ k 0 x0 ((x0.length : Int)) 0 u0 hu0 (List.replicate 18 []::h) (S0.wk2 aN aN))
 ·intro r14_3 H15 S16
  refine .ext (cmp_Or_int_a0_0 _ _ _ _ _) ?_
  exact .fin (S16.finN (lC (sI _ _).lv lN)) rfl
 ·intro r17_2 H18 S19
  refine .ext (cmp_Or_int_a0_ret _ _ _ _ _) ?_
  exact .fin (S19.finN (lC (sI _ _).lv lN)) rfl
def p_alarm_Table_Set_1 (k : Nat) (x0 : T_alarm_Due) (x1 : T_alarm_Due) : Option (Int) :=
(p_cmp_Compare_int64 x0.f_At x1.f_At).bind fun r9 =>
(p_cmp_Compare_uint64 x0.Key x1.Key).bind fun r14 =>
(p_cmp_Or_int k ([r9,r14])).bind fun r20 =>
some (r20)
theorem alarm_Table_Set_1_ok (k : Nat) {h : H} {σ : Stamp} (x0 : T_alarm_Due) {u0 : List V} (hu0 : dT_alarm_Due.R x0 u0) (x1 : T_alarm_Due) {u1 : List V} (hu1 : dT_alarm_Due.R x1 u1) : Sim (p_alarm_Table_Set_1 k x0 x1) (ev G X0 47 σ [(.agg u0),(.agg u1)] h) (fun r s => s = ([.v (.p (.int .i64 r))],h)):=by
 refine .ev rfl (Sim.ext (alarm_Table_Set_1_entry _ _ _ _ _ _) ?_)
 rw [p_alarm_Table_Set_1]
 obtain rfl:=dT_alarm_Due.inv hu0
 obtain rfl:=dT_alarm_Due.inv hu1
 have S0 : Fm 17 h [] [] [] (List.replicate 17 []::h):=Fm.start0
 obtain ⟨H1,e2,S3⟩:=S0.box (own:=false) (d:=2) (s:=(0::0::0::σ)) (xs:=[(.p (.int .i64 x0.f_At)),(.p (.int .u64 x0.Key))]) (sC (sI _ _) (sC (sI _ _) sN)) (by decide) rfl
 refine .op (e2) ?_
 obtain ⟨H5,e6,S7⟩:=S3.box (own:=false) (d:=3) (s:=(1::0::0::σ)) (xs:=[(.p (.int .i64 x1.f_At)),(.p (.int .u64 x1.Key))]) (sC (sI _ _) (sC (sI _ _) sN)) (by decide) rfl
 refine .op (e6) ?_
 refine .fa ?_
 refine .op ((S7.atG (i:=1) rfl).ld (j:=0) rfl) ?_
 refine .ci ?_
 refine .fa ?_
 refine .op ((S7.atG (i:=0) rfl).ld (j:=0) rfl) ?_
 refine .ci ?_
 refine .fa ?_
 refine .op ((S7.atG (i:=1) rfl).ld (j:=1) rfl) ?_
 refine .ci ?_
 refine .fa ?_
 refine .op ((S7.atG (i:=0) rfl).ld (j:=1) rfl) ?_
 refine .ci ?_
 refine .call (cmp_Compare_int64_ok x0.f_At x1.f_At) fun r9 cs10 H11 h12 q13 => ?_
 cases q13
 refine .ci ?_
 refine .nd ((S7.atG (i:=0) rfl).ld (j:=1) rfl) ?_
 refine .nd ((S7.atG (i:=1) rfl).ld (j:=1) rfl) ?_
 refine .call (cmp_Compare_uint64_ok x0.Key x1.Key) fun r14 cs15 H16 h17 q18 => ?_
 cases q18
 refine .ci ?_
 have h19 : SlF (dI .i64) [r9,r14] (.fz [(.p (.int .i64 r9)),(.p (.int .i64 r14))] 2 1 true):=SlF.lit (cs:=[(.p (.int .i64 r9)),(.p (.int .i64 r14))]) (RL.cons (show (dI .i64).R r9 [(.p (.int .i64 r9))] from rfl) (RL.cons (show (dI .i64).R r14 [(.p (.int .i64 r14))] from rfl) RL.nil)) rfl rfl true
 refine .op (bldS (pC rfl (pC rfl pN)) (by kernel_rfl : _ = some (vOf h19))) ?_
 refine .call (cmp_Or_int_ok k ([r9,r14]) (h19.h H5)) fun r20 cs21 H22 h23 q24 => ?_
 cases q24
 refine .ci ?_
 exact .fin (S7.finN (lC (sI _ _).lv lN)) rfl
end
end Go.Ev
namespace Go.Ev
open Go.Proofs
set_option linter.unusedVariables false
set_option linter.unusedSimpArgs false
set_option maxRecDepth 100000
noncomputable section
abbrev KT5:=Exit→Env→H→Option (List C × H)
variable (rec : CallF) (loop : LoopV) (σ : Stamp)
def slices_breakPatternsCmpFunc_alarm_Due_c0 : Code:=(codeAt (bodyOf Try.f144) [1,1,0,1,1,1,0,0])
def slices_breakPatternsCmpFunc_alarm_Due_l0 : Lv:=⟨0,0,[(0,0)]⟩
def slices_breakPatternsCmpFunc_alarm_Due_k0 (rec : CallF) (loop : LoopV) (σ : Stamp) : KT5:=(kBlock 0 (finC G false Try.f144 (1::σ)))
theorem slices_breakPatternsCmpFunc_alarm_Due_entry (x0 : V) (x1 : Int) (x2 : Int) (x3 : V) (h : H) : cvBody G rec loop 144 σ [x0,(.p (.int .i64 x1)),(.p (.int .i64 x2)),x3] h =
bif decide ((IntKind.wrap .i64 (x2 - x1)) ≥ 8) then (
(some (alO [.p (.int .u64 0)] (2::0::1::1::0::σ) 9 (List.replicate 67 []::h))).bind fun q1 =>
((stO true 1 (3::0::1::1::0::σ) q1.2 q1.1 (.p (.int .u64 (IntKind.wrap .u64 (IntKind.wrap .i64 (x2 - x1)))))).map fun h => (udf,h)).bind fun q2 =>
(callO rec 170 (1::0::1::1::1::0::σ) [(.p (.int .i64 (IntKind.wrap .i64 (x2 - x1))))] q2.2 (some 21)).bind fun q3 =>
(castI .u64 q3.1).bind fun n4 =>
(loop slices_breakPatternsCmpFunc_alarm_Due_c0 slices_breakPatternsCmpFunc_alarm_Due_l0 (1::1::1::1::1::0::σ) (envL [(0,x0),(1,(.p (.int .i64 x1))),(8,(.p (.int .i64 (IntKind.wrap .i64 (x2 - x1))))),(9,q1.1),(10,(.p (.int .u64 n4))),(11,(.p (.int .i64 (IntKind.wrap .i64 ((IntKind.wrap .i64 (x1 + (IntKind.wrap .i64 ((IntKind.wrap .i64 (Int.tdiv (IntKind.wrap .i64 (x2 - x1)) 4)) * 2)))) - 1)))))]) q3.2).bind fun r5 => slices_breakPatternsCmpFunc_alarm_Due_k0 rec loop σ r5.1 r5.2.1 r5.2.2)
else (
fin false σ (List.replicate 67 []::h) []):=by kernel_rfl
theorem slices_breakPatternsCmpFunc_alarm_Due_r0 (x0 : V) (x1 : Int) (x8 : Int) (x9 : V) (x10 : Int) (x11 : Int) (h : H) : cvRound G rec loop slices_breakPatternsCmpFunc_alarm_Due_c0 slices_breakPatternsCmpFunc_alarm_Due_l0 σ (envL [(0,x0),(1,(.p (.int .i64 x1))),(8,(.p (.int .i64 x8))),(9,x9),(10,(.p (.int .u64 x10))),(11,(.p (.int .i64 x11)))]) h =
bif decide (x11 ≤ (IntKind.wrap .i64 ((IntKind.wrap .i64 (x1 + (IntKind.wrap .i64 ((IntKind.wrap .i64 (Int.tdiv x8 4)) * 2)))) + 1))) then (
(callO rec 171 (0::0::0::1::0::σ) [x9] h (some 38)).bind fun q6 =>
(castI .u64 q6.1).bind fun n7 =>
bif decide ((IntKind.wrap .i64 (intBits .and .u64 n7 (IntKind.wrap .u64 (x10 - 1)))) ≥ x8) then (
(iS 2 x0 (IntKind.wrap .i64 (x1 + (IntKind.wrap .i64 ((IntKind.wrap .i64 (intBits .and .u64 n7 (IntKind.wrap .u64 (x10 - 1)))) - x8))))).bind fun t8 =>
(ldO true 2 q6.2 t8).bind fun t9 =>
(iS 2 x0 x11).bind fun t10 =>
(ldO true 2 q6.2 t10).bind fun t11 =>
(iS 2 x0 x11).bind fun t12 =>
((stO false 2 (17::1::1::0::1::0::σ) q6.2 t12 t9).map fun h => (udf,h)).bind fun q13 =>
(iS 2 x0 (IntKind.wrap .i64 (x1 + (IntKind.wrap .i64 ((IntKind.wrap .i64 (intBits .and .u64 n7 (IntKind.wrap .u64 (x10 - 1)))) - x8))))).bind fun t14 =>
((stO false 2 (19::1::1::0::1::0::σ) q13.2 t14 t11).map fun h => (udf,h)).bind fun q15 =>
loop slices_breakPatternsCmpFunc_alarm_Due_c0 slices_breakPatternsCmpFunc_alarm_Due_l0 (1::σ) (envL [(0,x0),(1,(.p (.int .i64 x1))),(8,(.p (.int .i64 x8))),(9,x9),(10,(.p (.int .u64 x10))),(11,(.p (.int .i64 (IntKind.wrap .i64 (x11 + 1)))))]) q15.2)
else (
(iS 2 x0 (IntKind.wrap .i64 (x1 + (IntKind.wrap .i64 (intBits .and .u64 n7 (IntKind.wrap .u64 (x10 - 1))))))).bind fun t16 =>
(ldO true 2 q6.2 t16).bind fun t17 =>
(iS 2 x0 x11).bind fun t18 =>
(ldO true 2 q6.2 t18).bind fun t19 =>
(iS 2 x0 x11).bind fun t20 =>
((stO false 2 (17::1::1::0::1::0::σ) q6.2 t20 t17).map fun h => (udf,h)).bind fun q21 =>
(iS 2 x0 (IntKind.wrap .i64 (x1 + (IntKind.wrap .i64 (intBits .and .u64 n7 (IntKind.wrap .u64 (x10 - 1))))))).bind fun t22 =>
((stO false 2 (19::1::1::0::1::0::σ) q21.2 t22 t19).map fun h => (udf,h)).bind fun q23 =>
loop slices_breakPatternsCmpFunc_alarm_Due_c0 slices_breakPatternsCmpFunc_alarm_Due_l0 (1::σ) (envL [(0,x0),(1,(.p (.int .i64 x1))),(8,(.p (.int .i64 x8))),(9,x9),(10,(.p (.int .u64 x10))),(11,(.p (.int .i64 (IntKind.wrap .i64 (x11 + 1)))))]) q23.2))
else (
some ((.exit 0),(envL []),h)):=by kernel_rfl
theorem slices_breakPatternsCmpFunc_alarm_Due_a0_0  (h : H) : slices_breakPatternsCmpFunc_alarm_Due_k0 rec loop σ (.exit 0) (envL []) h =
fin false σ h []:=by kernel_rfl
theorem slices_nextPowerOfTwo_entry (x0 : Int) (h : H) : cvBody G rec loop 170 σ [(.p (.int .i64 x0))] h =
(callO rec 101 (2::0::1::0::σ) [(.p (.int .u64 (IntKind.wrap .u64 x0)))] (List.replicate 7 []::h) (some 5)).bind fun q1 =>
(castI .i64 q1.1).bind fun n2 =>
(shiftV .shl .u64 1 n2).bind fun t3 =>
(castI .u64 t3).bind fun n4 =>
fin false σ q1.2 [(.p (.int .u64 n4))]:=by kernel_rfl
end
end Go.Ev
namespace Go.Ev
open Go.Proofs
set_option linter.unusedVariables false
set_option linter.unusedSimpArgs false
set_option maxRecDepth 100000
section
variable {β α : Type} {Q : β→α→Prop} {K : Exit × Env × H→Option α}
def p_slices_nextPowerOfTwo (x0 : Int) : Option (Int) :=
(p_math_bits_Len (IntKind.wrap .u64 x0)).bind fun r1 =>
(shP .shl .u64 1 r1).bind fun n6 =>
some (n6)
theorem slices_nextPowerOfTwo_ok {h : H} {σ : Stamp} (x0 : Int) : Sim (p_slices_nextPowerOfTwo x0) (ev G X0 170 σ [(.p (.int .i64 x0))] h) (fun r s => s = ([.v (.p (.int .u64 r))],h)):=by
 refine .ev rfl (Sim.ext (slices_nextPowerOfTwo_entry _ _ _ _ _) ?_)
 rw [p_slices_nextPowerOfTwo]
 have S0 : Fm 7 h [] [] [] (List.replicate 7 []::h):=Fm.start0
 refine .call (math_bits_Len_ok (IntKind.wrap .u64 x0)) fun r1 cs2 H3 h4 q5 => ?_
 cases q5
 refine .ci ?_
 refine .bd fun n6 h7 => ?_
 refine .op (shP_ok h7) ?_
 refine .ci ?_
 exact .fin (S0.finN (lC (sI _ _).lv lN)) rfl
end
end Go.Ev
namespace Go.Ev
open Go.Proofs
set_option linter.unusedVariables false
set_option linter.unusedSimpArgs false
set_option maxRecDepth 100000
noncomputable section
abbrev KT6:=Exit→Env→H→Option (List C × H)
variable (rec : CallF) (loop : LoopV) (σ : Stamp)
theorem slices_xorshift_Next_entry (x0 : V) (h : H) : cvBody G rec loop 171 σ [x0] h =
(nilChk x0).bind fun t1 =>
(ldO false 1 (List.replicate 33 []::h) t1).bind fun t2 =>
(castI .u64 t2).bind fun n3 =>
(nilChk x0).bind fun t4 =>
(ldO false 1 (List.replicate 33 []::h) t4).bind fun t5 =>
(castI .u64 t5).bind fun n6 =>
(nilChk x0).bind fun t7 =>
((stO true 1 (9::0::1::0::σ) (List.replicate 33 []::h) t7 (.p (.int .u64 (intBits .xor .u64 n3 (IntKind.wrap .u64 (n6 * 2 ^ 13)))))).map fun h => (udf,h)).bind fun q8 =>
(nilChk x0).bind fun t9 =>
(ldO false 1 q8.2 t9).bind fun t10 =>
(castI .u64 t10).bind fun n11 =>
(nilChk x0).bind fun t12 =>
(ldO false 1 q8.2 t12).bind fun t13 =>
(castI .u64 t13).bind fun n14 =>
(nilChk x0).bind fun t15 =>
((stO true 1 (9::0::1::1::0::σ) q8.2 t15 (.p (.int .u64 (intBits .xor .u64 n11 (Int.fdiv n14 (2 ^ 7)))))).map fun h => (udf,h)).bind fun q16 =>
(nilChk x0).bind fun t17 =>
(ldO false 1 q16.2 t17).bind fun t18 =>
(castI .u64 t18).bind fun n19 =>
(nilChk x0).bind fun t20 =>
(ldO false 1 q16.2 t20).bind fun t21 =>
(castI .u64 t21).bind fun n22 =>
(nilChk x0).bind fun t23 =>
((stO true 1 (9::0::1::1::1::0::σ) q16.2 t23 (.p (.int .u64 (intBits .xor .u64 n19 (IntKind.wrap .u64 (n22 * 2 ^ 17)))))).map fun h => (udf,h)).bind fun q24 =>
(nilChk x0).bind fun t25 =>
(ldO false 1 q24.2 t25).bind fun t26 =>
(castI .u64 t26).bind fun n27 =>
fin false σ q24.2 [(.p (.int .u64 n27))]:=by kernel_rfl
end
end Go.Ev
namespace Go.Ev
open Go.Proofs
set_option linter.unusedVariables false
set_option linter.unusedSimpArgs false
set_option maxRecDepth 100000
section
variable {β α : Type} {Q : β→α→Prop} {K : Exit × Env × H→Option α}
def p_slices_xorshift_Next (x0 : Int) : Option (Int × Int) :=
some ((intBits .xor .u64 (intBits .xor .u64 (intBits .xor .u64 x0 (IntKind.wrap .u64 (x0 * 2 ^ 13))) (Int.fdiv (intBits .xor .u64 x0 (IntKind.wrap .u64 (x0 * 2 ^ 13))) (2 ^ 7))) (IntKind.wrap .u64 ((intBits .xor .u64 (intBits .xor .u64 x0 (IntKind.wrap .u64 (x0 * 2 ^ 13))) (Int.fdiv (intBits .xor .u64 x0 (IntKind.wrap .u64 (x0 * 2 ^ 13))) (2 ^ 7))) * 2 ^ 17))),(intBits .xor .u64 (intBits .xor .u64 (intBits .xor .u64 x0 (IntKind.wrap .u64 (x0 * 2 ^ 13))) (Int.fdiv (intBits .xor .u64 x0 (IntKind.wrap .u64 (x0 * 2 ^ 13))) (2 ^ 7))) (IntKind.wrap .u64 ((intBits .xor .u64 (intBits .xor .u64 x0 (IntKind.wrap .u64 (x0 * 2 ^ 13))) (Int.fdiv (intBits .xor .u64 x0 (IntKind.wrap .u64 (x0 * 2 ^ 13))) (2 ^ 7))) * 2 ^ 17))))
theorem slices_xorshift_Next_ok {h : H} {σ : Stamp} (x0 : Int)  {l0 : Loc} {o0 : Nat} (ha0 : AtC h l0 o0 (List.map C.v [(.p (.int .u64 x0))])) : Sim (p_slices_xorshift_Next x0) (ev G X0 171 σ [(.ref l0 o0)] h) (fun r s => s = ([.v (.p (.int .u64 r.1))],pts h [⟨l0,o0,[.v (.p (.int .u64 r.2))]⟩])):=by
 refine .ev rfl (Sim.ext (slices_xorshift_Next_entry _ _ _ _ _) ?_)
 rw [p_slices_xorshift_Next]
 have S0 : Fm 33 h [⟨l0,o0,List.map C.v [(.p (.int .u64 x0))]⟩] [] [] (List.replicate 33 []::h):=Fm.start1 ha0
 refine .nc ?_
 refine .op ((S0.atB (i:=0) rfl).ld (j:=0) rfl) ?_
 refine .ci ?_
 refine .nc ?_
 refine .op ((S0.atB (i:=0) rfl).ld (j:=0) rfl) ?_
 refine .ci ?_
 refine .nc ?_
 obtain ⟨H1,e2,S3⟩:=S0.stB (i:=0) (j:=0) (own:=true) (σ:=(9::0::1::0::σ)) (x:=(.p (.int .u64 (intBits .xor .u64 x0 (IntKind.wrap .u64 (x0 * 2 ^ 13)))))) rfl (sI _ _) rfl
 refine .op (sM e2) ?_
 refine .nc ?_
 refine .op ((S3.atB (i:=0) rfl).ld (j:=0) rfl) ?_
 refine .ci ?_
 refine .nc ?_
 refine .op ((S3.atB (i:=0) rfl).ld (j:=0) rfl) ?_
 refine .ci ?_
 refine .nc ?_
 obtain ⟨H4,e5,S6⟩:=S3.stB (i:=0) (j:=0) (own:=true) (σ:=(9::0::1::1::0::σ)) (x:=(.p (.int .u64 (intBits .xor .u64 (intBits .xor .u64 x0 (IntKind.wrap .u64 (x0 * 2 ^ 13))) (Int.fdiv (intBits .xor .u64 x0 (IntKind.wrap .u64 (x0 * 2 ^ 13))) (2 ^ 7)))))) rfl (sI _ _) rfl
 refine .op (sM e5) ?_
 refine .nc ?_
 refine .op ((S6.atB (i:=0) rfl).ld (j:=0) rfl) ?_
 refine .ci ?_
 refine .nc ?_
 refine .op ((S6.atB (i:=0) rfl).ld (j:=0) rfl) ?_
 refine .ci ?_
 refine .nc ?_
 obtain ⟨H7,e8,S9⟩:=S6.stB (i:=0) (j:=0) (own:=true) (σ:=(9::0::1::1::1::0::σ)) (x:=(.p (.int .u64 (intBits .xor .u64 (intBits .xor .u64 (intBits .xor .u64 x0 (IntKind.wrap .u64 (x0 * 2 ^ 13))) (Int.fdiv (intBits .xor .u64 x0 (IntKind.wrap .u64 (x0 * 2 ^ 13))) (2 ^ 7))) (IntKind.wrap .u64 ((intBits .xor .u64 (intBits .xor .u64 x0 (IntKind.wrap .u64 (x0 * 2 ^ 13))) (Int.fdiv (intBits .xor .u64 x0 (IntKind.wrap .u64 (x0 * 2 ^ 13))) (2 ^ 7))) * 2 ^ 17)))))) rfl (sI _ _) rfl
 refine .op (sM e8) ?_
 refine .nc ?_
 refine .op ((S9.atB (i:=0) rfl).ld (j:=0) rfl) ?_
 refine .ci ?_
 exact .fin (S9.finN (lC (sI _ _).lv lN)) rfl
def p_slices_breakPatternsCmpFunc_alarm_Due_alarm_Table_Set_1_l0 {β : Type} (k : Nat) (kE0 : (List T_alarm_Due)→Option β) (x1 : Int) (x8 : Int) (x10 : Int) (x11 : Int) (yg5 : Int) (zw0 : (List T_alarm_Due)) : Option β:=match k with
| 0 => none
| k + 1 =>
bif decide (x11 ≤ (IntKind.wrap .i64 ((IntKind.wrap .i64 (x1 + (IntKind.wrap .i64 ((IntKind.wrap .i64 (Int.tdiv x8 4)) * 2)))) + 1))) then (
(p_slices_xorshift_Next yg5).bind fun r21 =>
bif decide ((IntKind.wrap .i64 (intBits .and .u64 r21.1 (IntKind.wrap .u64 (x10 - 1)))) ≥ x8) then (
(ix zw0 (IntKind.wrap .i64 (x1 + (IntKind.wrap .i64 ((IntKind.wrap .i64 (intBits .and .u64 r21.1 (IntKind.wrap .u64 (x10 - 1)))) - x8))))).bind fun a28 =>
(ix zw0 x11).bind fun a33 =>
(ix zw0 x11).bind fun a38 =>
(stx zw0 x11 a28).bind fun a43 =>
(ix a43 (IntKind.wrap .i64 (x1 + (IntKind.wrap .i64 ((IntKind.wrap .i64 (intBits .and .u64 r21.1 (IntKind.wrap .u64 (x10 - 1)))) - x8))))).bind fun a47 =>
(stx a43 (IntKind.wrap .i64 (x1 + (IntKind.wrap .i64 ((IntKind.wrap .i64 (intBits .and .u64 r21.1 (IntKind.wrap .u64 (x10 - 1)))) - x8)))) a33).bind fun a52 =>
p_slices_breakPatternsCmpFunc_alarm_Due_alarm_Table_Set_1_l0 k kE0 x1 x8 x10 (IntKind.wrap .i64 (x11 + 1)) r21.2 a52)
else (
(ix zw0 (IntKind.wrap .i64 (x1 + (IntKind.wrap .i64 (intBits .and .u64 r21.1 (IntKind.wrap .u64 (x10 - 1))))))).bind fun a56 =>
(ix zw0 x11).bind fun a61 =>
(ix zw0 x11).bind fun a66 =>
(stx zw0 x11 a56).bind fun a71 =>
(ix a71 (IntKind.wrap .i64 (x1 + (IntKind.wrap .i64 (intBits .and .u64 r21.1 (IntKind.wrap .u64 (x10 - 1))))))).bind fun a75 =>
(stx a71 (IntKind.wrap .i64 (x1 + (IntKind.wrap .i64 (intBits .and .u64 r21.1 (IntKind.wrap .u64 (x10 - 1)))))) a61).bind fun a80 =>
p_slices_breakPatternsCmpFunc_alarm_Due_alarm_Table_Set_1_l0 k kE0 x1 x8 x10 (IntKind.wrap .i64 (x11 + 1)) r21.2 a80))
else (
kE0 zw0)
def p_slices_breakPatternsCmpFunc_alarm_Due_alarm_Table_Set_1 (k : Nat) (x0 : (List T_alarm_Due)) (x1 : Int) (x2 : Int) : Option ((List T_alarm_Due)) :=
bif decide ((IntKind.wrap .i64 (x2 - x1)) ≥ 8) then (
(p_slices_nextPowerOfTwo (IntKind.wrap .i64 (x2 - x1))).bind fun r9 =>
p_slices_breakPatternsCmpFunc_alarm_Due_alarm_Table_Set_1_l0 k (fun zw0 =>
some (zw0)) x1 (IntKind.wrap .i64 (x2 - x1)) r9 (IntKind.wrap .i64 ((IntKind.wrap .i64 (x1 + (IntKind.wrap .i64 ((IntKind.wrap .i64 (Int.tdiv (IntKind.wrap .i64 (x2 - x1)) 4)) * 2)))) - 1)) (IntKind.wrap .u64 (IntKind.wrap .i64 (x2 - x1))) x0)
else (
some (x0))
theorem slices_breakPatternsCmpFunc_alarm_Due_alarm_Table_Set_1_l0_ok {h : H} {l0 : Loc} {o0 : Nat} {u0 : V} {kE0 : (List T_alarm_Due)→Option β} (hE0 : ∀ (zw0 : (List T_alarm_Due)) (w86 : List C) (h87 : WL l0 o0 dT_alarm_Due zw0 u0 w86) (H84 : Go.Ev.H) (_ : Fm 67 h [⟨l0,o0,w86⟩] [] [] H84),Sim (kE0 zw0) (K ((.exit 0),(envL []),H84)) Q) (k : Nat) : ∀ (x1 : Int) (x8 : Int) (x10 : Int) (x11 : Int) (yg5 : Int) (zw0 : (List T_alarm_Due)) (s16 : Stamp) (w18 : List C) (h19 : WL l0 o0 dT_alarm_Due zw0 u0 w18) (H14 : Go.Ev.H) (_ : Fm 67 h [⟨l0,o0,w18⟩] [(9,s16,List.map C.v [(.p (.int .u64 yg5))])] [] H14) {σ : Stamp},Sim (p_slices_breakPatternsCmpFunc_alarm_Due_alarm_Table_Set_1_l0 k kE0 x1 x8 x10 x11 yg5 zw0) ((cvL G X0 slices_breakPatternsCmpFunc_alarm_Due_c0 slices_breakPatternsCmpFunc_alarm_Due_l0 σ (envL [(0,u0),(1,(.p (.int .i64 x1))),(8,(.p (.int .i64 x8))),(9,(.ref ⟨h.length,9,0,s16,[]⟩ 0)),(10,(.p (.int .u64 x10))),(11,(.p (.int .i64 x11)))]) H14).bind K) Q:=by
 induction k with
 | zero => intros; exact .no
 | succ k ih =>
  intro x1 x8 x10 x11 yg5 zw0 s16 w18 h19 H14 S15 σ
  rw [p_slices_breakPatternsCmpFunc_alarm_Due_alarm_Table_Set_1_l0]
  refine .round (Sim.ext (slices_breakPatternsCmpFunc_alarm_Due_r0 _ _ _ _ _ _ _ _ _ _) ?_)
  refine .cq ?_ ?_
  ·refine .call (slices_xorshift_Next_ok yg5 (S15.atG (i:=0) rfl)) fun r21 cs22 H23 h24 q25 => ?_
   cases q25
   have S26:=S15.setG (i:=0) (cs':=List.map C.v [(.p (.int .u64 r21.2))]) rfl rfl rfl
   refine .ci ?_
   refine .cq ?_ ?_
   ·refine .bd fun a28 h29 => ?_
    refine .op ((S26.slW (i:=0) rfl h19).iS h29 rfl) ?_
    obtain ⟨w31,h32,hE30⟩:=(S26.slW (i:=0) rfl h19).el h29 rfl
    obtain rfl:=dT_alarm_Due.inv h32
    refine .op (hE30.all (by simp)) ?_
    refine .bd fun a33 h34 => ?_
    refine .op ((S26.slW (i:=0) rfl h19).iS h34 rfl) ?_
    obtain ⟨w36,h37,hE35⟩:=(S26.slW (i:=0) rfl h19).el h34 rfl
    obtain rfl:=dT_alarm_Due.inv h37
    refine .op (hE35.all (by simp)) ?_
    refine .bd fun a38 h39 => ?_
    refine .op ((S26.slW (i:=0) rfl h19).iS h39 rfl) ?_
    refine .bd fun a43 h44 => ?_
    obtain ⟨w45,H40,e41,h46,S42⟩:=S26.setWA (i:=0) (e:=2) (own:=false) (σ:=(17::1::1::0::1::0::σ)) (nv:=[.p (.int .i64 a28.f_At),.p (.int .u64 a28.Key)]) (xv:=(.agg [.p (.int .i64 a28.f_At),.p (.int .u64 a28.Key)])) rfl h19 h44 rfl (stN_agg (sC (sI _ _) (sC (sI _ _) sN))) (show dT_alarm_Due.R a28 [.p (.int .i64 a28.f_At),.p (.int .u64 a28.Key)] from (dT_alarm_Due.mk)) rfl
    refine .op (sM e41) ?_
    refine .bd fun a47 h48 => ?_
    refine .op ((S42.slW (i:=0) rfl h46).iS h48 rfl) ?_
    refine .bd fun a52 h53 => ?_
    obtain ⟨w54,H49,e50,h55,S51⟩:=S42.setWA (i:=0) (e:=2) (own:=false) (σ:=(19::1::1::0::1::0::σ)) (nv:=[.p (.int .i64 a33.f_At),.p (.int .u64 a33.Key)]) (xv:=(.agg [.p (.int .i64 a33.f_At),.p (.int .u64 a33.Key)])) rfl h46 h53 rfl (stN_agg (sC (sI _ _) (sC (sI _ _) sN))) (show dT_alarm_Due.R a33 [.p (.int .i64 a33.f_At),.p (.int .u64 a33.Key)] from (dT_alarm_Due.mk)) rfl
    refine .op (sM e50) ?_
    exact ih x1 x8 x10 (IntKind.wrap .i64 (x11 + 1)) r21.2 a52 s16 w54 h55 H49 (S51.wk2 (aC (aM 0 rfl) aN) aN)
   refine .bd fun a56 h57 => ?_
   refine .op ((S26.slW (i:=0) rfl h19).iS h57 rfl) ?_
   obtain ⟨w59,h60,hE58⟩:=(S26.slW (i:=0) rfl h19).el h57 rfl
   obtain rfl:=dT_alarm_Due.inv h60
   refine .op (hE58.all (by simp)) ?_
   refine .bd fun a61 h62 => ?_
   refine .op ((S26.slW (i:=0) rfl h19).iS h62 rfl) ?_
   obtain ⟨w64,h65,hE63⟩:=(S26.slW (i:=0) rfl h19).el h62 rfl
   obtain rfl:=dT_alarm_Due.inv h65
   refine .op (hE63.all (by simp)) ?_
   refine .bd fun a66 h67 => ?_
   refine .op ((S26.slW (i:=0) rfl h19).iS h67 rfl) ?_
   refine .bd fun a71 h72 => ?_
   obtain ⟨w73,H68,e69,h74,S70⟩:=S26.setWA (i:=0) (e:=2) (own:=false) (σ:=(17::1::1::0::1::0::σ)) (nv:=[.p (.int .i64 a56.f_At),.p (.int .u64 a56.Key)]) (xv:=(.agg [.p (.int .i64 a56.f_At),.p (.int .u64 a56.Key)])) rfl h19 h72 rfl (stN_agg (sC (sI _ _) (sC (sI _ _) sN))) (show dT_alarm_Due.R a56 [.p (.int .i64 a56.f_At),.p (.int .u64 a56.Key)] from (dT_alarm_Due.mk)) rfl
   refine .op (sM e69) ?_
   refine .bd fun a75 h76 => ?_
   refine .op ((S70.slW (i:=0) rfl h74).iS h76 rfl) ?_
   refine .bd fun a80 h81 => ?_
   obtain ⟨w82,H77,e78,h83,S79⟩:=S70.setWA (i:=0) (e:=2) (own:=false) (σ:=(19::1::1::0::1::0::σ)) (nv:=[.p (.int .i64 a61.f_At),.p (.int .u64 a61.Key)]) (xv:=(.agg [.p (.int .i64 a61.f_At),.p (.int .u64 a61.Key)])) rfl h74 h81 rfl (stN_agg (sC (sI _ _) (sC (sI _ _) sN))) (show dT_alarm_Due.R a61 [.p (.int .i64 a61.f_At),.p (.int .u64 a61.Key)] from (dT_alarm_Due.mk)) rfl
   refine .op (sM e78) ?_
   exact ih x1 x8 x10 (IntKind.wrap .i64 (x11 + 1)) r21.2 a80 s16 w82 h83 H77 (S79.wk2 (aC (aM 0 rfl) aN) aN)
  exact hE0 zw0 w18 h19 H14 (S15.wk2 aN aN)
theorem slices_breakPatternsCmpFunc_alarm_Due_alarm_Table_Set_1_ok (k : Nat) {h : H} {σ : Stamp} (x0 : List T_alarm_Due) {u0 : V} {l0 : Loc} {o0 : Nat} {w0 : List C} (hw0 : WL l0 o0 dT_alarm_Due x0 u0 w0) (ha0 : AtC h l0 o0 w0) (x1 : Int) (x2 : Int) : Sim (p_slices_breakPatternsCmpFunc_alarm_Due_alarm_Table_Set_1 k x0 x1 x2) (ev G X0 144 σ [u0,(.p (.int .i64 x1)),(.p (.int .i64 x2)),(.clo 47 [])] h) (fun r s => ∃ (wb0 : List C),WL l0 o0 dT_alarm_Due r u0 wb0∧s = ([],pts h [⟨l0,o0,wb0⟩])):=by
 refine .ev rfl (Sim.ext (slices_breakPatternsCmpFunc_alarm_Due_entry _ _ _ _ _ _ _ _) ?_)
 rw [p_slices_breakPatternsCmpFunc_alarm_Due_alarm_Table_Set_1]
 have S0 : Fm 67 h [⟨l0,o0,w0⟩] [] [] (List.replicate 67 []::h):=Fm.start1 ha0
 refine .cq ?_ ?_
 ·obtain ⟨H2,e3,S4⟩:=S0.al (d:=9) (s:=(2::0::1::1::0::σ)) (z:=[(.p (.int .u64 0))]) (by decide) rfl
  refine .op (congrArg some e3) ?_
  obtain ⟨H6,e7,S8⟩:=S4.stG (i:=0) (j:=0) (own:=true) (σ:=(3::0::1::1::0::σ)) (x:=(.p (.int .u64 (IntKind.wrap .u64 (IntKind.wrap .i64 (x2 - x1)))))) rfl rfl (sI _ _) rfl
  refine .op (sM e7) ?_
  refine .call (slices_nextPowerOfTwo_ok (IntKind.wrap .i64 (x2 - x1))) fun r9 cs10 H11 h12 q13 => ?_
  cases q13
  refine .ci ?_
  refine .as (slices_breakPatternsCmpFunc_alarm_Due_alarm_Table_Set_1_l0_ok ?_ k x1 (IntKind.wrap .i64 (x2 - x1)) r9 (IntKind.wrap .i64 ((IntKind.wrap .i64 (x1 + (IntKind.wrap .i64 ((IntKind.wrap .i64 (Int.tdiv (IntKind.wrap .i64 (x2 - x1)) 4)) * 2)))) - 1)) (IntKind.wrap .u64 (IntKind.wrap .i64 (x2 - x1))) x0 (2::0::1::1::0::σ) w0 hw0 H6 (S8.wk2 (aC (aM 0 rfl) aN) aN))
  ·intro zw0 w91 h92 H89 S90
   refine .ext (slices_breakPatternsCmpFunc_alarm_Due_a0_0 _ _ _ _) ?_
   exact .fin (S90.finN lN) ⟨w91,h92,rfl⟩
 exact .fin (S0.finN lN) ⟨w0,hw0,rfl⟩
end
end Go.Ev
namespace Go.Ev
open Go.Proofs
set_option linter.unusedVariables false
set_option linter.unusedSimpArgs false
set_option maxRecDepth 100000
noncomputable section
abbrev KT7:=Exit→Env→H→Option (List C × H)
variable (rec : CallF) (loop : LoopV) (σ : Stamp)
theorem slices_choosePivotCmpFunc_alarm_Due_entry (x0 : V) (x1 : Int) (x2 : Int) (x3 : V) (h : H) : cvBody G rec loop 145 σ [x0,(.p (.int .i64 x1)),(.p (.int .i64 x2)),x3] h =
(some (alO [.p (.int .i64 0)] (0::0::1::1::0::σ) 11 (List.replicate 63 []::h))).bind fun q1 =>
bif decide ((IntKind.wrap .i64 (x2 - x1)) ≥ 8) then (
bif decide ((IntKind.wrap .i64 (x2 - x1)) ≥ 50) then (
(callO rec 172 (3::0::1::0::1::0::1::1::1::1::1::1::0::σ) [x0,(.p (.int .i64 (IntKind.wrap .i64 (x1 + (IntKind.wrap .i64 ((IntKind.wrap .i64 (Int.tdiv (IntKind.wrap .i64 (x2 - x1)) 4)) * 1)))))),q1.1,x3] q1.2 (some 40)).bind fun q2 =>
(castI .i64 q2.1).bind fun n3 =>
(callO rec 172 (3::0::1::1::0::1::0::1::1::1::1::1::1::0::σ) [x0,(.p (.int .i64 (IntKind.wrap .i64 (x1 + (IntKind.wrap .i64 ((IntKind.wrap .i64 (Int.tdiv (IntKind.wrap .i64 (x2 - x1)) 4)) * 2)))))),q1.1,x3] q2.2 (some 44)).bind fun q4 =>
(castI .i64 q4.1).bind fun n5 =>
(callO rec 172 (3::1::1::1::0::1::0::1::1::1::1::1::1::0::σ) [x0,(.p (.int .i64 (IntKind.wrap .i64 (x1 + (IntKind.wrap .i64 ((IntKind.wrap .i64 (Int.tdiv (IntKind.wrap .i64 (x2 - x1)) 4)) * 3)))))),q1.1,x3] q4.2 (some 48)).bind fun q6 =>
(castI .i64 q6.1).bind fun n7 =>
(callO rec 173 (5::1::1::0::1::1::1::1::1::1::0::σ) [x0,(.p (.int .i64 n3)),(.p (.int .i64 n5)),(.p (.int .i64 n7)),q1.1,x3] q6.2 (some 54)).bind fun q8 =>
(castI .i64 q8.1).bind fun n9 =>
(ldO false 1 q8.2 q1.1).bind fun t10 =>
(castI .i64 t10).bind fun n11 =>
bif n11 == 0 then (
fin false σ q8.2 [(.p (.int .i64 n9)),(.p (.int .i64 1))])
else (
bif n11 == 12 then (
fin false σ q8.2 [(.p (.int .i64 n9)),(.p (.int .i64 2))])
else (
fin false σ q8.2 [(.p (.int .i64 n9)),(.p (.int .i64 0))])))
else (
(callO rec 173 (5::1::1::0::1::1::1::1::1::1::0::σ) [x0,(.p (.int .i64 (IntKind.wrap .i64 (x1 + (IntKind.wrap .i64 ((IntKind.wrap .i64 (Int.tdiv (IntKind.wrap .i64 (x2 - x1)) 4)) * 1)))))),(.p (.int .i64 (IntKind.wrap .i64 (x1 + (IntKind.wrap .i64 ((IntKind.wrap .i64 (Int.tdiv (IntKind.wrap .i64 (x2 - x1)) 4)) * 2)))))),(.p (.int .i64 (IntKind.wrap .i64 (x1 + (IntKind.wrap .i64 ((IntKind.wrap .i64 (Int.tdiv (IntKind.wrap .i64 (x2 - x1)) 4)) * 3)))))),q1.1,x3] q1.2 (some 54)).bind fun q12 =>
(castI .i64 q12.1).bind fun n13 =>
(ldO false 1 q12.2 q1.1).bind fun t14 =>
(castI .i64 t14).bind fun n15 =>
bif n15 == 0 then (
fin false σ q12.2 [(.p (.int .i64 n13)),(.p (.int .i64 1))])
else (
bif n15 == 12 then (
fin false σ q12.2 [(.p (.int .i64 n13)),(.p (.int .i64 2))])
else (
fin false σ q12.2 [(.p (.int .i64 n13)),(.p (.int .i64 0))]))))
else (
(ldO false 1 q1.2 q1.1).bind fun t16 =>
(castI .i64 t16).bind fun n17 =>
bif n17 == 0 then (
fin false σ q1.2 [(.p (.int .i64 (IntKind.wrap .i64 (x1 + (IntKind.wrap .i64 ((IntKind.wrap .i64 (Int.tdiv (IntKind.wrap .i64 (x2 - x1)) 4)) * 2)))))),(.p (.int .i64 1))])
else (
bif n17 == 12 then (
fin false σ q1.2 [(.p (.int .i64 (IntKind.wrap .i64 (x1 + (IntKind.wrap .i64 ((IntKind.wrap .i64 (Int.tdiv (IntKind.wrap .i64 (x2 - x1)) 4)) * 2)))))),(.p (.int .i64 2))])
else (
fin false σ q1.2 [(.p (.int .i64 (IntKind.wrap .i64 (x1 + (IntKind.wrap .i64 ((IntKind.wrap .i64 (Int.tdiv (IntKind.wrap .i64 (x2 - x1)) 4)) * 2)))))),(.p (.int .i64 0))]))):=by kernel_rfl
theorem slices_medianAdjacentCmpFunc_alarm_Due_entry (x0 : V) (x1 : Int) (x2 : V) (x3 : V) (h : H) : cvBody G rec loop 172 σ [x0,(.p (.int .i64 x1)),x2,x3] h =
(callO rec 173 (8::0::1::0::σ) [x0,(.p (.int .i64 (IntKind.wrap .i64 (x1 - 1)))),(.p (.int .i64 x1)),(.p (.int .i64 (IntKind.wrap .i64 (x1 + 1)))),x2,x3] (List.replicate 18 []::h) (some 17)).bind fun q1 =>
(castI .i64 q1.1).bind fun n2 =>
fin false σ q1.2 [(.p (.int .i64 n2))]:=by kernel_rfl
theorem slices_medianCmpFunc_alarm_Due_entry (x0 : V) (x1 : Int) (x2 : Int) (x3 : Int) (x4 : V) (x5 : V) (h : H) : cvBody G rec loop 173 σ [x0,(.p (.int .i64 x1)),(.p (.int .i64 x2)),(.p (.int .i64 x3)),x4,x5] h =
(callO rec 179 (5::0::1::0::σ) [x0,(.p (.int .i64 x1)),(.p (.int .i64 x2)),x4,x5] (List.replicate 41 []::h) (some 19)).bind fun q1 =>
(extV q1.1 0).bind fun t2 =>
(castI .i64 t2).bind fun n3 =>
(extV q1.1 1).bind fun t4 =>
(castI .i64 t4).bind fun n5 =>
(callO rec 179 (5::0::1::1::0::σ) [x0,(.p (.int .i64 n5)),(.p (.int .i64 x3)),x4,x5] q1.2 (some 28)).bind fun q6 =>
(extV q6.1 0).bind fun t7 =>
(castI .i64 t7).bind fun n8 =>
(extV q6.1 1).bind fun t9 =>
(castI .i64 t9).bind fun n10 =>
(callO rec 179 (5::0::1::1::1::0::σ) [x0,(.p (.int .i64 n3)),(.p (.int .i64 n8)),x4,x5] q6.2 (some 37)).bind fun q11 =>
(extV q11.1 0).bind fun t12 =>
(castI .i64 t12).bind fun n13 =>
(extV q11.1 1).bind fun t14 =>
(castI .i64 t14).bind fun n15 =>
fin false σ q11.2 [(.p (.int .i64 n15))]:=by kernel_rfl
theorem slices_order2CmpFunc_alarm_Due_entry (x0 : V) (x1 : Int) (x2 : Int) (x3 : V) (x4 : V) (h : H) : cvBody G rec loop 179 σ [x0,(.p (.int .i64 x1)),(.p (.int .i64 x2)),x3,x4] h =
(iS 2 x0 x2).bind fun t1 =>
(ldO true 2 (List.replicate 32 []::h) t1).bind fun t2 =>
(iS 2 x0 x1).bind fun t3 =>
(ldO true 2 (List.replicate 32 []::h) t3).bind fun t4 =>
(cloO rec x4 (9::0::0::1::0::σ) [t2,t4] (List.replicate 32 []::h) (some 21)).bind fun q5 =>
(castI .i64 q5.1).bind fun n6 =>
bif decide (n6 < 0) then (
(nilChk x3).bind fun t7 =>
(ldO false 1 q5.2 t7).bind fun t8 =>
(castI .i64 t8).bind fun n9 =>
(nilChk x3).bind fun t10 =>
((stO true 1 (5::0::1::0::1::0::σ) q5.2 t10 (.p (.int .i64 (IntKind.wrap .i64 (n9 + 1))))).map fun h => (udf,h)).bind fun q11 =>
fin false σ q11.2 [(.p (.int .i64 x2)),(.p (.int .i64 x1))])
else (
fin false σ q5.2 [(.p (.int .i64 x1)),(.p (.int .i64 x2))]):=by kernel_rfl
end
end Go.Ev
namespace Go.Ev
open Go.Proofs
set_option linter.unusedVariables false
set_option linter.unusedSimpArgs false
set_option maxRecDepth 100000
section
variable {β α : Type} {Q : β→α→Prop} {K : Exit × Env × H→Option α}
def p_slices_order2CmpFunc_alarm_Due_alarm_Table_Set_1 (k : Nat) (x0 : (List T_alarm_Due)) (x1 : Int) (x2 : Int) (x3 : Int) : Option (Int × Int × Int) :=
(ix x0 x2).bind fun a1 =>
(ix x0 x1).bind fun a6 =>
(p_alarm_Table_Set_1 k a1 a6).bind fun r11 =>
bif decide (r11 < 0) then (
some (x2,x1,(IntKind.wrap .i64 (x3 + 1))))
else (
some (x1,x2,x3))
theorem slices_order2CmpFunc_alarm_Due_alarm_Table_Set_1_ok (k : Nat) {h : H} {σ : Stamp} (x0 : List T_alarm_Due) {u0 : V} (hu0 : SlH h dT_alarm_Due x0 u0) (x1 : Int) (x2 : Int) (x3 : Int)  {l3 : Loc} {o3 : Nat} (ha3 : AtC h l3 o3 (List.map C.v [(.p (.int .i64 x3))])) (hk0_p3 : KN u0 l3) : Sim (p_slices_order2CmpFunc_alarm_Due_alarm_Table_Set_1 k x0 x1 x2 x3) (ev G X0 179 σ [u0,(.p (.int .i64 x1)),(.p (.int .i64 x2)),(.ref l3 o3),(.clo 47 [])] h) (fun r s => s = ([.v (.p (.int .i64 r.1)),.v (.p (.int .i64 r.2.1))],pts h [⟨l3,o3,[.v (.p (.int .i64 r.2.2))]⟩])):=by
 refine .ev rfl (Sim.ext (slices_order2CmpFunc_alarm_Due_entry _ _ _ _ _ _ _ _ _) ?_)
 rw [p_slices_order2CmpFunc_alarm_Due_alarm_Table_Set_1]
 have S0 : Fm 32 h [⟨l3,o3,List.map C.v [(.p (.int .i64 x3))]⟩] [] [] (List.replicate 32 []::h):=Fm.start1 ha3
 refine .bd fun a1 h2 => ?_
 refine .op ((S0.lowN (aC hk0_p3 aN) hu0).iS h2 rfl) ?_
 obtain ⟨w4,h5,hE3⟩:=(S0.lowN (aC hk0_p3 aN) hu0).el h2 rfl
 obtain rfl:=dT_alarm_Due.inv h5
 refine .op (hE3.all (by simp)) ?_
 refine .bd fun a6 h7 => ?_
 refine .op ((S0.lowN (aC hk0_p3 aN) hu0).iS h7 rfl) ?_
 obtain ⟨w9,h10,hE8⟩:=(S0.lowN (aC hk0_p3 aN) hu0).el h7 rfl
 obtain rfl:=dT_alarm_Due.inv h10
 refine .op (hE8.all (by simp)) ?_
 refine .clo ?_
 refine .call (alarm_Table_Set_1_ok k a1 (show dT_alarm_Due.R a1 [.p (.int .i64 a1.f_At),.p (.int .u64 a1.Key)] from (dT_alarm_Due.mk)) a6 (show dT_alarm_Due.R a6 [.p (.int .i64 a6.f_At),.p (.int .u64 a6.Key)] from (dT_alarm_Due.mk))) fun r11 cs12 H13 h14 q15 => ?_
 cases q15
 refine .ci ?_
 refine .cq ?_ ?_
 ·refine .nc ?_
  refine .op ((S0.atB (i:=0) rfl).ld (j:=0) rfl) ?_
  refine .ci ?_
  refine .nc ?_
  obtain ⟨H17,e18,S19⟩:=S0.stB (i:=0) (j:=0) (own:=true) (σ:=(5::0::1::0::1::0::σ)) (x:=(.p (.int .i64 (IntKind.wrap .i64 (x3 + 1))))) rfl (sI _ _) rfl
  refine .op (sM e18) ?_
  exact .fin (S19.finN (lC (sI _ _).lv (lC (sI _ _).lv lN))) rfl
 exact .fin (S0.finN (lC (sI _ _).lv (lC (sI _ _).lv lN))) rfl
def p_slices_medianCmpFunc_alarm_Due_alarm_Table_Set_1 (k : Nat) (x0 : (List T_alarm_Due)) (x1 : Int) (x2 : Int) (x3 : Int) (x4 : Int) : Option (Int × Int) :=
(p_slices_order2CmpFunc_alarm_Due_alarm_Table_Set_1 k x0 x1 x2 x4).bind fun r1 =>
(p_slices_order2CmpFunc_alarm_Due_alarm_Table_Set_1 k x0 r1.2.1 x3 r1.2.2).bind fun r7 =>
(p_slices_order2CmpFunc_alarm_Due_alarm_Table_Set_1 k x0 r1.1 r7.1 r7.2.2).bind fun r13 =>
some (r13.2.1,r13.2.2)
theorem slices_medianCmpFunc_alarm_Due_alarm_Table_Set_1_ok (k : Nat) {h : H} {σ : Stamp} (x0 : List T_alarm_Due) {u0 : V} (hu0 : SlH h dT_alarm_Due x0 u0) (x1 : Int) (x2 : Int) (x3 : Int) (x4 : Int)  {l4 : Loc} {o4 : Nat} (ha4 : AtC h l4 o4 (List.map C.v [(.p (.int .i64 x4))])) (hk0_p4 : KN u0 l4) : Sim (p_slices_medianCmpFunc_alarm_Due_alarm_Table_Set_1 k x0 x1 x2 x3 x4) (ev G X0 173 σ [u0,(.p (.int .i64 x1)),(.p (.int .i64 x2)),(.p (.int .i64 x3)),(.ref l4 o4),(.clo 47 [])] h) (fun r s => s = ([.v (.p (.int .i64 r.1))],pts h [⟨l4,o4,[.v (.p (.int .i64 r.2))]⟩])):=by
 refine .ev rfl (Sim.ext (slices_medianCmpFunc_alarm_Due_entry _ _ _ _ _ _ _ _ _ _) ?_)
 rw [p_slices_medianCmpFunc_alarm_Due_alarm_Table_Set_1]
 have S0 : Fm 41 h [⟨l4,o4,List.map C.v [(.p (.int .i64 x4))]⟩] [] [] (List.replicate 41 []::h):=Fm.start1 ha4
 refine .call (slices_order2CmpFunc_alarm_Due_alarm_Table_Set_1_ok k x0 (S0.lowN (aC hk0_p4 aN) hu0) x1 x2 x4 (S0.atB (i:=0) rfl) hk0_p4) fun r1 cs2 H3 h4 q5 => ?_
 cases q5
 have S6:=S0.setB (i:=0) (cs:=List.map C.v [(.p (.int .i64 r1.2.2))]) rfl rfl
 refine .or ?_
 refine .ci ?_
 refine .or ?_
 refine .ci ?_
 refine .call (slices_order2CmpFunc_alarm_Due_alarm_Table_Set_1_ok k x0 (S6.lowN (aC hk0_p4 aN) hu0) r1.2.1 x3 r1.2.2 (S6.atB (i:=0) rfl) hk0_p4) fun r7 cs8 H9 h10 q11 => ?_
 cases q11
 have S12:=S6.setB (i:=0) (cs:=List.map C.v [(.p (.int .i64 r7.2.2))]) rfl rfl
 refine .or ?_
 refine .ci ?_
 refine .or ?_
 refine .ci ?_
 refine .call (slices_order2CmpFunc_alarm_Due_alarm_Table_Set_1_ok k x0 (S12.lowN (aC hk0_p4 aN) hu0) r1.1 r7.1 r7.2.2 (S12.atB (i:=0) rfl) hk0_p4) fun r13 cs14 H15 h16 q17 => ?_
 cases q17
 have S18:=S12.setB (i:=0) (cs:=List.map C.v [(.p (.int .i64 r13.2.2))]) rfl rfl
 refine .or ?_
 refine .ci ?_
 refine .or ?_
 refine .ci ?_
 exact .fin (S18.finN (lC (sI _ _).lv lN)) rfl
def p_slices_medianAdjacentCmpFunc_alarm_Due_alarm_Table_Set_1 (k : Nat) (x0 : (List T_alarm_Due)) (x1 : Int) (x2 : Int) : Option (Int × Int) :=
(p_slices_medianCmpFunc_alarm_Due_alarm_Table_Set_1 k x0 (IntKind.wrap .i64 (x1 - 1)) x1 (IntKind.wrap .i64 (x1 + 1)) x2).bind fun r1 =>
some (r1.1,r1.2)
theorem slices_medianAdjacentCmpFunc_alarm_Due_alarm_Table_Set_1_ok (k : Nat) {h : H} {σ : Stamp} (x0 : List T_alarm_Due) {u0 : V} (hu0 : SlH h dT_alarm_Due x0 u0) (x1 : Int) (x2 : Int)  {l2 : Loc} {o2 : Nat} (ha2 : AtC h l2 o2 (List.map C.v [(.p (.int .i64 x2))])) (hk0_p2 : KN u0 l2) : Sim (p_slices_medianAdjacentCmpFunc_alarm_Due_alarm_Table_Set_1 k x0 x1 x2) (ev G X0 172 σ [u0,(.p (.int .i64 x1)),(.ref l2 o2),(.clo 47 [])] h) (fun r s => s = ([.v (.p (.int .i64 r.1))],pts h [⟨l2,o2,[.v (.p (.int .i64 r.2))]⟩])):=by
 refine .ev rfl (Sim.ext (slices_medianAdjacentCmpFunc_alarm_Due_entry _ _ _ _ _ _ _ _) ?_)
 rw [p_slices_medianAdjacentCmpFunc_alarm_Due_alarm_Table_Set_1]
 have S0 : Fm 18 h [⟨l2,o2,List.map C.v [(.p (.int .i64 x2))]⟩] [] [] (List.replicate 18 []::h):=Fm.start1 ha2
 refine .call (slices_medianCmpFunc_alarm_Due_alarm_Table_Set_1_ok k x0 (S0.lowN (aC hk0_p2 aN) hu0) (IntKind.wrap .i64 (x1 - 1)) x1 (IntKind.wrap .i64 (x1 + 1)) x2 (S0.atB (i:=0) rfl) hk0_p2) fun r1 cs2 H3 h4 q5 => ?_
 cases q5
 have S6:=S0.setB (i:=0) (cs:=List.map C.v [(.p (.int .i64 r1.2))]) rfl rfl
 refine .ci ?_
 exact .fin (S6.finN (lC (sI _ _).lv lN)) rfl
def p_slices_choosePivotCmpFunc_alarm_Due_alarm_Table_Set_1 (k : Nat) (x0 : (List T_alarm_Due)) (x1 : Int) (x2 : Int) : Option (Int × Int) :=
bif decide ((IntKind.wrap .i64 (x2 - x1)) ≥ 8) then (
bif decide ((IntKind.wrap .i64 (x2 - x1)) ≥ 50) then (
(p_slices_medianAdjacentCmpFunc_alarm_Due_alarm_Table_Set_1 k x0 (IntKind.wrap .i64 (x1 + (IntKind.wrap .i64 ((IntKind.wrap .i64 (Int.tdiv (IntKind.wrap .i64 (x2 - x1)) 4)) * 1)))) 0).bind fun r7 =>
(p_slices_medianAdjacentCmpFunc_alarm_Due_alarm_Table_Set_1 k x0 (IntKind.wrap .i64 (x1 + (IntKind.wrap .i64 ((IntKind.wrap .i64 (Int.tdiv (IntKind.wrap .i64 (x2 - x1)) 4)) * 2)))) r7.2).bind fun r13 =>
(p_slices_medianAdjacentCmpFunc_alarm_Due_alarm_Table_Set_1 k x0 (IntKind.wrap .i64 (x1 + (IntKind.wrap .i64 ((IntKind.wrap .i64 (Int.tdiv (IntKind.wrap .i64 (x2 - x1)) 4)) * 3)))) r13.2).bind fun r19 =>
(p_slices_medianCmpFunc_alarm_Due_alarm_Table_Set_1 k x0 r7.1 r13.1 r19.1 r19.2).bind fun r25 =>
bif r25.2 == 0 then (
some (r25.1,1))
else (
bif r25.2 == 12 then (
some (r25.1,2))
else (
some (r25.1,0))))
else (
(p_slices_medianCmpFunc_alarm_Due_alarm_Table_Set_1 k x0 (IntKind.wrap .i64 (x1 + (IntKind.wrap .i64 ((IntKind.wrap .i64 (Int.tdiv (IntKind.wrap .i64 (x2 - x1)) 4)) * 1)))) (IntKind.wrap .i64 (x1 + (IntKind.wrap .i64 ((IntKind.wrap .i64 (Int.tdiv (IntKind.wrap .i64 (x2 - x1)) 4)) * 2)))) (IntKind.wrap .i64 (x1 + (IntKind.wrap .i64 ((IntKind.wrap .i64 (Int.tdiv (IntKind.wrap .i64 (x2 - x1)) 4)) * 3)))) 0).bind fun r33 =>
bif r33.2 == 0 then (
some (r33.1,1))
else (
bif r33.2 == 12 then (
some (r33.1,2))
else (
some (r33.1,0)))))
else (
bif 0 == 0 then (
some ((IntKind.wrap .i64 (x1 + (IntKind.wrap .i64 ((IntKind.wrap .i64 (Int.tdiv (IntKind.wrap .i64 (x2 - x1)) 4)) * 2)))),1))
else (
bif 0 == 12 then (
some ((IntKind.wrap .i64 (x1 + (IntKind.wrap .i64 ((IntKind.wrap .i64 (Int.tdiv (IntKind.wrap .i64 (x2 - x1)) 4)) * 2)))),2))
else (
some ((IntKind.wrap .i64 (x1 + (IntKind.wrap .i64 ((IntKind.wrap .i64 (Int.tdiv (IntKind.wrap .i64 (x2 - x1)) 4)) * 2)))),0))))
theorem slices_choosePivotCmpFunc_alarm_Due_alarm_Table_Set_1_ok (k : Nat) {h : H} {σ : Stamp} (x0 : List T_alarm_Due) {u0 : V} (hu0 : SlH h dT_alarm_Due x0 u0) (x1 : Int) (x2 : Int) : Sim (p_slices_choosePivotCmpFunc_alarm_Due_alarm_Table_Set_1 k x0 x1 x2) (ev G X0 145 σ [u0,(.p (.int .i64 x1)),(.p (.int .i64 x2)),(.clo 47 [])] h) (fun r s => s = ([.v (.p (.int .i64 r.1)),.v (.p (.int .i64 r.2))],h)):=by
 refine .ev rfl (Sim.ext (slices_choosePivotCmpFunc_alarm_Due_entry _ _ _ _ _ _ _ _) ?_)
 rw [p_slices_choosePivotCmpFunc_alarm_Due_alarm_Table_Set_1]
 have S0 : Fm 63 h [] [] [] (List.replicate 63 []::h):=Fm.start0
 obtain ⟨H1,e2,S3⟩:=S0.al (d:=11) (s:=(0::0::1::1::0::σ)) (z:=[(.p (.int .i64 0))]) (by decide) rfl
 refine .op (congrArg some e2) ?_
 refine .cq ?_ ?_
 ·refine .cq ?_ ?_
  ·refine .call (slices_medianAdjacentCmpFunc_alarm_Due_alarm_Table_Set_1_ok k x0 (S3.low hu0) (IntKind.wrap .i64 (x1 + (IntKind.wrap .i64 ((IntKind.wrap .i64 (Int.tdiv (IntKind.wrap .i64 (x2 - x1)) 4)) * 1)))) 0 (S3.atG (i:=0) rfl) (KN.of_low hu0 (Nat.le_refl _))) fun r7 cs8 H9 h10 q11 => ?_
   cases q11
   have S12:=S3.setG (i:=0) (cs':=List.map C.v [(.p (.int .i64 r7.2))]) rfl rfl rfl
   refine .ci ?_
   refine .call (slices_medianAdjacentCmpFunc_alarm_Due_alarm_Table_Set_1_ok k x0 (S12.low hu0) (IntKind.wrap .i64 (x1 + (IntKind.wrap .i64 ((IntKind.wrap .i64 (Int.tdiv (IntKind.wrap .i64 (x2 - x1)) 4)) * 2)))) r7.2 (S12.atG (i:=0) rfl) (KN.of_low hu0 (Nat.le_refl _))) fun r13 cs14 H15 h16 q17 => ?_
   cases q17
   have S18:=S12.setG (i:=0) (cs':=List.map C.v [(.p (.int .i64 r13.2))]) rfl rfl rfl
   refine .ci ?_
   refine .call (slices_medianAdjacentCmpFunc_alarm_Due_alarm_Table_Set_1_ok k x0 (S18.low hu0) (IntKind.wrap .i64 (x1 + (IntKind.wrap .i64 ((IntKind.wrap .i64 (Int.tdiv (IntKind.wrap .i64 (x2 - x1)) 4)) * 3)))) r13.2 (S18.atG (i:=0) rfl) (KN.of_low hu0 (Nat.le_refl _))) fun r19 cs20 H21 h22 q23 => ?_
   cases q23
   have S24:=S18.setG (i:=0) (cs':=List.map C.v [(.p (.int .i64 r19.2))]) rfl rfl rfl
   refine .ci ?_
   refine .call (slices_medianCmpFunc_alarm_Due_alarm_Table_Set_1_ok k x0 (S24.low hu0) r7.1 r13.1 r19.1 r19.2 (S24.atG (i:=0) rfl) (KN.of_low hu0 (Nat.le_refl _))) fun r25 cs26 H27 h28 q29 => ?_
   cases q29
   have S30:=S24.setG (i:=0) (cs':=List.map C.v [(.p (.int .i64 r25.2))]) rfl rfl rfl
   refine .ci ?_
   refine .op ((S30.atG (i:=0) rfl).ld (j:=0) rfl) ?_
   refine .ci ?_
   refine .cq ?_ ?_
   ·exact .fin (S30.finN (lC (sI _ _).lv (lC (sI _ _).lv lN))) rfl
   refine .cq ?_ ?_
   ·exact .fin (S30.finN (lC (sI _ _).lv (lC (sI _ _).lv lN))) rfl
   exact .fin (S30.finN (lC (sI _ _).lv (lC (sI _ _).lv lN))) rfl
  refine .call (slices_medianCmpFunc_alarm_Due_alarm_Table_Set_1_ok k x0 (S3.low hu0) (IntKind.wrap .i64 (x1 + (IntKind.wrap .i64 ((IntKind.wrap .i64 (Int.tdiv (IntKind.wrap .i64 (x2 - x1)) 4)) * 1)))) (IntKind.wrap .i64 (x1 + (IntKind.wrap .i64 ((IntKind.wrap .i64 (Int.tdiv (IntKind.wrap .i64 (x2 - x1)) 4)) * 2)))) (IntKind.wrap .i64 (x1 + (IntKind.wrap .i64 ((IntKind.wrap .i64 (Int.tdiv (IntKind.wrap .i64 (x2 - x1)) 4)) * 3)))) 0 (S3.atG (i:=0) rfl) (KN.of_low hu0 (Nat.le_refl _))) fun r33 cs34 H35 h36 q37 => ?_
  cases q37
  have S38:=S3.setG (i:=0) (cs':=List.map C.v [(.p (.int .i64 r33.2))]) rfl rfl rfl
  refine .ci ?_
  refine .op ((S38.atG (i:=0) rfl).ld (j:=0) rfl) ?_
  refine .ci ?_
  refine .cq ?_ ?_
  ·exact .fin (S38.finN (lC (sI _ _).lv (lC (sI _ _).lv lN))) rfl
  refine .cq ?_ ?_
  ·exact .fin (S38.finN (lC (sI _ _).lv (lC (sI _ _).lv lN))) rfl
  exact .fin (S38.finN (lC (sI _ _).lv (lC (sI _ _).lv lN))) rfl
 refine .op ((S3.atG (i:=0) rfl).ld (j:=0) rfl) ?_
 refine .ci ?_
 refine .cq ?_ ?_
 ·exact .fin (S3.finN (lC (sI _ _).lv (lC (sI _ _).lv lN))) rfl
 refine .cq ?_ ?_
 ·exact .fin (S3.finN (lC (sI _ _).lv (lC (sI _ _).lv lN))) rfl
 exact .fin (S3.finN (lC (sI _ _).lv (lC (sI _ _).lv lN))) rfl
end
end Go.Ev
namespace Go.Ev
open Go.Proofs
set_option linter.unusedVariables false
set_option linter.unusedSimpArgs false
set_option maxRecDepth 100000
noncomputable section
abbrev KT8:=Exit→Env→H→Option (List C × H)
variable (rec : CallF) (loop : LoopV) (σ : Stamp)
def slices_heapSortCmpFunc_alarm_Due_c0 : Code:=(codeAt (bodyOf Try.f143) [1,1,1,0,1,0,0])
def slices_heapSortCmpFunc_alarm_Due_l0 : Lv:=⟨1801,0,[(0,1801)]⟩
def slices_heapSortCmpFunc_alarm_Due_k0 : KT8:=(kBlock 0 (kSeq G rec loop (codeAt (bodyOf Try.f143) [1,1,1,1]) ⟨0,0,[]⟩ (1::1::1::0::σ) (finC G false Try.f143 (1::σ))))
def slices_heapSortCmpFunc_alarm_Due_c1 : Code:=(codeAt (bodyOf Try.f143) [1,1,1,1,1,0,0])
def slices_heapSortCmpFunc_alarm_Due_l1 : Lv:=⟨0,0,[(2,0)]⟩
def slices_heapSortCmpFunc_alarm_Due_k1 (rec : CallF) (loop : LoopV) (σ : Stamp) : KT8:=(kBlock 2 (finC G false Try.f143 (1::σ)))
theorem slices_heapSortCmpFunc_alarm_Due_entry (x0 : V) (x1 : Int) (x2 : Int) (x3 : V) (h : H) : cvBody G rec loop 143 σ [x0,(.p (.int .i64 x1)),(.p (.int .i64 x2)),x3] h =
(loop slices_heapSortCmpFunc_alarm_Due_c0 slices_heapSortCmpFunc_alarm_Due_l0 (1::0::1::1::1::0::σ) (envL [(0,x0),(3,x3),(8,(.p (.int .i64 x1))),(9,(.p (.int .i64 0))),(10,(.p (.int .i64 (IntKind.wrap .i64 (x2 - x1))))),(11,(.p (.int .i64 (IntKind.wrap .i64 (Int.tdiv (IntKind.wrap .i64 ((IntKind.wrap .i64 (x2 - x1)) - 1)) 2)))))]) (List.replicate 60 []::h)).bind fun r1 => slices_heapSortCmpFunc_alarm_Due_k0 rec loop σ r1.1 r1.2.1 r1.2.2:=by kernel_rfl
theorem slices_heapSortCmpFunc_alarm_Due_r0 (x0 : V) (x3 : V) (x8 : Int) (x9 : Int) (x10 : Int) (x11 : Int) (h : H) : cvRound G rec loop slices_heapSortCmpFunc_alarm_Due_c0 slices_heapSortCmpFunc_alarm_Due_l0 σ (envL [(0,x0),(3,x3),(8,(.p (.int .i64 x8))),(9,(.p (.int .i64 x9))),(10,(.p (.int .i64 x10))),(11,(.p (.int .i64 x11)))]) h =
bif decide (x11 ≥ 0) then (
(callO rec 169 (5::0::1::0::σ) [x0,(.p (.int .i64 x11)),(.p (.int .i64 x10)),(.p (.int .i64 x8)),x3] h (some 29)).bind fun q2 =>
loop slices_heapSortCmpFunc_alarm_Due_c0 slices_heapSortCmpFunc_alarm_Due_l0 (1::σ) (envL [(0,x0),(3,x3),(8,(.p (.int .i64 x8))),(9,(.p (.int .i64 x9))),(10,(.p (.int .i64 x10))),(11,(.p (.int .i64 (IntKind.wrap .i64 (x11 - 1)))))]) q2.2)
else (
some ((.exit 0),(envL [(0,x0),(3,x3),(8,(.p (.int .i64 x8))),(9,(.p (.int .i64 x9))),(10,(.p (.int .i64 x10)))]),h)):=by kernel_rfl
theorem slices_heapSortCmpFunc_alarm_Due_a0_0 (x0 : V) (x3 : V) (x8 : Int) (x9 : Int) (x10 : Int) (h : H) : slices_heapSortCmpFunc_alarm_Due_k0 rec loop σ (.exit 0) (envL [(0,x0),(3,x3),(8,(.p (.int .i64 x8))),(9,(.p (.int .i64 x9))),(10,(.p (.int .i64 x10)))]) h =
(loop slices_heapSortCmpFunc_alarm_Due_c1 slices_heapSortCmpFunc_alarm_Due_l1 (1::1::1::1::1::0::σ) (envL [(0,x0),(3,x3),(8,(.p (.int .i64 x8))),(9,(.p (.int .i64 x9))),(12,(.p (.int .i64 (IntKind.wrap .i64 (x10 - 1)))))]) h).bind fun r3 => slices_heapSortCmpFunc_alarm_Due_k1 rec loop σ r3.1 r3.2.1 r3.2.2:=by kernel_rfl
theorem slices_heapSortCmpFunc_alarm_Due_r1 (x0 : V) (x3 : V) (x8 : Int) (x9 : Int) (x12 : Int) (h : H) : cvRound G rec loop slices_heapSortCmpFunc_alarm_Due_c1 slices_heapSortCmpFunc_alarm_Due_l1 σ (envL [(0,x0),(3,x3),(8,(.p (.int .i64 x8))),(9,(.p (.int .i64 x9))),(12,(.p (.int .i64 x12)))]) h =
bif decide (x12 ≥ 0) then (
(iS 2 x0 (IntKind.wrap .i64 (x8 + x12))).bind fun t4 =>
(ldO true 2 h t4).bind fun t5 =>
(iS 2 x0 x8).bind fun t6 =>
(ldO true 2 h t6).bind fun t7 =>
(iS 2 x0 x8).bind fun t8 =>
((stO false 2 (17::0::0::1::0::σ) h t8 t5).map fun h => (udf,h)).bind fun q9 =>
(iS 2 x0 (IntKind.wrap .i64 (x8 + x12))).bind fun t10 =>
((stO false 2 (19::0::0::1::0::σ) q9.2 t10 t7).map fun h => (udf,h)).bind fun q11 =>
(callO rec 169 (5::1::0::1::0::σ) [x0,(.p (.int .i64 x9)),(.p (.int .i64 x12)),(.p (.int .i64 x8)),x3] q11.2 (some 59)).bind fun q12 =>
loop slices_heapSortCmpFunc_alarm_Due_c1 slices_heapSortCmpFunc_alarm_Due_l1 (1::σ) (envL [(0,x0),(3,x3),(8,(.p (.int .i64 x8))),(9,(.p (.int .i64 x9))),(12,(.p (.int .i64 (IntKind.wrap .i64 (x12 - 1)))))]) q12.2)
else (
some ((.exit 2),(envL []),h)):=by kernel_rfl
theorem slices_heapSortCmpFunc_alarm_Due_a1_2  (h : H) : slices_heapSortCmpFunc_alarm_Due_k1 rec loop σ (.exit 2) (envL []) h =
fin false σ h []:=by kernel_rfl
def slices_siftDownCmpFunc_alarm_Due_c0 : Code:=(codeAt (bodyOf Try.f169) [1,0,0])
def slices_siftDownCmpFunc_alarm_Due_l0 : Lv:=⟨0,0,[(0,0)]⟩
def slices_siftDownCmpFunc_alarm_Due_k0 (rec : CallF) (loop : LoopV) (σ : Stamp) : KT8:=(kBlock 0 (finC G false Try.f169 (1::σ)))
theorem slices_siftDownCmpFunc_alarm_Due_entry (x0 : V) (x1 : Int) (x2 : Int) (x3 : Int) (x4 : V) (h : H) : cvBody G rec loop 169 σ [x0,(.p (.int .i64 x1)),(.p (.int .i64 x2)),(.p (.int .i64 x3)),x4] h =
(loop slices_siftDownCmpFunc_alarm_Due_c0 slices_siftDownCmpFunc_alarm_Due_l0 (1::0::σ) (envL [(0,x0),(2,(.p (.int .i64 x2))),(3,(.p (.int .i64 x3))),(4,x4),(10,(.p (.int .i64 x1)))]) (List.replicate 82 []::h)).bind fun r1 => slices_siftDownCmpFunc_alarm_Due_k0 rec loop σ r1.1 r1.2.1 r1.2.2:=by kernel_rfl
theorem slices_siftDownCmpFunc_alarm_Due_r0 (x0 : V) (x2 : Int) (x3 : Int) (x4 : V) (x10 : Int) (h : H) : cvRound G rec loop slices_siftDownCmpFunc_alarm_Due_c0 slices_siftDownCmpFunc_alarm_Due_l0 σ (envL [(0,x0),(2,(.p (.int .i64 x2))),(3,(.p (.int .i64 x3))),(4,x4),(10,(.p (.int .i64 x10)))]) h =
bif decide ((IntKind.wrap .i64 ((IntKind.wrap .i64 (2 * x10)) + 1)) ≥ x2) then (
some ((.exit 0),(envL []),h))
else (
(bif decide ((IntKind.wrap .i64 ((IntKind.wrap .i64 ((IntKind.wrap .i64 (2 * x10)) + 1)) + 1)) < x2) then ((iS 2 x0 (IntKind.wrap .i64 (x3 + (IntKind.wrap .i64 ((IntKind.wrap .i64 (2 * x10)) + 1))))).bind fun t2 =>
(ldO true 2 h t2).bind fun t3 =>
(iS 2 x0 (IntKind.wrap .i64 ((IntKind.wrap .i64 (x3 + (IntKind.wrap .i64 ((IntKind.wrap .i64 (2 * x10)) + 1)))) + 1))).bind fun t4 =>
(ldO true 2 h t4).bind fun t5 =>
(cloO rec x4 (19::0::0::1::1::0::σ) [t3,t5] h (some 38)).bind fun q6 =>
(castI .i64 q6.1).bind fun n7 =>
some ((.p (.bool (decide (n7 < 0)))),q6.2)) else (some ((.p (.bool false)),h))).bind fun q8 =>
(asB q8.1).bind fun b9 =>
bif b9 then (
(iS 2 x0 (IntKind.wrap .i64 (x3 + x10))).bind fun t10 =>
(ldO true 2 q8.2 t10).bind fun t11 =>
(iS 2 x0 (IntKind.wrap .i64 (x3 + (IntKind.wrap .i64 ((IntKind.wrap .i64 ((IntKind.wrap .i64 (2 * x10)) + 1)) + 1))))).bind fun t12 =>
(ldO true 2 q8.2 t12).bind fun t13 =>
(cloO rec x4 (13::0::0::1::1::1::0::σ) [t11,t13] q8.2 (some 56)).bind fun q14 =>
(castI .i64 q14.1).bind fun n15 =>
bif !(decide (n15 < 0)) then (
some (.ret,(envL []),q14.2))
else (
(iS 2 x0 (IntKind.wrap .i64 (x3 + (IntKind.wrap .i64 ((IntKind.wrap .i64 ((IntKind.wrap .i64 (2 * x10)) + 1)) + 1))))).bind fun t16 =>
(ldO true 2 q14.2 t16).bind fun t17 =>
(iS 2 x0 (IntKind.wrap .i64 (x3 + x10))).bind fun t18 =>
(ldO true 2 q14.2 t18).bind fun t19 =>
(iS 2 x0 (IntKind.wrap .i64 (x3 + x10))).bind fun t20 =>
((stO false 2 (21::0::1::1::1::1::0::σ) q14.2 t20 t17).map fun h => (udf,h)).bind fun q21 =>
(iS 2 x0 (IntKind.wrap .i64 (x3 + (IntKind.wrap .i64 ((IntKind.wrap .i64 ((IntKind.wrap .i64 (2 * x10)) + 1)) + 1))))).bind fun t22 =>
((stO false 2 (23::0::1::1::1::1::0::σ) q21.2 t22 t19).map fun h => (udf,h)).bind fun q23 =>
loop slices_siftDownCmpFunc_alarm_Due_c0 slices_siftDownCmpFunc_alarm_Due_l0 (1::σ) (envL [(0,x0),(2,(.p (.int .i64 x2))),(3,(.p (.int .i64 x3))),(4,x4),(10,(.p (.int .i64 (IntKind.wrap .i64 ((IntKind.wrap .i64 ((IntKind.wrap .i64 (2 * x10)) + 1)) + 1)))))]) q23.2))
else (
(iS 2 x0 (IntKind.wrap .i64 (x3 + x10))).bind fun t24 =>
(ldO true 2 q8.2 t24).bind fun t25 =>
(iS 2 x0 (IntKind.wrap .i64 (x3 + (IntKind.wrap .i64 ((IntKind.wrap .i64 (2 * x10)) + 1))))).bind fun t26 =>
(ldO true 2 q8.2 t26).bind fun t27 =>
(cloO rec x4 (13::0::0::1::1::1::0::σ) [t25,t27] q8.2 (some 56)).bind fun q28 =>
(castI .i64 q28.1).bind fun n29 =>
bif !(decide (n29 < 0)) then (
some (.ret,(envL []),q28.2))
else (
(iS 2 x0 (IntKind.wrap .i64 (x3 + (IntKind.wrap .i64 ((IntKind.wrap .i64 (2 * x10)) + 1))))).bind fun t30 =>
(ldO true 2 q28.2 t30).bind fun t31 =>
(iS 2 x0 (IntKind.wrap .i64 (x3 + x10))).bind fun t32 =>
(ldO true 2 q28.2 t32).bind fun t33 =>
(iS 2 x0 (IntKind.wrap .i64 (x3 + x10))).bind fun t34 =>
((stO false 2 (21::0::1::1::1::1::0::σ) q28.2 t34 t31).map fun h => (udf,h)).bind fun q35 =>
(iS 2 x0 (IntKind.wrap .i64 (x3 + (IntKind.wrap .i64 ((IntKind.wrap .i64 (2 * x10)) + 1))))).bind fun t36 =>
((stO false 2 (23::0::1::1::1::1::0::σ) q35.2 t36 t33).map fun h => (udf,h)).bind fun q37 =>
loop slices_siftDownCmpFunc_alarm_Due_c0 slices_siftDownCmpFunc_alarm_Due_l0 (1::σ) (envL [(0,x0),(2,(.p (.int .i64 x2))),(3,(.p (.int .i64 x3))),(4,x4),(10,(.p (.int .i64 (IntKind.wrap .i64 ((IntKind.wrap .i64 (2 * x10)) + 1)))))]) q37.2))):=by kernel_rfl
theorem slices_siftDownCmpFunc_alarm_Due_a0_0  (h : H) : slices_siftDownCmpFunc_alarm_Due_k0 rec loop σ (.exit 0) (envL []) h =
fin false σ h []:=by kernel_rfl
theorem slices_siftDownCmpFunc_alarm_Due_a0_ret  (h : H) : slices_siftDownCmpFunc_alarm_Due_k0 rec loop σ .ret (envL []) h =
fin false σ h []:=by kernel_rfl
end
end Go.Ev
namespace Go.Ev
open Go.Proofs
set_option linter.unusedVariables false
set_option linter.unusedSimpArgs false
set_option maxRecDepth 100000
section
variable {β α : Type} {Q : β→α→Prop} {K : Exit × Env × H→Option α}
def p_slices_siftDownCmpFunc_alarm_Due_alarm_Table_Set_1_l0 {β : Type} (k : Nat) (kE0 : (List T_alarm_Due)→Option β) (kE1 : (List T_alarm_Due)→Option β) (x2 : Int) (x3 : Int) (x10 : Int) (zw0 : (List T_alarm_Due)) : Option β:=match k with
| 0 => none
| k + 1 =>
bif decide ((IntKind.wrap .i64 ((IntKind.wrap .i64 (2 * x10)) + 1)) ≥ x2) then (
kE0 zw0)
else (
(bif decide ((IntKind.wrap .i64 ((IntKind.wrap .i64 ((IntKind.wrap .i64 (2 * x10)) + 1)) + 1)) < x2) then ((ix zw0 (IntKind.wrap .i64 (x3 + (IntKind.wrap .i64 ((IntKind.wrap .i64 (2 * x10)) + 1))))).bind fun a6 =>
(ix zw0 (IntKind.wrap .i64 ((IntKind.wrap .i64 (x3 + (IntKind.wrap .i64 ((IntKind.wrap .i64 (2 * x10)) + 1)))) + 1))).bind fun a11 =>
(p_alarm_Table_Set_1 k a6 a11).bind fun r16 =>
some (decide (r16 < 0))) else (some false)).bind fun b21 =>
bif b21 then (
(ix zw0 (IntKind.wrap .i64 (x3 + x10))).bind fun a26 =>
(ix zw0 (IntKind.wrap .i64 (x3 + (IntKind.wrap .i64 ((IntKind.wrap .i64 ((IntKind.wrap .i64 (2 * x10)) + 1)) + 1))))).bind fun a31 =>
(p_alarm_Table_Set_1 k a26 a31).bind fun r36 =>
bif !(decide (r36 < 0)) then (
kE1 zw0)
else (
(ix zw0 (IntKind.wrap .i64 (x3 + (IntKind.wrap .i64 ((IntKind.wrap .i64 ((IntKind.wrap .i64 (2 * x10)) + 1)) + 1))))).bind fun a42 =>
(ix zw0 (IntKind.wrap .i64 (x3 + x10))).bind fun a47 =>
(ix zw0 (IntKind.wrap .i64 (x3 + x10))).bind fun a52 =>
(stx zw0 (IntKind.wrap .i64 (x3 + x10)) a42).bind fun a57 =>
(ix a57 (IntKind.wrap .i64 (x3 + (IntKind.wrap .i64 ((IntKind.wrap .i64 ((IntKind.wrap .i64 (2 * x10)) + 1)) + 1))))).bind fun a61 =>
(stx a57 (IntKind.wrap .i64 (x3 + (IntKind.wrap .i64 ((IntKind.wrap .i64 ((IntKind.wrap .i64 (2 * x10)) + 1)) + 1)))) a47).bind fun a66 =>
p_slices_siftDownCmpFunc_alarm_Due_alarm_Table_Set_1_l0 k kE0 kE1 x2 x3 (IntKind.wrap .i64 ((IntKind.wrap .i64 ((IntKind.wrap .i64 (2 * x10)) + 1)) + 1)) a66))
else (
(ix zw0 (IntKind.wrap .i64 (x3 + x10))).bind fun a70 =>
(ix zw0 (IntKind.wrap .i64 (x3 + (IntKind.wrap .i64 ((IntKind.wrap .i64 (2 * x10)) + 1))))).bind fun a75 =>
(p_alarm_Table_Set_1 k a70 a75).bind fun r80 =>
bif !(decide (r80 < 0)) then (
kE1 zw0)
else (
(ix zw0 (IntKind.wrap .i64 (x3 + (IntKind.wrap .i64 ((IntKind.wrap .i64 (2 * x10)) + 1))))).bind fun a86 =>
(ix zw0 (IntKind.wrap .i64 (x3 + x10))).bind fun a91 =>
(ix zw0 (IntKind.wrap .i64 (x3 + x10))).bind fun a96 =>
(stx zw0 (IntKind.wrap .i64 (x3 + x10)) a86).bind fun a101 =>
(ix a101 (IntKind.wrap .i64 (x3 + (IntKind.wrap .i64 ((IntKind.wrap .i64 (2 * x10)) + 1))))).bind fun a105 =>
(stx a101 (IntKind.wrap .i64 (x3 + (IntKind.wrap .i64 ((IntKind.wrap .i64 (2 * x10)) + 1)))) a91).bind fun a110 =>
p_slices_siftDownCmpFunc_alarm_Due_alarm_Table_Set_1_l0 k kE0 kE1 x2 x3 (IntKind.wrap .i64 ((IntKind.wrap .i64 (2 * x10)) + 1)) a110)))
def p_slices_siftDownCmpFunc_alarm_Due_alarm_Table_Set_1 (k : Nat) (x0 : (List T_alarm_Due)) (x1 : Int) (x2 : Int) (x3 : Int) : Option ((List T_alarm_Due)) :=
p_slices_siftDownCmpFunc_alarm_Due_alarm_Table_Set_1_l0 k (fun zw0 =>
some (zw0)) (fun zw0 =>
some (zw0)) x2 x3 x1 x0
theorem slices_siftDownCmpFunc_alarm_Due_alarm_Table_Set_1_l0_ok {h : H} {l0 : Loc} {o0 : Nat} {u0 : V} {kE0 : (List T_alarm_Due)→Option β} {kE1 : (List T_alarm_Due)→Option β} (hE0 : ∀ (zw0 : (List T_alarm_Due)) (w116 : List C) (h117 : WL l0 o0 dT_alarm_Due zw0 u0 w116) (H114 : Go.Ev.H) (_ : Fm 82 h [⟨l0,o0,w116⟩] [] [] H114),Sim (kE0 zw0) (K ((.exit 0),(envL []),H114)) Q) (hE1 : ∀ (zw0 : (List T_alarm_Due)) (w120 : List C) (h121 : WL l0 o0 dT_alarm_Due zw0 u0 w120) (H118 : Go.Ev.H) (_ : Fm 82 h [⟨l0,o0,w120⟩] [] [] H118),Sim (kE1 zw0) (K (.ret,(envL []),H118)) Q) (k : Nat) : ∀ (x2 : Int) (x3 : Int) (x10 : Int) (zw0 : (List T_alarm_Due)) (w3 : List C) (h4 : WL l0 o0 dT_alarm_Due zw0 u0 w3) (H1 : Go.Ev.H) (_ : Fm 82 h [⟨l0,o0,w3⟩] [] [] H1) {σ : Stamp},Sim (p_slices_siftDownCmpFunc_alarm_Due_alarm_Table_Set_1_l0 k kE0 kE1 x2 x3 x10 zw0) ((cvL G X0 slices_siftDownCmpFunc_alarm_Due_c0 slices_siftDownCmpFunc_alarm_Due_l0 σ (envL [(0,u0),(2,(.p (.int .i64 x2))),(3,(.p (.int .i64 x3))),(4,(.clo 47 [])),(10,(.p (.int .i64 x10)))]) H1).bind K) Q:=by
 induction k with
 | zero => intros; exact .no
 | succ k ih =>
  intro x2 x3 x10 zw0 w3 h4 H1 S2 σ
  rw [p_slices_siftDownCmpFunc_alarm_Due_alarm_Table_Set_1_l0]
  refine .round (Sim.ext (slices_siftDownCmpFunc_alarm_Due_r0 _ _ _ _ _ _ _ _ _) ?_)
  refine .cq ?_ ?_
  ·exact hE0 zw0 w3 h4 H1 (S2.wk2 aN aN)
  refine .ch (P:=fun r y => (.p (.bool r),H1) = y) ?_ (fun b21 y22 h23 h24 => ?_)
  ·refine .cq ?_ ?_
   ·refine .bd fun a6 h7 => ?_
    refine .op ((S2.slW (i:=0) rfl h4).iS h7 rfl) ?_
    obtain ⟨w9,h10,hE8⟩:=(S2.slW (i:=0) rfl h4).el h7 rfl
    obtain rfl:=dT_alarm_Due.inv h10
    refine .op (hE8.all (by simp)) ?_
    refine .bd fun a11 h12 => ?_
    refine .op ((S2.slW (i:=0) rfl h4).iS h12 rfl) ?_
    obtain ⟨w14,h15,hE13⟩:=(S2.slW (i:=0) rfl h4).el h12 rfl
    obtain rfl:=dT_alarm_Due.inv h15
    refine .op (hE13.all (by simp)) ?_
    refine .clo ?_
    refine .call (alarm_Table_Set_1_ok k a6 (show dT_alarm_Due.R a6 [.p (.int .i64 a6.f_At),.p (.int .u64 a6.Key)] from (dT_alarm_Due.mk)) a11 (show dT_alarm_Due.R a11 [.p (.int .i64 a11.f_At),.p (.int .u64 a11.Key)] from (dT_alarm_Due.mk))) fun r16 cs17 H18 h19 q20 => ?_
    cases q20
    refine .ci ?_
    exact .ret rfl rfl
   ·exact .ret rfl rfl
  subst h24
  refine .ab ?_
  refine .cq ?_ ?_
  ·refine .bd fun a26 h27 => ?_
   refine .op ((S2.slW (i:=0) rfl h4).iS h27 rfl) ?_
   obtain ⟨w29,h30,hE28⟩:=(S2.slW (i:=0) rfl h4).el h27 rfl
   obtain rfl:=dT_alarm_Due.inv h30
   refine .op (hE28.all (by simp)) ?_
   refine .bd fun a31 h32 => ?_
   refine .op ((S2.slW (i:=0) rfl h4).iS h32 rfl) ?_
   obtain ⟨w34,h35,hE33⟩:=(S2.slW (i:=0) rfl h4).el h32 rfl
   obtain rfl:=dT_alarm_Due.inv h35
   refine .op (hE33.all (by simp)) ?_
   refine .clo ?_
   refine .call (alarm_Table_Set_1_ok k a26 (show dT_alarm_Due.R a26 [.p (.int .i64 a26.f_At),.p (.int .u64 a26.Key)] from (dT_alarm_Due.mk)) a31 (show dT_alarm_Due.R a31 [.p (.int .i64 a31.f_At),.p (.int .u64 a31.Key)] from (dT_alarm_Due.mk))) fun r36 cs37 H38 h39 q40 => ?_
   cases q40
   refine .ci ?_
   refine .cq ?_ ?_
   ·exact hE1 zw0 w3 h4 H1 (S2.wk2 aN aN)
   refine .bd fun a42 h43 => ?_
   refine .op ((S2.slW (i:=0) rfl h4).iS h43 rfl) ?_
   obtain ⟨w45,h46,hE44⟩:=(S2.slW (i:=0) rfl h4).el h43 rfl
   obtain rfl:=dT_alarm_Due.inv h46
   refine .op (hE44.all (by simp)) ?_
   refine .bd fun a47 h48 => ?_
   refine .op ((S2.slW (i:=0) rfl h4).iS h48 rfl) ?_
   obtain ⟨w50,h51,hE49⟩:=(S2.slW (i:=0) rfl h4).el h48 rfl
   obtain rfl:=dT_alarm_Due.inv h51
   refine .op (hE49.all (by simp)) ?_
   refine .bd fun a52 h53 => ?_
   refine .op ((S2.slW (i:=0) rfl h4).iS h53 rfl) ?_
   refine .bd fun a57 h58 => ?_
   obtain ⟨w59,H54,e55,h60,S56⟩:=S2.setWA (i:=0) (e:=2) (own:=false) (σ:=(21::0::1::1::1::1::0::σ)) (nv:=[.p (.int .i64 a42.f_At),.p (.int .u64 a42.Key)]) (xv:=(.agg [.p (.int .i64 a42.f_At),.p (.int .u64 a42.Key)])) rfl h4 h58 rfl (stN_agg (sC (sI _ _) (sC (sI _ _) sN))) (show dT_alarm_Due.R a42 [.p (.int .i64 a42.f_At),.p (.int .u64 a42.Key)] from (dT_alarm_Due.mk)) rfl
   refine .op (sM e55) ?_
   refine .bd fun a61 h62 => ?_
   refine .op ((S56.slW (i:=0) rfl h60).iS h62 rfl) ?_
   refine .bd fun a66 h67 => ?_
   obtain ⟨w68,H63,e64,h69,S65⟩:=S56.setWA (i:=0) (e:=2) (own:=false) (σ:=(23::0::1::1::1::1::0::σ)) (nv:=[.p (.int .i64 a47.f_At),.p (.int .u64 a47.Key)]) (xv:=(.agg [.p (.int .i64 a47.f_At),.p (.int .u64 a47.Key)])) rfl h60 h67 rfl (stN_agg (sC (sI _ _) (sC (sI _ _) sN))) (show dT_alarm_Due.R a47 [.p (.int .i64 a47.f_At),.p (.int .u64 a47.Key)] from (dT_alarm_Due.mk)) rfl
   refine .op (sM e64) ?_
   exact ih x2 x3 (IntKind.wrap .i64 ((IntKind.wrap .i64 ((IntKind.wrap .i64 (2 * x10)) + 1)) + 1)) a66 w68 h69 H63 (S65.wk2 aN aN)
  refine .bd fun a70 h71 => ?_
  refine .op ((S2.slW (i:=0) rfl h4).iS h71 rfl) ?_
  obtain ⟨w73,h74,hE72⟩:=(S2.slW (i:=0) rfl h4).el h71 rfl
  obtain rfl:=dT_alarm_Due.inv h74
  refine .op (hE72.all (by simp)) ?_
  refine .bd fun a75 h76 => ?_
  refine .op ((S2.slW (i:=0) rfl h4).iS h76 rfl) ?_
  obtain ⟨w78,h79,hE77⟩:=(S2.slW (i:=0) rfl h4).el h76 rfl
  obtain rfl:=dT_alarm_Due.inv h79
  refine .op (hE77.all (by simp)) ?_
  refine .clo ?_
  refine .call (alarm_Table_Set_1_ok k a70 (show dT_alarm_Due.R a70 [.p (.int .i64 a70.f_At),.p (.int .u64 a70.Key)] from (dT_alarm_Due.mk)) a75 (show dT_alarm_Due.R a75 [.p (.int .i64 a75.f_At),.p (.int .u64 a75.Key)] from (dT_alarm_Due.mk))) fun r80 cs81 H82 h83 q84 => ?_
  cases q84
  refine .ci ?_
  refine .cq ?_ ?_
  ·exact hE1 zw0 w3 h4 H1 (S2.wk2 aN aN)
  refine .bd fun a86 h87 => ?_
  refine .op ((S2.slW (i:=0) rfl h4).iS h87 rfl) ?_
  obtain ⟨w89,h90,hE88⟩:=(S2.slW (i:=0) rfl h4).el h87 rfl
  obtain rfl:=dT_alarm_Due.inv h90
  refine .op (hE88.all (by simp)) ?_
  refine .bd fun a91 h92 => ?_
  refine .op ((S2.slW (i:=0) rfl h4).iS h92 rfl) ?_
  obtain ⟨w94,h95,hE93⟩:=(S2.slW (i:=0) rfl h4).el h92 rfl
  obtain rfl:=dT_alarm_Due.inv h95
  refine .op (hE93.all (by simp)) ?_
  refine .bd fun a96 h97 => ?_
  refine .op ((S2.slW (i:=0) rfl h4).iS h97 rfl) ?_
  refine .bd fun a101 h102 => ?_
  obtain ⟨w103,H98,e99,h104,S100⟩:=S2.setWA (i:=0) (e:=2) (own:=false) (σ:=(21::0::1::1::1::1::0::σ)) (nv:=[.p (.int .i64 a86.f_At),.p (.int .u64 a86.Key)]) (xv:=(.agg [.p (.int .i64 a86.f_At),.p (.int .u64 a86.Key)])) rfl h4 h102 rfl (stN_agg (sC (sI _ _) (sC (sI _ _) sN))) (show dT_alarm_Due.R a86 [.p (.int .i64 a86.f_At),.p (.int .u64 a86.Key)] from (dT_alarm_Due.mk)) rfl
  refine .op (sM e99) ?_
  refine .bd fun a105 h106 => ?_
  refine .op ((S100.slW (i:=0) rfl h104).iS h106 rfl) ?_
  refine .bd fun a110 h111 => ?_
  obtain ⟨w112,H107,e108,h113,S109⟩:=S100.setWA (i:=0) (e:=2) (own:=false) (σ:=(23::0::1::1::1::1::0::σ)) (nv:=[.p (.int .i64 a91.f_At),.p (.int .u64 a91.Key)]) (xv:=(.agg [.p (.int .i64 a91.f_At),.p (.int .u64 a91.Key)])) rfl h104 h111 rfl (stN_agg (sC (sI _ _) (sC (sI _ _) sN))) (show dT_alarm_Due.R a91 [.p (.int .i64 a91.f_At),.p (.int .u64 a91.Key)] from (dT_alarm_Due.mk)) rfl
  refine .op (sM e108) ?_
  exact ih x2 x3 (IntKind.wrap .i64 ((IntKind.wrap .i64 (2 * x10)) + 1)) a110 w112 h113 H107 (S109.wk2 aN aN)
theorem slices_siftDownCmpFunc_alarm_Due_alarm_Table_Set_1_ok (k : Nat) {h : H} {σ : Stamp} (x0 : List T_alarm_Due) {u0 : V} {l0 : Loc} {o0 : Nat} {w0 : List C} (hw0 : WL l0 o0 dT_alarm_Due x0 u0 w0) (ha0 : AtC h l0 o0 w0) (x1 : Int) (x2 : Int) (x3 : Int) : Sim (p_slices_siftDownCmpFunc_alarm_Due_alarm_Table_Set_1 k x0 x1 x2 x3) (ev G X0 169 σ [u0,(.p (.int .i64 x1)),(.p (.int .i64 x2)),(.p (.int .i64 x3)),(.clo 47 [])] h) (fun r s => ∃ (wb0 : List C),WL l0 o0 dT_alarm_Due r u0 wb0∧s = ([],pts h [⟨l0,o0,wb0⟩])):=by
 refine .ev rfl (Sim.ext (slices_siftDownCmpFunc_alarm_Due_entry _ _ _ _ _ _ _ _ _) ?_)
 rw [p_slices_siftDownCmpFunc_alarm_Due_alarm_Table_Set_1]
 have S0 : Fm 82 h [⟨l0,o0,w0⟩] [] [] (List.replicate 82 []::h):=Fm.start1 ha0
 refine .as (slices_siftDownCmpFunc_alarm_Due_alarm_Table_Set_1_l0_ok ?_ ?_ k x2 x3 x1 x0 w0 hw0 (List.replicate 82 []::h) (S0.wk2 aN aN))
 ·intro zw0 w125 h126 H123 S124
  refine .ext (slices_siftDownCmpFunc_alarm_Due_a0_0 _ _ _ _) ?_
  exact .fin (S124.finN lN) ⟨w125,h126,rfl⟩
 ·intro zw0 w130 h131 H128 S129
  refine .ext (slices_siftDownCmpFunc_alarm_Due_a0_ret _ _ _ _) ?_
  exact .fin (S129.finN lN) ⟨w130,h131,rfl⟩
def p_slices_heapSortCmpFunc_alarm_Due_alarm_Table_Set_1_l0 {β : Type} (k : Nat) (kE0 : Int→Int→Int→(List T_alarm_Due)→Option β) (x8 : Int) (x9 : Int) (x10 : Int) (x11 : Int) (zw0 : (List T_alarm_Due)) : Option β:=match k with
| 0 => none
| k + 1 =>
bif decide (x11 ≥ 0) then (
(p_slices_siftDownCmpFunc_alarm_Due_alarm_Table_Set_1 k zw0 x11 x10 x8).bind fun r6 =>
p_slices_heapSortCmpFunc_alarm_Due_alarm_Table_Set_1_l0 k kE0 x8 x9 x10 (IntKind.wrap .i64 (x11 - 1)) r6)
else (
kE0 x8 x9 x10 zw0)
def p_slices_heapSortCmpFunc_alarm_Due_alarm_Table_Set_1_l1 {β : Type} (k : Nat) (kE0 : (List T_alarm_Due)→Option β) (x8 : Int) (x9 : Int) (x12 : Int) (zw0 : (List T_alarm_Due)) : Option β:=match k with
| 0 => none
| k + 1 =>
bif decide (x12 ≥ 0) then (
(ix zw0 (IntKind.wrap .i64 (x8 + x12))).bind fun a28 =>
(ix zw0 x8).bind fun a33 =>
(ix zw0 x8).bind fun a38 =>
(stx zw0 x8 a28).bind fun a43 =>
(ix a43 (IntKind.wrap .i64 (x8 + x12))).bind fun a47 =>
(stx a43 (IntKind.wrap .i64 (x8 + x12)) a33).bind fun a52 =>
(p_slices_siftDownCmpFunc_alarm_Due_alarm_Table_Set_1 k a52 x9 x12 x8).bind fun r56 =>
p_slices_heapSortCmpFunc_alarm_Due_alarm_Table_Set_1_l1 k kE0 x8 x9 (IntKind.wrap .i64 (x12 - 1)) r56)
else (
kE0 zw0)
def p_slices_heapSortCmpFunc_alarm_Due_alarm_Table_Set_1 (k : Nat) (x0 : (List T_alarm_Due)) (x1 : Int) (x2 : Int) : Option ((List T_alarm_Due)) :=
p_slices_heapSortCmpFunc_alarm_Due_alarm_Table_Set_1_l0 k (fun r18_8 r18_9 r18_10 zw0 =>
p_slices_heapSortCmpFunc_alarm_Due_alarm_Table_Set_1_l1 k (fun zw0 =>
some (zw0)) r18_8 r18_9 (IntKind.wrap .i64 (r18_10 - 1)) zw0) x1 0 (IntKind.wrap .i64 (x2 - x1)) (IntKind.wrap .i64 (Int.tdiv (IntKind.wrap .i64 ((IntKind.wrap .i64 (x2 - x1)) - 1)) 2)) x0
theorem slices_heapSortCmpFunc_alarm_Due_alarm_Table_Set_1_l0_ok {h : H} {l0 : Loc} {o0 : Nat} {u0 : V} {kE0 : Int→Int→Int→(List T_alarm_Due)→Option β} (hE0 : ∀ (q8 : Int) (q9 : Int) (q10 : Int) (zw0 : (List T_alarm_Due)) (w16 : List C) (h17 : WL l0 o0 dT_alarm_Due zw0 u0 w16) (H14 : Go.Ev.H) (_ : Fm 60 h [⟨l0,o0,w16⟩] [] [] H14),Sim (kE0 q8 q9 q10 zw0) (K ((.exit 0),(envL [(0,u0),(3,(.clo 47 [])),(8,(.p (.int .i64 q8))),(9,(.p (.int .i64 q9))),(10,(.p (.int .i64 q10)))]),H14)) Q) (k : Nat) : ∀ (x8 : Int) (x9 : Int) (x10 : Int) (x11 : Int) (zw0 : (List T_alarm_Due)) (w3 : List C) (h4 : WL l0 o0 dT_alarm_Due zw0 u0 w3) (H1 : Go.Ev.H) (_ : Fm 60 h [⟨l0,o0,w3⟩] [] [] H1) {σ : Stamp},Sim (p_slices_heapSortCmpFunc_alarm_Due_alarm_Table_Set_1_l0 k kE0 x8 x9 x10 x11 zw0) ((cvL G X0 slices_heapSortCmpFunc_alarm_Due_c0 slices_heapSortCmpFunc_alarm_Due_l0 σ (envL [(0,u0),(3,(.clo 47 [])),(8,(.p (.int .i64 x8))),(9,(.p (.int .i64 x9))),(10,(.p (.int .i64 x10))),(11,(.p (.int .i64 x11)))]) H1).bind K) Q:=by
 induction k with
 | zero => intros; exact .no
 | succ k ih =>
  intro x8 x9 x10 x11 zw0 w3 h4 H1 S2 σ
  rw [p_slices_heapSortCmpFunc_alarm_Due_alarm_Table_Set_1_l0]
  refine .round (Sim.ext (slices_heapSortCmpFunc_alarm_Due_r0 _ _ _ _ _ _ _ _ _ _) ?_)
  refine .cq ?_ ?_
  ·refine .call (slices_siftDownCmpFunc_alarm_Due_alarm_Table_Set_1_ok k zw0 h4 (S2.atB (i:=0) rfl) x11 x10 x8) fun r6 cs7 H8 h9 q10 => ?_
   obtain ⟨w11,h12,q10⟩:=q10
   cases q10
   have S13:=S2.setB (i:=0) (cs:=w11) rfl (WL.same h4 h12)
   exact ih x8 x9 x10 (IntKind.wrap .i64 (x11 - 1)) r6 w11 h12 (ptC H1 l0 o0 w11) (S13.wk2 aN aN)
  exact hE0 x8 x9 x10 zw0 w3 h4 H1 (S2.wk2 aN aN)
theorem slices_heapSortCmpFunc_alarm_Due_alarm_Table_Set_1_l1_ok {h : H} {l0 : Loc} {o0 : Nat} {u0 : V} {kE0 : (List T_alarm_Due)→Option β} (hE0 : ∀ (zw0 : (List T_alarm_Due)) (w66 : List C) (h67 : WL l0 o0 dT_alarm_Due zw0 u0 w66) (H64 : Go.Ev.H) (_ : Fm 60 h [⟨l0,o0,w66⟩] [] [] H64),Sim (kE0 zw0) (K ((.exit 2),(envL []),H64)) Q) (k : Nat) : ∀ (x8 : Int) (x9 : Int) (x12 : Int) (zw0 : (List T_alarm_Due)) (w25 : List C) (h26 : WL l0 o0 dT_alarm_Due zw0 u0 w25) (H23 : Go.Ev.H) (_ : Fm 60 h [⟨l0,o0,w25⟩] [] [] H23) {σ : Stamp},Sim (p_slices_heapSortCmpFunc_alarm_Due_alarm_Table_Set_1_l1 k kE0 x8 x9 x12 zw0) ((cvL G X0 slices_heapSortCmpFunc_alarm_Due_c1 slices_heapSortCmpFunc_alarm_Due_l1 σ (envL [(0,u0),(3,(.clo 47 [])),(8,(.p (.int .i64 x8))),(9,(.p (.int .i64 x9))),(12,(.p (.int .i64 x12)))]) H23).bind K) Q:=by
 induction k with
 | zero => intros; exact .no
 | succ k ih =>
  intro x8 x9 x12 zw0 w25 h26 H23 S24 σ
  rw [p_slices_heapSortCmpFunc_alarm_Due_alarm_Table_Set_1_l1]
  refine .round (Sim.ext (slices_heapSortCmpFunc_alarm_Due_r1 _ _ _ _ _ _ _ _ _) ?_)
  refine .cq ?_ ?_
  ·refine .bd fun a28 h29 => ?_
   refine .op ((S24.slW (i:=0) rfl h26).iS h29 rfl) ?_
   obtain ⟨w31,h32,hE30⟩:=(S24.slW (i:=0) rfl h26).el h29 rfl
   obtain rfl:=dT_alarm_Due.inv h32
   refine .op (hE30.all (by simp)) ?_
   refine .bd fun a33 h34 => ?_
   refine .op ((S24.slW (i:=0) rfl h26).iS h34 rfl) ?_
   obtain ⟨w36,h37,hE35⟩:=(S24.slW (i:=0) rfl h26).el h34 rfl
   obtain rfl:=dT_alarm_Due.inv h37
   refine .op (hE35.all (by simp)) ?_
   refine .bd fun a38 h39 => ?_
   refine .op ((S24.slW (i:=0) rfl h26).iS h39 rfl) ?_
   refine .bd fun a43 h44 => ?_
   obtain ⟨w45,H40,e41,h46,S42⟩:=S24.setWA (i:=0) (e:=2) (own:=false) (σ:=(17::0::0::1::0::σ)) (nv:=[.p (.int .i64 a28.f_At),.p (.int .u64 a28.Key)]) (xv:=(.agg [.p (.int .i64 a28.f_At),.p (.int .u64 a28.Key)])) rfl h26 h44 rfl (stN_agg (sC (sI _ _) (sC (sI _ _) sN))) (show dT_alarm_Due.R a28 [.p (.int .i64 a28.f_At),.p (.int .u64 a28.Key)] from (dT_alarm_Due.mk)) rfl
   refine .op (sM e41) ?_
   refine .bd fun a47 h48 => ?_
   refine .op ((S42.slW (i:=0) rfl h46).iS h48 rfl) ?_
   refine .bd fun a52 h53 => ?_
   obtain ⟨w54,H49,e50,h55,S51⟩:=S42.setWA (i:=0) (e:=2) (own:=false) (σ:=(19::0::0::1::0::σ)) (nv:=[.p (.int .i64 a33.f_At),.p (.int .u64 a33.Key)]) (xv:=(.agg [.p (.int .i64 a33.f_At),.p (.int .u64 a33.Key)])) rfl h46 h53 rfl (stN_agg (sC (sI _ _) (sC (sI _ _) sN))) (show dT_alarm_Due.R a33 [.p (.int .i64 a33.f_At),.p (.int .u64 a33.Key)] from (dT_alarm_Due.mk)) rfl
   refine .op (sM e50) ?_
   refine .call (slices_siftDownCmpFunc_alarm_Due_alarm_Table_Set_1_ok k a52 h55 (S51.atB (i:=0) rfl) x9 x12 x8) fun r56 cs57 H58 h59 q60 => ?_
   obtain ⟨w61,h62,q60⟩:=q60
   cases q60
   have S63:=S51.setB (i:=0) (cs:=w61) rfl (WL.same h55 h62)
   exact ih x8 x9 (IntKind.wrap .i64 (x12 - 1)) r56 w61 h62 (ptC H49 l0 o0 w61) (S63.wk2 aN aN)
  exact hE0 zw0 w25 h26 H23 (S24.wk2 aN aN)
theorem slices_heapSortCmpFunc_alarm_Due_alarm_Table_Set_1_ok (k : Nat) {h : H} {σ : Stamp} (x0 : List T_alarm_Due) {u0 : V} {l0 : Loc} {o0 : Nat} {w0 : List C} (hw0 : WL l0 o0 dT_alarm_Due x0 u0 w0) (ha0 : AtC h l0 o0 w0) (x1 : Int) (x2 : Int) : Sim (p_slices_heapSortCmpFunc_alarm_Due_alarm_Table_Set_1 k x0 x1 x2) (ev G X0 143 σ [u0,(.p (.int .i64 x1)),(.p (.int .i64 x2)),(.clo 47 [])] h) (fun r s => ∃ (wb0 : List C),WL l0 o0 dT_alarm_Due r u0 wb0∧s = ([],pts h [⟨l0,o0,wb0⟩])):=by
 refine .ev rfl (Sim.ext (slices_heapSortCmpFunc_alarm_Due_entry _ _ _ _ _ _ _ _) ?_)
 rw [p_slices_heapSortCmpFunc_alarm_Due_alarm_Table_Set_1]
 have S0 : Fm 60 h [⟨l0,o0,w0⟩] [] [] (List.replicate 60 []::h):=Fm.start1 ha0
 refine .as (slices_heapSortCmpFunc_alarm_Due_alarm_Table_Set_1_l0_ok ?_ k x1 0 (IntKind.wrap .i64 (x2 - x1)) (IntKind.wrap .i64 (Int.tdiv (IntKind.wrap .i64 ((IntKind.wrap .i64 (x2 - x1)) - 1)) 2)) x0 w0 hw0 (List.replicate 60 []::h) (S0.wk2 aN aN))
 ·intro r18_8 r18_9 r18_10 zw0 w21 h22 H19 S20
  refine .ext (slices_heapSortCmpFunc_alarm_Due_a0_0 _ _ _ _ _ _ _ _ _) ?_
  refine .as (slices_heapSortCmpFunc_alarm_Due_alarm_Table_Set_1_l1_ok ?_ k r18_8 r18_9 (IntKind.wrap .i64 (r18_10 - 1)) zw0 w21 h22 H19 (S20.wk2 aN aN))
  ·intro zw0 w71 h72 H69 S70
   refine .ext (slices_heapSortCmpFunc_alarm_Due_a1_2 _ _ _ _) ?_
   exact .fin (S70.finN lN) ⟨w71,h72,rfl⟩
end
end Go.Ev
namespace Go.Ev
open Go.Proofs
set_option linter.unusedVariables false
set_option linter.unusedSimpArgs false
set_option maxRecDepth 100000
noncomputable section
abbrev KT9:=Exit→Env→H→Option (List C × H)
variable (rec : CallF) (loop : LoopV) (σ : Stamp)
def slices_insertionSortCmpFunc_alarm_Due_c0 : Code:=(codeAt (bodyOf Try.f142) [1,0,0])
def slices_insertionSortCmpFunc_alarm_Due_l0 : Lv:=⟨0,0,[(0,0)]⟩
def slices_insertionSortCmpFunc_alarm_Due_k0 (rec : CallF) (loop : LoopV) (σ : Stamp) : KT9:=(kBlock 0 (finC G false Try.f142 (1::σ)))
def slices_insertionSortCmpFunc_alarm_Due_c1 : Code:=(codeAt (bodyOf Try.f142) [1,0,0,1,0,0,1,0,0])
def slices_insertionSortCmpFunc_alarm_Due_l1 : Lv:=⟨271,0,[(2,271),(1,271),(0,0)]⟩
def slices_insertionSortCmpFunc_alarm_Due_k1 : Exit→Env→H→Option (Exit × Env × H):=(kBlock 2 (kBlock 1 (kSeq G rec loop (codeAt (bodyOf Try.f142) [1,0,0,1,1]) ⟨271,0,[(0,0)]⟩ (1::0::σ) (kRound loop (codeAt (bodyOf Try.f142) [1,0,0]) ⟨0,0,[(0,0)]⟩ σ))))
theorem slices_insertionSortCmpFunc_alarm_Due_entry (x0 : V) (x1 : Int) (x2 : Int) (x3 : V) (h : H) : cvBody G rec loop 142 σ [x0,(.p (.int .i64 x1)),(.p (.int .i64 x2)),x3] h =
(loop slices_insertionSortCmpFunc_alarm_Due_c0 slices_insertionSortCmpFunc_alarm_Due_l0 (1::0::σ) (envL [(0,x0),(1,(.p (.int .i64 x1))),(2,(.p (.int .i64 x2))),(3,x3),(8,(.p (.int .i64 (IntKind.wrap .i64 (x1 + 1)))))]) (List.replicate 53 []::h)).bind fun r1 => slices_insertionSortCmpFunc_alarm_Due_k0 rec loop σ r1.1 r1.2.1 r1.2.2:=by kernel_rfl
theorem slices_insertionSortCmpFunc_alarm_Due_r0 (x0 : V) (x1 : Int) (x2 : Int) (x3 : V) (x8 : Int) (h : H) : cvRound G rec loop slices_insertionSortCmpFunc_alarm_Due_c0 slices_insertionSortCmpFunc_alarm_Due_l0 σ (envL [(0,x0),(1,(.p (.int .i64 x1))),(2,(.p (.int .i64 x2))),(3,x3),(8,(.p (.int .i64 x8)))]) h =
bif decide (x8 < x2) then (
(loop slices_insertionSortCmpFunc_alarm_Due_c1 slices_insertionSortCmpFunc_alarm_Due_l1 (1::0::1::0::σ) (envL [(0,x0),(1,(.p (.int .i64 x1))),(2,(.p (.int .i64 x2))),(3,x3),(8,(.p (.int .i64 x8))),(9,(.p (.int .i64 x8)))]) h).bind fun r2 => slices_insertionSortCmpFunc_alarm_Due_k1 rec loop σ r2.1 r2.2.1 r2.2.2)
else (
some ((.exit 0),(envL []),h)):=by kernel_rfl
theorem slices_insertionSortCmpFunc_alarm_Due_a0_0  (h : H) : slices_insertionSortCmpFunc_alarm_Due_k0 rec loop σ (.exit 0) (envL []) h =
fin false σ h []:=by kernel_rfl
theorem slices_insertionSortCmpFunc_alarm_Due_r1 (x0 : V) (x1 : Int) (x2 : Int) (x3 : V) (x8 : Int) (x9 : Int) (h : H) : cvRound G rec loop slices_insertionSortCmpFunc_alarm_Due_c1 slices_insertionSortCmpFunc_alarm_Due_l1 σ (envL [(0,x0),(1,(.p (.int .i64 x1))),(2,(.p (.int .i64 x2))),(3,x3),(8,(.p (.int .i64 x8))),(9,(.p (.int .i64 x9)))]) h =
(bif decide (x9 > x1) then ((iS 2 x0 x9).bind fun t3 =>
(ldO true 2 h t3).bind fun t4 =>
(iS 2 x0 (IntKind.wrap .i64 (x9 - 1))).bind fun t5 =>
(ldO true 2 h t5).bind fun t6 =>
(cloO rec x3 (14::0::0::0::σ) [t4,t6] h (some 32)).bind fun q7 =>
(castI .i64 q7.1).bind fun n8 =>
some ((.p (.bool (decide (n8 < 0)))),q7.2)) else (some ((.p (.bool false)),h))).bind fun q9 =>
(asB q9.1).bind fun b10 =>
bif b10 then (
(iS 2 x0 (IntKind.wrap .i64 (x9 - 1))).bind fun t11 =>
(ldO true 2 q9.2 t11).bind fun t12 =>
(iS 2 x0 x9).bind fun t13 =>
(ldO true 2 q9.2 t13).bind fun t14 =>
(iS 2 x0 x9).bind fun t15 =>
((stO false 2 (15::0::1::0::σ) q9.2 t15 t12).map fun h => (udf,h)).bind fun q16 =>
(iS 2 x0 (IntKind.wrap .i64 (x9 - 1))).bind fun t17 =>
((stO false 2 (17::0::1::0::σ) q16.2 t17 t14).map fun h => (udf,h)).bind fun q18 =>
loop slices_insertionSortCmpFunc_alarm_Due_c1 slices_insertionSortCmpFunc_alarm_Due_l1 (1::σ) (envL [(0,x0),(1,(.p (.int .i64 x1))),(2,(.p (.int .i64 x2))),(3,x3),(8,(.p (.int .i64 x8))),(9,(.p (.int .i64 (IntKind.wrap .i64 (x9 - 1)))))]) q18.2)
else (
some ((.exit 2),(envL [(0,x0),(1,(.p (.int .i64 x1))),(2,(.p (.int .i64 x2))),(3,x3),(8,(.p (.int .i64 x8)))]),q9.2)):=by kernel_rfl
theorem slices_insertionSortCmpFunc_alarm_Due_a1_2 (x0 : V) (x1 : Int) (x2 : Int) (x3 : V) (x8 : Int) (h : H) : slices_insertionSortCmpFunc_alarm_Due_k1 rec loop σ (.exit 2) (envL [(0,x0),(1,(.p (.int .i64 x1))),(2,(.p (.int .i64 x2))),(3,x3),(8,(.p (.int .i64 x8)))]) h =
loop slices_insertionSortCmpFunc_alarm_Due_c0 slices_insertionSortCmpFunc_alarm_Due_l0 (1::σ) (envL [(0,x0),(1,(.p (.int .i64 x1))),(2,(.p (.int .i64 x2))),(3,x3),(8,(.p (.int .i64 (IntKind.wrap .i64 (x8 + 1)))))]) h:=by kernel_rfl
end
end Go.Ev
namespace Go.Ev
open Go.Proofs
set_option linter.unusedVariables false
set_option linter.unusedSimpArgs false
set_option maxRecDepth 100000
section
variable {β α : Type} {Q : β→α→Prop} {K : Exit × Env × H→Option α}
def p_slices_insertionSortCmpFunc_alarm_Due_alarm_Table_Set_1_l1 {β : Type} (k : Nat) (kE0 : Int→Int→Int→(List T_alarm_Due)→Option β) (x1 : Int) (x2 : Int) (x8 : Int) (x9 : Int) (zw0 : (List T_alarm_Due)) : Option β:=match k with
| 0 => none
| k + 1 =>
(bif decide (x9 > x1) then ((ix zw0 x9).bind fun a10 =>
(ix zw0 (IntKind.wrap .i64 (x9 - 1))).bind fun a15 =>
(p_alarm_Table_Set_1 k a10 a15).bind fun r20 =>
some (decide (r20 < 0))) else (some false)).bind fun b25 =>
bif b25 then (
(ix zw0 (IntKind.wrap .i64 (x9 - 1))).bind fun a30 =>
(ix zw0 x9).bind fun a35 =>
(ix zw0 x9).bind fun a40 =>
(stx zw0 x9 a30).bind fun a45 =>
(ix a45 (IntKind.wrap .i64 (x9 - 1))).bind fun a49 =>
(stx a45 (IntKind.wrap .i64 (x9 - 1)) a35).bind fun a54 =>
p_slices_insertionSortCmpFunc_alarm_Due_alarm_Table_Set_1_l1 k kE0 x1 x2 x8 (IntKind.wrap .i64 (x9 - 1)) a54)
else (
kE0 x1 x2 x8 zw0)
def p_slices_insertionSortCmpFunc_alarm_Due_alarm_Table_Set_1_l0 {β : Type} (k : Nat) (kE0 : (List T_alarm_Due)→Option β) (x1 : Int) (x2 : Int) (x8 : Int) (zw0 : (List T_alarm_Due)) : Option β:=match k with
| 0 => none
| k + 1 =>
bif decide (x8 < x2) then (
p_slices_insertionSortCmpFunc_alarm_Due_alarm_Table_Set_1_l1 k (fun r62_1 r62_2 r62_8 zw0 =>
p_slices_insertionSortCmpFunc_alarm_Due_alarm_Table_Set_1_l0 k kE0 r62_1 r62_2 (IntKind.wrap .i64 (r62_8 + 1)) zw0) x1 x2 x8 x8 zw0)
else (
kE0 zw0)
def p_slices_insertionSortCmpFunc_alarm_Due_alarm_Table_Set_1 (k : Nat) (x0 : (List T_alarm_Due)) (x1 : Int) (x2 : Int) : Option ((List T_alarm_Due)) :=
p_slices_insertionSortCmpFunc_alarm_Due_alarm_Table_Set_1_l0 k (fun zw0 =>
some (zw0)) x1 x2 (IntKind.wrap .i64 (x1 + 1)) x0
theorem slices_insertionSortCmpFunc_alarm_Due_alarm_Table_Set_1_l1_ok {h : H} {l0 : Loc} {o0 : Nat} {u0 : V} {kE0 : Int→Int→Int→(List T_alarm_Due)→Option β} (hE0 : ∀ (q1 : Int) (q2 : Int) (q8 : Int) (zw0 : (List T_alarm_Due)) (w60 : List C) (h61 : WL l0 o0 dT_alarm_Due zw0 u0 w60) (H58 : Go.Ev.H) (_ : Fm 53 h [⟨l0,o0,w60⟩] [] [] H58),Sim (kE0 q1 q2 q8 zw0) (K ((.exit 2),(envL [(0,u0),(1,(.p (.int .i64 q1))),(2,(.p (.int .i64 q2))),(3,(.clo 47 [])),(8,(.p (.int .i64 q8)))]),H58)) Q) (k : Nat) : ∀ (x1 : Int) (x2 : Int) (x8 : Int) (x9 : Int) (zw0 : (List T_alarm_Due)) (w8 : List C) (h9 : WL l0 o0 dT_alarm_Due zw0 u0 w8) (H6 : Go.Ev.H) (_ : Fm 53 h [⟨l0,o0,w8⟩] [] [] H6) {σ : Stamp},Sim (p_slices_insertionSortCmpFunc_alarm_Due_alarm_Table_Set_1_l1 k kE0 x1 x2 x8 x9 zw0) ((cvL G X0 slices_insertionSortCmpFunc_alarm_Due_c1 slices_insertionSortCmpFunc_alarm_Due_l1 σ (envL [(0,u0),(1,(.p (.int .i64 x1))),(2,(.p (.int .i64 x2))),(3,(.clo 47 [])),(8,(.p (.int .i64 x8))),(9,(.p (.int .i64 x9)))]) H6).bind K) Q:=by
 induction k with
 | zero => intros; exact .no
 | succ k ih =>
  intro x1 x2 x8 x9 zw0 w8 h9 H6 S7 σ
  rw [p_slices_insertionSortCmpFunc_alarm_Due_alarm_Table_Set_1_l1]
  refine .round (Sim.ext (slices_insertionSortCmpFunc_alarm_Due_r1 _ _ _ _ _ _ _ _ _ _) ?_)
  refine .ch (P:=fun r y => (.p (.bool r),H6) = y) ?_ (fun b25 y26 h27 h28 => ?_)
  ·refine .cq ?_ ?_
   ·refine .bd fun a10 h11 => ?_
    refine .op ((S7.slW (i:=0) rfl h9).iS h11 rfl) ?_
    obtain ⟨w13,h14,hE12⟩:=(S7.slW (i:=0) rfl h9).el h11 rfl
    obtain rfl:=dT_alarm_Due.inv h14
    refine .op (hE12.all (by simp)) ?_
    refine .bd fun a15 h16 => ?_
    refine .op ((S7.slW (i:=0) rfl h9).iS h16 rfl) ?_
    obtain ⟨w18,h19,hE17⟩:=(S7.slW (i:=0) rfl h9).el h16 rfl
    obtain rfl:=dT_alarm_Due.inv h19
    refine .op (hE17.all (by simp)) ?_
    refine .clo ?_
    refine .call (alarm_Table_Set_1_ok k a10 (show dT_alarm_Due.R a10 [.p (.int .i64 a10.f_At),.p (.int .u64 a10.Key)] from (dT_alarm_Due.mk)) a15 (show dT_alarm_Due.R a15 [.p (.int .i64 a15.f_At),.p (.int .u64 a15.Key)] from (dT_alarm_Due.mk))) fun r20 cs21 H22 h23 q24 => ?_
    cases q24
    refine .ci ?_
    exact .ret rfl rfl
   ·exact .ret rfl rfl
  subst h28
  refine .ab ?_
  refine .cq ?_ ?_
  ·refine .bd fun a30 h31 => ?_
   refine .op ((S7.slW (i:=0) rfl h9).iS h31 rfl) ?_
   obtain ⟨w33,h34,hE32⟩:=(S7.slW (i:=0) rfl h9).el h31 rfl
   obtain rfl:=dT_alarm_Due.inv h34
   refine .op (hE32.all (by simp)) ?_
   refine .bd fun a35 h36 => ?_
   refine .op ((S7.slW (i:=0) rfl h9).iS h36 rfl) ?_
   obtain ⟨w38,h39,hE37⟩:=(S7.slW (i:=0) rfl h9).el h36 rfl
   obtain rfl:=dT_alarm_Due.inv h39
   refine .op (hE37.all (by simp)) ?_
   refine .bd fun a40 h41 => ?_
   refine .op ((S7.slW (i:=0) rfl h9).iS h41 rfl) ?_
   refine .bd fun a45 h46 => ?_
   obtain ⟨w47,H42,e43,h48,S44⟩:=S7.setWA (i:=0) (e:=2) (own:=false) (σ:=(15::0::1::0::σ)) (nv:=[.p (.int .i64 a30.f_At),.p (.int .u64 a30.Key)]) (xv:=(.agg [.p (.int .i64 a30.f_At),.p (.int .u64 a30.Key)])) rfl h9 h46 rfl (stN_agg (sC (sI _ _) (sC (sI _ _) sN))) (show dT_alarm_Due.R a30 [.p (.int .i64 a30.f_At),.p (.int .u64 a30.Key)] from (dT_alarm_Due.mk)) rfl
   refine .op (sM e43) ?_
   refine .bd fun a49 h50 => ?_
   refine .op ((S44.slW (i:=0) rfl h48).iS h50 rfl) ?_
   refine .bd fun a54 h55 => ?_
   obtain ⟨w56,H51,e52,h57,S53⟩:=S44.setWA (i:=0) (e:=2) (own:=false) (σ:=(17::0::1::0::σ)) (nv:=[.p (.int .i64 a35.f_At),.p (.int .u64 a35.Key)]) (xv:=(.agg [.p (.int .i64 a35.f_At),.p (.int .u64 a35.Key)])) rfl h48 h55 rfl (stN_agg (sC (sI _ _) (sC (sI _ _) sN))) (show dT_alarm_Due.R a35 [.p (.int .i64 a35.f_At),.p (.int .u64 a35.Key)] from (dT_alarm_Due.mk)) rfl
   refine .op (sM e52) ?_
   exact ih x1 x2 x8 (IntKind.wrap .i64 (x9 - 1)) a54 w56 h57 H51 (S53.wk2 aN aN)
  exact hE0 x1 x2 x8 zw0 w8 h9 H6 (S7.wk2 aN aN)
theorem slices_insertionSortCmpFunc_alarm_Due_alarm_Table_Set_1_l0_ok {h : H} {l0 : Loc} {o0 : Nat} {u0 : V} {kE0 : (List T_alarm_Due)→Option β} (hE0 : ∀ (zw0 : (List T_alarm_Due)) (w69 : List C) (h70 : WL l0 o0 dT_alarm_Due zw0 u0 w69) (H67 : Go.Ev.H) (_ : Fm 53 h [⟨l0,o0,w69⟩] [] [] H67),Sim (kE0 zw0) (K ((.exit 0),(envL []),H67)) Q) (k : Nat) : ∀ (x1 : Int) (x2 : Int) (x8 : Int) (zw0 : (List T_alarm_Due)) (w3 : List C) (h4 : WL l0 o0 dT_alarm_Due zw0 u0 w3) (H1 : Go.Ev.H) (_ : Fm 53 h [⟨l0,o0,w3⟩] [] [] H1) {σ : Stamp},Sim (p_slices_insertionSortCmpFunc_alarm_Due_alarm_Table_Set_1_l0 k kE0 x1 x2 x8 zw0) ((cvL G X0 slices_insertionSortCmpFunc_alarm_Due_c0 slices_insertionSortCmpFunc_alarm_Due_l0 σ (envL [(0,u0),(1,(.p (.int .i64 x1))),(2,(.p (.int .i64 x2))),(3,(.clo 47 [])),(8,(.p (.int .i64 x8)))]) H1).bind K) Q:=by
 induction k with
 | zero => intros; exact .no
 | succ k ih =>
  intro x1 x2 x8 zw0 w3 h4 H1 S2 σ
  rw [p_slices_insertionSortCmpFunc_alarm_Due_alarm_Table_Set_1_l0]
  refine .round (Sim.ext (slices_insertionSortCmpFunc_alarm_Due_r0 _ _ _ _ _ _ _ _ _) ?_)
  refine .cq ?_ ?_
  ·refine .as (slices_insertionSortCmpFunc_alarm_Due_alarm_Table_Set_1_l1_ok ?_ k x1 x2 x8 x8 zw0 w3 h4 H1 (S2.wk2 aN aN))
   ·intro r62_1 r62_2 r62_8 zw0 w65 h66 H63 S64
    refine .ext (slices_insertionSortCmpFunc_alarm_Due_a1_2 _ _ _ _ _ _ _ _ _) ?_
    exact ih r62_1 r62_2 (IntKind.wrap .i64 (r62_8 + 1)) zw0 w65 h66 H63 (S64.wk2 aN aN)
  exact hE0 zw0 w3 h4 H1 (S2.wk2 aN aN)
theorem slices_insertionSortCmpFunc_alarm_Due_alarm_Table_Set_1_ok (k : Nat) {h : H} {σ : Stamp} (x0 : List T_alarm_Due) {u0 : V} {l0 : Loc} {o0 : Nat} {w0 : List C} (hw0 : WL l0 o0 dT_alarm_Due x0 u0 w0) (ha0 : AtC h l0 o0 w0) (x1 : Int) (x2 : Int) : Sim (p_slices_insertionSortCmpFunc_alarm_Due_alarm_Table_Set_1 k x0 x1 x2) (ev G X0 142 σ [u0,(.p (.int .i64 x1)),(.p (.int .i64 x2)),(.clo 47 [])] h) (fun r s => ∃ (wb0 : List C),WL l0 o0 dT_alarm_Due r u0 wb0∧s = ([],pts h [⟨l0,o0,wb0⟩])):=by
 refine .ev rfl (Sim.ext (slices_insertionSortCmpFunc_alarm_Due_entry _ _ _ _ _ _ _ _) ?_)
 rw [p_slices_insertionSortCmpFunc_alarm_Due_alarm_Table_Set_1]
 have S0 : Fm 53 h [⟨l0,o0,w0⟩] [] [] (List.replicate 53 []::h):=Fm.start1 ha0
 refine .as (slices_insertionSortCmpFunc_alarm_Due_alarm_Table_Set_1_l0_ok ?_ k x1 x2 (IntKind.wrap .i64 (x1 + 1)) x0 w0 hw0 (List.replicate 53 []::h) (S0.wk2 aN aN))
 ·intro zw0 w74 h75 H72 S73
  refine .ext (slices_insertionSortCmpFunc_alarm_Due_a0_0 _ _ _ _) ?_
  exact .fin (S73.finN lN) ⟨w74,h75,rfl⟩
end
end Go.Ev
namespace Go.Ev
open Go.Proofs
set_option linter.unusedVariables false
set_option linter.unusedSimpArgs false
set_option maxRecDepth 100000
noncomputable section
abbrev KT10:=Exit→Env→H→Option (List C × H)
variable (rec : CallF) (loop : LoopV) (σ : Stamp)
def slices_partialInsertionSortCmpFunc_alarm_Due_c0 : Code:=(codeAt (bodyOf Try.f147) [1,1,0,1,0,0])
def slices_partialInsertionSortCmpFunc_alarm_Due_l0 : Lv:=⟨0,256,[(0,0)]⟩
def slices_partialInsertionSortCmpFunc_alarm_Due_k0 : KT10:=(kBlock 0 (kSeq G rec loop (codeAt (bodyOf Try.f147) [1,1,1]) ⟨256,256,[]⟩ (1::1::0::σ) (finC G false Try.f147 (1::σ))))
def slices_partialInsertionSortCmpFunc_alarm_Due_c1 : Code:=(codeAt (bodyOf Try.f147) [1,1,0,1,0,0,1,0,0,0,0,0])
def slices_partialInsertionSortCmpFunc_alarm_Due_l1 : Lv:=⟨1551,256,[(2,1551),(1,1551),(0,0)]⟩
def slices_partialInsertionSortCmpFunc_alarm_Due_k1 : Exit→Env→H→Option (Exit × Env × H):=(kBlock 2 (kSeq G rec loop (codeAt (bodyOf Try.f147) [1,1,0,1,0,0,1,0,0,1]) ⟨1551,256,[(1,1551),(0,0)]⟩ (0::1::0::σ) (kBlock 1 (kSeq G rec loop (codeAt (bodyOf Try.f147) [1,1,0,1,0,0,1,1]) ⟨1551,256,[(0,0)]⟩ (1::0::σ) (kRound loop (codeAt (bodyOf Try.f147) [1,1,0,1,0,0]) ⟨0,256,[(0,0)]⟩ σ)))))
def slices_partialInsertionSortCmpFunc_alarm_Due_c2 : Code:=(codeAt (bodyOf Try.f147) [1,1,0,1,0,0,1,0,0,1,1,1,1,0,1,0,1,0,0])
def slices_partialInsertionSortCmpFunc_alarm_Due_l2 : Lv:=⟨1551,256,[(4,1551),(1,1551),(0,0)]⟩
def slices_partialInsertionSortCmpFunc_alarm_Due_k2 : Exit→Env→H→Option (Exit × Env × H):=(kBlock 4 (kSeq G rec loop (codeAt (bodyOf Try.f147) [1,1,0,1,0,0,1,0,0,1,1,1,1,1]) ⟨1551,256,[(1,1551),(0,0)]⟩ (1::1::1::1::0::1::0::σ) (kBlock 1 (kSeq G rec loop (codeAt (bodyOf Try.f147) [1,1,0,1,0,0,1,1]) ⟨1551,256,[(0,0)]⟩ (1::0::σ) (kRound loop (codeAt (bodyOf Try.f147) [1,1,0,1,0,0]) ⟨0,256,[(0,0)]⟩ σ)))))
def slices_partialInsertionSortCmpFunc_alarm_Due_c3 : Code:=(codeAt (bodyOf Try.f147) [1,1,0,1,0,0,1,0,0,1,1,1,1,1,1,0,1,0,0])
def slices_partialInsertionSortCmpFunc_alarm_Due_l3 : Lv:=⟨1551,256,[(6,1551),(1,1551),(0,0)]⟩
def slices_partialInsertionSortCmpFunc_alarm_Due_k3 : Exit→Env→H→Option (Exit × Env × H):=(kBlock 6 (kBlock 1 (kSeq G rec loop (codeAt (bodyOf Try.f147) [1,1,0,1,0,0,1,1]) ⟨1551,256,[(0,0)]⟩ (1::0::σ) (kRound loop (codeAt (bodyOf Try.f147) [1,1,0,1,0,0]) ⟨0,256,[(0,0)]⟩ σ))))
theorem slices_partialInsertionSortCmpFunc_alarm_Due_entry (x0 : V) (x1 : Int) (x2 : Int) (x3 : V) (h : H) : cvBody G rec loop 147 σ [x0,(.p (.int .i64 x1)),(.p (.int .i64 x2)),x3] h =
(loop slices_partialInsertionSortCmpFunc_alarm_Due_c0 slices_partialInsertionSortCmpFunc_alarm_Due_l0 (1::0::1::1::0::σ) (envL [(0,x0),(1,(.p (.int .i64 x1))),(2,(.p (.int .i64 x2))),(3,x3),(9,(.p (.int .i64 (IntKind.wrap .i64 (x1 + 1))))),(10,(.p (.int .i64 0)))]) (List.replicate 141 []::h)).bind fun r1 => slices_partialInsertionSortCmpFunc_alarm_Due_k0 rec loop σ r1.1 r1.2.1 r1.2.2:=by kernel_rfl
theorem slices_partialInsertionSortCmpFunc_alarm_Due_r0 (x0 : V) (x1 : Int) (x2 : Int) (x3 : V) (x9 : Int) (x10 : Int) (h : H) : cvRound G rec loop slices_partialInsertionSortCmpFunc_alarm_Due_c0 slices_partialInsertionSortCmpFunc_alarm_Due_l0 σ (envL [(0,x0),(1,(.p (.int .i64 x1))),(2,(.p (.int .i64 x2))),(3,x3),(9,(.p (.int .i64 x9))),(10,(.p (.int .i64 x10)))]) h =
bif decide (x10 < 5) then (
(loop slices_partialInsertionSortCmpFunc_alarm_Due_c1 slices_partialInsertionSortCmpFunc_alarm_Due_l1 (0::0::1::0::σ) (envL [(0,x0),(1,(.p (.int .i64 x1))),(2,(.p (.int .i64 x2))),(3,x3),(9,(.p (.int .i64 x9))),(10,(.p (.int .i64 x10)))]) h).bind fun r2 => slices_partialInsertionSortCmpFunc_alarm_Due_k1 rec loop σ r2.1 r2.2.1 r2.2.2)
else (
some ((.exit 0),(envL []),h)):=by kernel_rfl
theorem slices_partialInsertionSortCmpFunc_alarm_Due_a0_0  (h : H) : slices_partialInsertionSortCmpFunc_alarm_Due_k0 rec loop σ (.exit 0) (envL []) h =
fin false σ h [(.p (.bool false))]:=by kernel_rfl
theorem slices_partialInsertionSortCmpFunc_alarm_Due_a0_ret (x8 : Bool) (h : H) : slices_partialInsertionSortCmpFunc_alarm_Due_k0 rec loop σ .ret (envL [(8,(.p (.bool x8)))]) h =
fin false σ h [(.p (.bool x8))]:=by kernel_rfl
theorem slices_partialInsertionSortCmpFunc_alarm_Due_r1 (x0 : V) (x1 : Int) (x2 : Int) (x3 : V) (x9 : Int) (x10 : Int) (h : H) : cvRound G rec loop slices_partialInsertionSortCmpFunc_alarm_Due_c1 slices_partialInsertionSortCmpFunc_alarm_Due_l1 σ (envL [(0,x0),(1,(.p (.int .i64 x1))),(2,(.p (.int .i64 x2))),(3,x3),(9,(.p (.int .i64 x9))),(10,(.p (.int .i64 x10)))]) h =
(bif decide (x9 < x2) then ((iS 2 x0 x9).bind fun t3 =>
(ldO true 2 h t3).bind fun t4 =>
(iS 2 x0 (IntKind.wrap .i64 (x9 - 1))).bind fun t5 =>
(ldO true 2 h t5).bind fun t6 =>
(cloO rec x3 (14::0::0::0::σ) [t4,t6] h (some 33)).bind fun q7 =>
(castI .i64 q7.1).bind fun n8 =>
some ((.p (.bool (!(decide (n8 < 0))))),q7.2)) else (some ((.p (.bool false)),h))).bind fun q9 =>
(asB q9.1).bind fun b10 =>
bif b10 then (
loop slices_partialInsertionSortCmpFunc_alarm_Due_c1 slices_partialInsertionSortCmpFunc_alarm_Due_l1 (1::σ) (envL [(0,x0),(1,(.p (.int .i64 x1))),(2,(.p (.int .i64 x2))),(3,x3),(9,(.p (.int .i64 (IntKind.wrap .i64 (x9 + 1))))),(10,(.p (.int .i64 x10)))]) q9.2)
else (
some ((.exit 2),(envL [(0,x0),(1,(.p (.int .i64 x1))),(2,(.p (.int .i64 x2))),(3,x3),(9,(.p (.int .i64 x9))),(10,(.p (.int .i64 x10)))]),q9.2)):=by kernel_rfl
theorem slices_partialInsertionSortCmpFunc_alarm_Due_a1_2 (x0 : V) (x1 : Int) (x2 : Int) (x3 : V) (x9 : Int) (x10 : Int) (h : H) : slices_partialInsertionSortCmpFunc_alarm_Due_k1 rec loop σ (.exit 2) (envL [(0,x0),(1,(.p (.int .i64 x1))),(2,(.p (.int .i64 x2))),(3,x3),(9,(.p (.int .i64 x9))),(10,(.p (.int .i64 x10)))]) h =
bif x9 == x2 then (
some (.ret,(envL [(8,(.p (.bool true)))]),h))
else (
bif decide ((IntKind.wrap .i64 (x2 - x1)) < 50) then (
some (.ret,(envL [(8,(.p (.bool false)))]),h))
else (
(iS 2 x0 (IntKind.wrap .i64 (x9 - 1))).bind fun t11 =>
(ldO true 2 h t11).bind fun t12 =>
(iS 2 x0 x9).bind fun t13 =>
(ldO true 2 h t13).bind fun t14 =>
(iS 2 x0 x9).bind fun t15 =>
((stO false 2 (15::0::1::1::1::0::1::0::σ) h t15 t12).map fun h => (udf,h)).bind fun q16 =>
(iS 2 x0 (IntKind.wrap .i64 (x9 - 1))).bind fun t17 =>
((stO false 2 (17::0::1::1::1::0::1::0::σ) q16.2 t17 t14).map fun h => (udf,h)).bind fun q18 =>
bif decide ((IntKind.wrap .i64 (x9 - x1)) ≥ 2) then (
(loop slices_partialInsertionSortCmpFunc_alarm_Due_c2 slices_partialInsertionSortCmpFunc_alarm_Due_l2 (1::1::0::1::1::1::1::0::1::0::σ) (envL [(0,x0),(1,(.p (.int .i64 x1))),(2,(.p (.int .i64 x2))),(3,x3),(9,(.p (.int .i64 x9))),(10,(.p (.int .i64 x10))),(11,(.p (.int .i64 (IntKind.wrap .i64 (x9 - 1)))))]) q18.2).bind fun r19 => slices_partialInsertionSortCmpFunc_alarm_Due_k2 rec loop σ r19.1 r19.2.1 r19.2.2)
else (
bif decide ((IntKind.wrap .i64 (x2 - x9)) ≥ 2) then (
(loop slices_partialInsertionSortCmpFunc_alarm_Due_c3 slices_partialInsertionSortCmpFunc_alarm_Due_l3 (1::1::1::1::1::1::1::0::1::0::σ) (envL [(0,x0),(1,(.p (.int .i64 x1))),(2,(.p (.int .i64 x2))),(3,x3),(9,(.p (.int .i64 x9))),(10,(.p (.int .i64 x10))),(12,(.p (.int .i64 (IntKind.wrap .i64 (x9 + 1)))))]) q18.2).bind fun r20 => slices_partialInsertionSortCmpFunc_alarm_Due_k3 rec loop σ r20.1 r20.2.1 r20.2.2)
else (
loop slices_partialInsertionSortCmpFunc_alarm_Due_c0 slices_partialInsertionSortCmpFunc_alarm_Due_l0 (1::σ) (envL [(0,x0),(1,(.p (.int .i64 x1))),(2,(.p (.int .i64 x2))),(3,x3),(9,(.p (.int .i64 x9))),(10,(.p (.int .i64 (IntKind.wrap .i64 (x10 + 1)))))]) q18.2)))):=by kernel_rfl
theorem slices_partialInsertionSortCmpFunc_alarm_Due_r2 (x0 : V) (x1 : Int) (x2 : Int) (x3 : V) (x9 : Int) (x10 : Int) (x11 : Int) (h : H) : cvRound G rec loop slices_partialInsertionSortCmpFunc_alarm_Due_c2 slices_partialInsertionSortCmpFunc_alarm_Due_l2 σ (envL [(0,x0),(1,(.p (.int .i64 x1))),(2,(.p (.int .i64 x2))),(3,x3),(9,(.p (.int .i64 x9))),(10,(.p (.int .i64 x10))),(11,(.p (.int .i64 x11)))]) h =
bif decide (x11 ≥ 1) then (
(iS 2 x0 x11).bind fun t21 =>
(ldO true 2 h t21).bind fun t22 =>
(iS 2 x0 (IntKind.wrap .i64 (x11 - 1))).bind fun t23 =>
(ldO true 2 h t23).bind fun t24 =>
(cloO rec x3 (10::0::0::0::1::0::σ) [t22,t24] h (some 82)).bind fun q25 =>
(castI .i64 q25.1).bind fun n26 =>
bif !(decide (n26 < 0)) then (
some ((.exit 4),(envL [(0,x0),(1,(.p (.int .i64 x1))),(2,(.p (.int .i64 x2))),(3,x3),(9,(.p (.int .i64 x9))),(10,(.p (.int .i64 x10)))]),q25.2))
else (
(iS 2 x0 (IntKind.wrap .i64 (x11 - 1))).bind fun t27 =>
(ldO true 2 q25.2 t27).bind fun t28 =>
(iS 2 x0 x11).bind fun t29 =>
(ldO true 2 q25.2 t29).bind fun t30 =>
(iS 2 x0 x11).bind fun t31 =>
((stO false 2 (15::1::0::1::0::σ) q25.2 t31 t28).map fun h => (udf,h)).bind fun q32 =>
(iS 2 x0 (IntKind.wrap .i64 (x11 - 1))).bind fun t33 =>
((stO false 2 (17::1::0::1::0::σ) q32.2 t33 t30).map fun h => (udf,h)).bind fun q34 =>
loop slices_partialInsertionSortCmpFunc_alarm_Due_c2 slices_partialInsertionSortCmpFunc_alarm_Due_l2 (1::σ) (envL [(0,x0),(1,(.p (.int .i64 x1))),(2,(.p (.int .i64 x2))),(3,x3),(9,(.p (.int .i64 x9))),(10,(.p (.int .i64 x10))),(11,(.p (.int .i64 (IntKind.wrap .i64 (x11 - 1)))))]) q34.2))
else (
some ((.exit 4),(envL [(0,x0),(1,(.p (.int .i64 x1))),(2,(.p (.int .i64 x2))),(3,x3),(9,(.p (.int .i64 x9))),(10,(.p (.int .i64 x10)))]),h)):=by kernel_rfl
theorem slices_partialInsertionSortCmpFunc_alarm_Due_a2_4 (x0 : V) (x1 : Int) (x2 : Int) (x3 : V) (x9 : Int) (x10 : Int) (h : H) : slices_partialInsertionSortCmpFunc_alarm_Due_k2 rec loop σ (.exit 4) (envL [(0,x0),(1,(.p (.int .i64 x1))),(2,(.p (.int .i64 x2))),(3,x3),(9,(.p (.int .i64 x9))),(10,(.p (.int .i64 x10)))]) h =
bif decide ((IntKind.wrap .i64 (x2 - x9)) ≥ 2) then (
(loop slices_partialInsertionSortCmpFunc_alarm_Due_c3 slices_partialInsertionSortCmpFunc_alarm_Due_l3 (1::1::1::1::1::1::1::0::1::0::σ) (envL [(0,x0),(1,(.p (.int .i64 x1))),(2,(.p (.int .i64 x2))),(3,x3),(9,(.p (.int .i64 x9))),(10,(.p (.int .i64 x10))),(12,(.p (.int .i64 (IntKind.wrap .i64 (x9 + 1)))))]) h).bind fun r35 => slices_partialInsertionSortCmpFunc_alarm_Due_k3 rec loop σ r35.1 r35.2.1 r35.2.2)
else (
loop slices_partialInsertionSortCmpFunc_alarm_Due_c0 slices_partialInsertionSortCmpFunc_alarm_Due_l0 (1::σ) (envL [(0,x0),(1,(.p (.int .i64 x1))),(2,(.p (.int .i64 x2))),(3,x3),(9,(.p (.int .i64 x9))),(10,(.p (.int .i64 (IntKind.wrap .i64 (x10 + 1)))))]) h):=by kernel_rfl
theorem slices_partialInsertionSortCmpFunc_alarm_Due_r3 (x0 : V) (x1 : Int) (x2 : Int) (x3 : V) (x9 : Int) (x10 : Int) (x12 : Int) (h : H) : cvRound G rec loop slices_partialInsertionSortCmpFunc_alarm_Due_c3 slices_partialInsertionSortCmpFunc_alarm_Due_l3 σ (envL [(0,x0),(1,(.p (.int .i64 x1))),(2,(.p (.int .i64 x2))),(3,x3),(9,(.p (.int .i64 x9))),(10,(.p (.int .i64 x10))),(12,(.p (.int .i64 x12)))]) h =
bif decide (x12 < x2) then (
(iS 2 x0 x12).bind fun t36 =>
(ldO true 2 h t36).bind fun t37 =>
(iS 2 x0 (IntKind.wrap .i64 (x12 - 1))).bind fun t38 =>
(ldO true 2 h t38).bind fun t39 =>
(cloO rec x3 (10::0::0::0::1::0::σ) [t37,t39] h (some 122)).bind fun q40 =>
(castI .i64 q40.1).bind fun n41 =>
bif !(decide (n41 < 0)) then (
some ((.exit 6),(envL [(0,x0),(1,(.p (.int .i64 x1))),(2,(.p (.int .i64 x2))),(3,x3),(9,(.p (.int .i64 x9))),(10,(.p (.int .i64 x10)))]),q40.2))
else (
(iS 2 x0 (IntKind.wrap .i64 (x12 - 1))).bind fun t42 =>
(ldO true 2 q40.2 t42).bind fun t43 =>
(iS 2 x0 x12).bind fun t44 =>
(ldO true 2 q40.2 t44).bind fun t45 =>
(iS 2 x0 x12).bind fun t46 =>
((stO false 2 (15::1::0::1::0::σ) q40.2 t46 t43).map fun h => (udf,h)).bind fun q47 =>
(iS 2 x0 (IntKind.wrap .i64 (x12 - 1))).bind fun t48 =>
((stO false 2 (17::1::0::1::0::σ) q47.2 t48 t45).map fun h => (udf,h)).bind fun q49 =>
loop slices_partialInsertionSortCmpFunc_alarm_Due_c3 slices_partialInsertionSortCmpFunc_alarm_Due_l3 (1::σ) (envL [(0,x0),(1,(.p (.int .i64 x1))),(2,(.p (.int .i64 x2))),(3,x3),(9,(.p (.int .i64 x9))),(10,(.p (.int .i64 x10))),(12,(.p (.int .i64 (IntKind.wrap .i64 (x12 + 1)))))]) q49.2))
else (
some ((.exit 6),(envL [(0,x0),(1,(.p (.int .i64 x1))),(2,(.p (.int .i64 x2))),(3,x3),(9,(.p (.int .i64 x9))),(10,(.p (.int .i64 x10)))]),h)):=by kernel_rfl
theorem slices_partialInsertionSortCmpFunc_alarm_Due_a3_6 (x0 : V) (x1 : Int) (x2 : Int) (x3 : V) (x9 : Int) (x10 : Int) (h : H) : slices_partialInsertionSortCmpFunc_alarm_Due_k3 rec loop σ (.exit 6) (envL [(0,x0),(1,(.p (.int .i64 x1))),(2,(.p (.int .i64 x2))),(3,x3),(9,(.p (.int .i64 x9))),(10,(.p (.int .i64 x10)))]) h =
loop slices_partialInsertionSortCmpFunc_alarm_Due_c0 slices_partialInsertionSortCmpFunc_alarm_Due_l0 (1::σ) (envL [(0,x0),(1,(.p (.int .i64 x1))),(2,(.p (.int .i64 x2))),(3,x3),(9,(.p (.int .i64 x9))),(10,(.p (.int .i64 (IntKind.wrap .i64 (x10 + 1)))))]) h:=by kernel_rfl
end
end Go.Ev
namespace Go.Ev
open Go.Proofs
set_option linter.unusedVariables false
set_option linter.unusedSimpArgs false
set_option maxRecDepth 100000
section
variable {β α : Type} {Q : β→α→Prop} {K : Exit × Env × H→Option α}
def p_slices_partialInsertionSortCmpFunc_alarm_Due_alarm_Table_Set_1_l1 {β : Type} (k : Nat) (kE0 : Int→Int→Int→Int→(List T_alarm_Due)→Option β) (x1 : Int) (x2 : Int) (x9 : Int) (x10 : Int) (zw0 : (List T_alarm_Due)) : Option β:=match k with
| 0 => none
| k + 1 =>
(bif decide (x9 < x2) then ((ix zw0 x9).bind fun a10 =>
(ix zw0 (IntKind.wrap .i64 (x9 - 1))).bind fun a15 =>
(p_alarm_Table_Set_1 k a10 a15).bind fun r20 =>
some (!(decide (r20 < 0)))) else (some false)).bind fun b25 =>
bif b25 then (
p_slices_partialInsertionSortCmpFunc_alarm_Due_alarm_Table_Set_1_l1 k kE0 x1 x2 (IntKind.wrap .i64 (x9 + 1)) x10 zw0)
else (
kE0 x1 x2 x9 x10 zw0)
def p_slices_partialInsertionSortCmpFunc_alarm_Due_alarm_Table_Set_1_l2 {β : Type} (k : Nat) (kE0 : Int→Int→Int→Int→(List T_alarm_Due)→Option β) (x1 : Int) (x2 : Int) (x9 : Int) (x10 : Int) (x11 : Int) (zw0 : (List T_alarm_Due)) : Option β:=match k with
| 0 => none
| k + 1 =>
bif decide (x11 ≥ 1) then (
(ix zw0 x11).bind fun a75 =>
(ix zw0 (IntKind.wrap .i64 (x11 - 1))).bind fun a80 =>
(p_alarm_Table_Set_1 k a75 a80).bind fun r85 =>
bif !(decide (r85 < 0)) then (
kE0 x1 x2 x9 x10 zw0)
else (
(ix zw0 (IntKind.wrap .i64 (x11 - 1))).bind fun a91 =>
(ix zw0 x11).bind fun a96 =>
(ix zw0 x11).bind fun a101 =>
(stx zw0 x11 a91).bind fun a106 =>
(ix a106 (IntKind.wrap .i64 (x11 - 1))).bind fun a110 =>
(stx a106 (IntKind.wrap .i64 (x11 - 1)) a96).bind fun a115 =>
p_slices_partialInsertionSortCmpFunc_alarm_Due_alarm_Table_Set_1_l2 k kE0 x1 x2 x9 x10 (IntKind.wrap .i64 (x11 - 1)) a115))
else (
kE0 x1 x2 x9 x10 zw0)
def p_slices_partialInsertionSortCmpFunc_alarm_Due_alarm_Table_Set_1_l3 {β : Type} (k : Nat) (kE0 : Int→Int→Int→Int→(List T_alarm_Due)→Option β) (x1 : Int) (x2 : Int) (x9 : Int) (x10 : Int) (x12 : Int) (zw0 : (List T_alarm_Due)) : Option β:=match k with
| 0 => none
| k + 1 =>
bif decide (x12 < x2) then (
(ix zw0 x12).bind fun a134 =>
(ix zw0 (IntKind.wrap .i64 (x12 - 1))).bind fun a139 =>
(p_alarm_Table_Set_1 k a134 a139).bind fun r144 =>
bif !(decide (r144 < 0)) then (
kE0 x1 x2 x9 x10 zw0)
else (
(ix zw0 (IntKind.wrap .i64 (x12 - 1))).bind fun a150 =>
(ix zw0 x12).bind fun a155 =>
(ix zw0 x12).bind fun a160 =>
(stx zw0 x12 a150).bind fun a165 =>
(ix a165 (IntKind.wrap .i64 (x12 - 1))).bind fun a169 =>
(stx a165 (IntKind.wrap .i64 (x12 - 1)) a155).bind fun a174 =>
p_slices_partialInsertionSortCmpFunc_alarm_Due_alarm_Table_Set_1_l3 k kE0 x1 x2 x9 x10 (IntKind.wrap .i64 (x12 + 1)) a174))
else (
kE0 x1 x2 x9 x10 zw0)
def p_slices_partialInsertionSortCmpFunc_alarm_Due_alarm_Table_Set_1_l0 {β : Type} (k : Nat) (kE0 : (List T_alarm_Due)→Option β) (kE1 : Bool→(List T_alarm_Due)→Option β) (x1 : Int) (x2 : Int) (x9 : Int) (x10 : Int) (zw0 : (List T_alarm_Due)) : Option β:=match k with
| 0 => none
| k + 1 =>
bif decide (x10 < 5) then (
p_slices_partialInsertionSortCmpFunc_alarm_Due_alarm_Table_Set_1_l1 k (fun r34_1 r34_2 r34_9 r34_10 zw0 =>
bif r34_9 == r34_2 then (
kE1 true zw0)
else (
bif decide ((IntKind.wrap .i64 (r34_2 - r34_1)) < 50) then (
kE1 false zw0)
else (
(ix zw0 (IntKind.wrap .i64 (r34_9 - 1))).bind fun a41 =>
(ix zw0 r34_9).bind fun a46 =>
(ix zw0 r34_9).bind fun a51 =>
(stx zw0 r34_9 a41).bind fun a56 =>
(ix a56 (IntKind.wrap .i64 (r34_9 - 1))).bind fun a60 =>
(stx a56 (IntKind.wrap .i64 (r34_9 - 1)) a46).bind fun a65 =>
bif decide ((IntKind.wrap .i64 (r34_9 - r34_1)) ≥ 2) then (
p_slices_partialInsertionSortCmpFunc_alarm_Due_alarm_Table_Set_1_l2 k (fun r123_1 r123_2 r123_9 r123_10 zw0 =>
bif decide ((IntKind.wrap .i64 (r123_2 - r123_9)) ≥ 2) then (
p_slices_partialInsertionSortCmpFunc_alarm_Due_alarm_Table_Set_1_l3 k (fun r182_1 r182_2 r182_9 r182_10 zw0 =>
p_slices_partialInsertionSortCmpFunc_alarm_Due_alarm_Table_Set_1_l0 k kE0 kE1 r182_1 r182_2 r182_9 (IntKind.wrap .i64 (r182_10 + 1)) zw0) r123_1 r123_2 r123_9 r123_10 (IntKind.wrap .i64 (r123_9 + 1)) zw0)
else (
p_slices_partialInsertionSortCmpFunc_alarm_Due_alarm_Table_Set_1_l0 k kE0 kE1 r123_1 r123_2 r123_9 (IntKind.wrap .i64 (r123_10 + 1)) zw0)) r34_1 r34_2 r34_9 r34_10 (IntKind.wrap .i64 (r34_9 - 1)) a65)
else (
bif decide ((IntKind.wrap .i64 (r34_2 - r34_9)) ≥ 2) then (
p_slices_partialInsertionSortCmpFunc_alarm_Due_alarm_Table_Set_1_l3 k (fun r188_1 r188_2 r188_9 r188_10 zw0 =>
p_slices_partialInsertionSortCmpFunc_alarm_Due_alarm_Table_Set_1_l0 k kE0 kE1 r188_1 r188_2 r188_9 (IntKind.wrap .i64 (r188_10 + 1)) zw0) r34_1 r34_2 r34_9 r34_10 (IntKind.wrap .i64 (r34_9 + 1)) a65)
else (
p_slices_partialInsertionSortCmpFunc_alarm_Due_alarm_Table_Set_1_l0 k kE0 kE1 r34_1 r34_2 r34_9 (IntKind.wrap .i64 (r34_10 + 1)) a65))))) x1 x2 x9 x10 zw0)
else (
kE0 zw0)
def p_slices_partialInsertionSortCmpFunc_alarm_Due_alarm_Table_Set_1 (k : Nat) (x0 : (List T_alarm_Due)) (x1 : Int) (x2 : Int) : Option (Bool × (List T_alarm_Due)) :=
p_slices_partialInsertionSortCmpFunc_alarm_Due_alarm_Table_Set_1_l0 k (fun zw0 =>
some (false,zw0)) (fun r206_8 zw0 =>
some (r206_8,zw0)) x1 x2 (IntKind.wrap .i64 (x1 + 1)) 0 x0
theorem slices_partialInsertionSortCmpFunc_alarm_Due_alarm_Table_Set_1_l1_ok {h : H} {l0 : Loc} {o0 : Nat} {u0 : V} {kE0 : Int→Int→Int→Int→(List T_alarm_Due)→Option β} (hE0 : ∀ (q1 : Int) (q2 : Int) (q9 : Int) (q10 : Int) (zw0 : (List T_alarm_Due)) (w32 : List C) (h33 : WL l0 o0 dT_alarm_Due zw0 u0 w32) (H30 : Go.Ev.H) (_ : Fm 141 h [⟨l0,o0,w32⟩] [] [] H30),Sim (kE0 q1 q2 q9 q10 zw0) (K ((.exit 2),(envL [(0,u0),(1,(.p (.int .i64 q1))),(2,(.p (.int .i64 q2))),(3,(.clo 47 [])),(9,(.p (.int .i64 q9))),(10,(.p (.int .i64 q10)))]),H30)) Q) (k : Nat) : ∀ (x1 : Int) (x2 : Int) (x9 : Int) (x10 : Int) (zw0 : (List T_alarm_Due)) (w8 : List C) (h9 : WL l0 o0 dT_alarm_Due zw0 u0 w8) (H6 : Go.Ev.H) (_ : Fm 141 h [⟨l0,o0,w8⟩] [] [] H6) {σ : Stamp},Sim (p_slices_partialInsertionSortCmpFunc_alarm_Due_alarm_Table_Set_1_l1 k kE0 x1 x2 x9 x10 zw0) ((cvL G X0 slices_partialInsertionSortCmpFunc_alarm_Due_c1 slices_partialInsertionSortCmpFunc_alarm_Due_l1 σ (envL [(0,u0),(1,(.p (.int .i64 x1))),(2,(.p (.int .i64 x2))),(3,(.clo 47 [])),(9,(.p (.int .i64 x9))),(10,(.p (.int .i64 x10)))]) H6).bind K) Q:=by
 induction k with
 | zero => intros; exact .no
 | succ k ih =>
  intro x1 x2 x9 x10 zw0 w8 h9 H6 S7 σ
  rw [p_slices_partialInsertionSortCmpFunc_alarm_Due_alarm_Table_Set_1_l1]
  refine .round (Sim.ext (slices_partialInsertionSortCmpFunc_alarm_Due_r1 _ _ _ _ _ _ _ _ _ _) ?_)
  refine .ch (P:=fun r y => (.p (.bool r),H6) = y) ?_ (fun b25 y26 h27 h28 => ?_)
  ·refine .cq ?_ ?_
   ·refine .bd fun a10 h11 => ?_
    refine .op ((S7.slW (i:=0) rfl h9).iS h11 rfl) ?_
    obtain ⟨w13,h14,hE12⟩:=(S7.slW (i:=0) rfl h9).el h11 rfl
    obtain rfl:=dT_alarm_Due.inv h14
    refine .op (hE12.all (by simp)) ?_
    refine .bd fun a15 h16 => ?_
    refine .op ((S7.slW (i:=0) rfl h9).iS h16 rfl) ?_
    obtain ⟨w18,h19,hE17⟩:=(S7.slW (i:=0) rfl h9).el h16 rfl
    obtain rfl:=dT_alarm_Due.inv h19
    refine .op (hE17.all (by simp)) ?_
    refine .clo ?_
    refine .call (alarm_Table_Set_1_ok k a10 (show dT_alarm_Due.R a10 [.p (.int .i64 a10.f_At),.p (.int .u64 a10.Key)] from (dT_alarm_Due.mk)) a15 (show dT_alarm_Due.R a15 [.p (.int .i64 a15.f_At),.p (.int .u64 a15.Key)] from (dT_alarm_Due.mk))) fun r20 cs21 H22 h23 q24 => ?_
    cases q24
    refine .ci ?_
    exact .ret rfl rfl
   ·exact .ret rfl rfl
  subst h28
  refine .ab ?_
  refine .cq ?_ ?_
  ·exact ih x1 x2 (IntKind.wrap .i64 (x9 + 1)) x10 zw0 w8 h9 H6 (S7.wk2 aN aN)
  exact hE0 x1 x2 x9 x10 zw0 w8 h9 H6 (S7.wk2 aN aN)
theorem slices_partialInsertionSortCmpFunc_alarm_Due_alarm_Table_Set_1_l2_ok {h : H} {l0 : Loc} {o0 : Nat} {u0 : V} {kE0 : Int→Int→Int→Int→(List T_alarm_Due)→Option β} (hE0 : ∀ (q1 : Int) (q2 : Int) (q9 : Int) (q10 : Int) (zw0 : (List T_alarm_Due)) (w121 : List C) (h122 : WL l0 o0 dT_alarm_Due zw0 u0 w121) (H119 : Go.Ev.H) (_ : Fm 141 h [⟨l0,o0,w121⟩] [] [] H119),Sim (kE0 q1 q2 q9 q10 zw0) (K ((.exit 4),(envL [(0,u0),(1,(.p (.int .i64 q1))),(2,(.p (.int .i64 q2))),(3,(.clo 47 [])),(9,(.p (.int .i64 q9))),(10,(.p (.int .i64 q10)))]),H119)) Q) (k : Nat) : ∀ (x1 : Int) (x2 : Int) (x9 : Int) (x10 : Int) (x11 : Int) (zw0 : (List T_alarm_Due)) (w72 : List C) (h73 : WL l0 o0 dT_alarm_Due zw0 u0 w72) (H70 : Go.Ev.H) (_ : Fm 141 h [⟨l0,o0,w72⟩] [] [] H70) {σ : Stamp},Sim (p_slices_partialInsertionSortCmpFunc_alarm_Due_alarm_Table_Set_1_l2 k kE0 x1 x2 x9 x10 x11 zw0) ((cvL G X0 slices_partialInsertionSortCmpFunc_alarm_Due_c2 slices_partialInsertionSortCmpFunc_alarm_Due_l2 σ (envL [(0,u0),(1,(.p (.int .i64 x1))),(2,(.p (.int .i64 x2))),(3,(.clo 47 [])),(9,(.p (.int .i64 x9))),(10,(.p (.int .i64 x10))),(11,(.p (.int .i64 x11)))]) H70).bind K) Q:=by
 induction k with
 | zero => intros; exact .no
 | succ k ih =>
  intro x1 x2 x9 x10 x11 zw0 w72 h73 H70 S71 σ
  rw [p_slices_partialInsertionSortCmpFunc_alarm_Due_alarm_Table_Set_1_l2]
  refine .round (Sim.ext (slices_partialInsertionSortCmpFunc_alarm_Due_r2 _ _ _ _ _ _ _ _ _ _ _) ?_)
  refine .cq ?_ ?_
  ·refine .bd fun a75 h76 => ?_
   refine .op ((S71.slW (i:=0) rfl h73).iS h76 rfl) ?_
   obtain ⟨w78,h79,hE77⟩:=(S71.slW (i:=0) rfl h73).el h76 rfl
   obtain rfl:=dT_alarm_Due.inv h79
   refine .op (hE77.all (by simp)) ?_
   refine .bd fun a80 h81 => ?_
   refine .op ((S71.slW (i:=0) rfl h73).iS h81 rfl) ?_
   obtain ⟨w83,h84,hE82⟩:=(S71.slW (i:=0) rfl h73).el h81 rfl
   obtain rfl:=dT_alarm_Due.inv h84
   refine .op (hE82.all (by simp)) ?_
   refine .clo ?_
   refine .call (alarm_Table_Set_1_ok k a75 (show dT_alarm_Due.R a75 [.p (.int .i64 a75.f_At),.p (.int .u64 a75.Key)] from (dT_alarm_Due.mk)) a80 (show dT_alarm_Due.R a80 [.p (.int .i64 a80.f_At),.p (.int .u64 a80.Key)] from (dT_alarm_Due.mk))) fun r85 cs86 H87 h88 q89 => ?_
   cases q89
   refine .ci ?_
   refine .cq ?_ ?_
   ·exact hE0 x1 x2 x9 x10 zw0 w72 h73 H70 (S71.wk2 aN aN)
   refine .bd fun a91 h92 => ?_
   refine .op ((S71.slW (i:=0) rfl h73).iS h92 rfl) ?_
   obtain ⟨w94,h95,hE93⟩:=(S71.slW (i:=0) rfl h73).el h92 rfl
   obtain rfl:=dT_alarm_Due.inv h95
   refine .op (hE93.all (by simp)) ?_
   refine .bd fun a96 h97 => ?_
   refine .op ((S71.slW (i:=0) rfl h73).iS h97 rfl) ?_
   obtain ⟨w99,h100,hE98⟩:=(S71.slW (i:=0) rfl h73).el h97 rfl
   obtain rfl:=dT_alarm_Due.inv h100
   refine .op (hE98.all (by simp)) ?_
   refine .bd fun a101 h102 => ?_
   refine .op ((S71.slW (i:=0) rfl h73).iS h102 rfl) ?_
   refine .bd fun a106 h107 => ?_
   obtain ⟨w108,H103,e104,h109,S105⟩:=S71.setWA (i:=0) (e:=2) (own:=false) (σ:=(15::1::0::1::0::σ)) (nv:=[.p (.int .i64 a91.f_At),.p (.int .u64 a91.Key)]) (xv:=(.agg [.p (.int .i64 a91.f_At),.p (.int .u64 a91.Key)])) rfl h73 h107 rfl (stN_agg (sC (sI _ _) (sC (sI _ _) sN))) (show dT_alarm_Due.R a91 [.p (.int .i64 a91.f_At),.p (.int .u64 a91.Key)] from (dT_alarm_Due.mk)) rfl
   refine .op (sM e104) ?_
   refine .bd fun a110 h111 => ?_
   refine .op ((S105.slW (i:=0) rfl h109).iS h111 rfl) ?_
   refine .bd fun a115 h116 => ?_
   obtain ⟨w117,H112,e113,h118,S114⟩:=S105.setWA (i:=0) (e:=2) (own:=false) (σ:=(17::1::0::1::0::σ)) (nv:=[.p (.int .i64 a96.f_At),.p (.int .u64 a96.Key)]) (xv:=(.agg [.p (.int .i64 a96.f_At),.p (.int .u64 a96.Key)])) rfl h109 h116 rfl (stN_agg (sC (sI _ _) (sC (sI _ _) sN))) (show dT_alarm_Due.R a96 [.p (.int .i64 a96.f_At),.p (.int .u64 a96.Key)] from (dT_alarm_Due.mk)) rfl
   refine .op (sM e113) ?_
   exact ih x1 x2 x9 x10 (IntKind.wrap .i64 (x11 - 1)) a115 w117 h118 H112 (S114.wk2 aN aN)
  exact hE0 x1 x2 x9 x10 zw0 w72 h73 H70 (S71.wk2 aN aN)
theorem slices_partialInsertionSortCmpFunc_alarm_Due_alarm_Table_Set_1_l3_ok {h : H} {l0 : Loc} {o0 : Nat} {u0 : V} {kE0 : Int→Int→Int→Int→(List T_alarm_Due)→Option β} (hE0 : ∀ (q1 : Int) (q2 : Int) (q9 : Int) (q10 : Int) (zw0 : (List T_alarm_Due)) (w180 : List C) (h181 : WL l0 o0 dT_alarm_Due zw0 u0 w180) (H178 : Go.Ev.H) (_ : Fm 141 h [⟨l0,o0,w180⟩] [] [] H178),Sim (kE0 q1 q2 q9 q10 zw0) (K ((.exit 6),(envL [(0,u0),(1,(.p (.int .i64 q1))),(2,(.p (.int .i64 q2))),(3,(.clo 47 [])),(9,(.p (.int .i64 q9))),(10,(.p (.int .i64 q10)))]),H178)) Q) (k : Nat) : ∀ (x1 : Int) (x2 : Int) (x9 : Int) (x10 : Int) (x12 : Int) (zw0 : (List T_alarm_Due)) (w131 : List C) (h132 : WL l0 o0 dT_alarm_Due zw0 u0 w131) (H129 : Go.Ev.H) (_ : Fm 141 h [⟨l0,o0,w131⟩] [] [] H129) {σ : Stamp},Sim (p_slices_partialInsertionSortCmpFunc_alarm_Due_alarm_Table_Set_1_l3 k kE0 x1 x2 x9 x10 x12 zw0) ((cvL G X0 slices_partialInsertionSortCmpFunc_alarm_Due_c3 slices_partialInsertionSortCmpFunc_alarm_Due_l3 σ (envL [(0,u0),(1,(.p (.int .i64 x1))),(2,(.p (.int .i64 x2))),(3,(.clo 47 [])),(9,(.p (.int .i64 x9))),(10,(.p (.int .i64 x10))),(12,(.p (.int .i64 x12)))]) H129).bind K) Q:=by
 induction k with
 | zero => intros; exact .no
 | succ k ih =>
  intro x1 x2 x9 x10 x12 zw0 w131 h132 H129 S130 σ
  rw [p_slices_partialInsertionSortCmpFunc_alarm_Due_alarm_Table_Set_1_l3]
  refine .round (Sim.ext (slices_partialInsertionSortCmpFunc_alarm_Due_r3 _ _ _ _ _ _ _ _ _ _ _) ?_)
  refine .cq ?_ ?_
  ·refine .bd fun a134 h135 => ?_
   refine .op ((S130.slW (i:=0) rfl h132).iS h135 rfl) ?_
   obtain ⟨w137,h138,hE136⟩:=(S130.slW (i:=0) rfl h132).el h135 rfl
   obtain rfl:=dT_alarm_Due.inv h138
   refine .op (hE136.all (by simp)) ?_
   refine .bd fun a139 h140 => ?_
   refine .op ((S130.slW (i:=0) rfl h132).iS h140 rfl) ?_
   obtain ⟨w142,h143,hE141⟩:=(S130.slW (i:=0) rfl h132).el h140 rfl
   obtain rfl:=dT_alarm_Due.inv h143
   refine .op (hE141.all (by simp)) ?_
   refine .clo ?_
   refine .call (alarm_Table_Set_1_ok k a134 (show dT_alarm_Due.R a134 [.p (.int .i64 a134.f_At),.p (.int .u64 a134.Key)] from (dT_alarm_Due.mk)) a139 (show dT_alarm_Due.R a139 [.p (.int .i64 a139.f_At),.p (.int .u64 a139.Key)] from (dT_alarm_Due.mk))) fun r144 cs145 H146 h147 q148 => ?_
   cases q148
   refine .ci ?_
   refine .cq ?_ ?_
   ·exact hE0 x1 x2 x9 x10 zw0 w131 h132 H129 (S130.wk2 aN aN)
   refine .bd fun a150 h151 => ?_
   refine .op ((S130.slW (i:=0) rfl h132).iS h151 rfl) ?_
   obtain ⟨w153,h154,hE152⟩:=(S130.slW (i:=0) rfl h132).el h151 rfl
   obtain rfl:=dT_alarm_Due.inv h154
   refine .op (hE152.all (by simp)) ?_
   refine .bd fun a155 h156 => ?_
   refine .op ((S130.slW (i:=0) rfl h132).iS h156 rfl) ?_
   obtain ⟨w158,h159,hE157⟩:=(S130.slW (i:=0) rfl h132).el h156 rfl
   obtain rfl:=dT_alarm_Due.inv h159
   refine .op (hE157.all (by simp)) ?_
   refine .bd fun a160 h161 => ?_
   refine .op ((S130.slW (i:=0) rfl h132).iS h161 rfl) ?_
   refine .bd fun a165 h166 => ?_
   obtain ⟨w167,H162,e163,h168,S164⟩:=S130.setWA (i:=0) (e:=2) (own:=false) (σ:=(15::1::0::1::0::σ)) (nv:=[.p (.int .i64 a150.f_At),.p (.int .u64 a150.Key)]) (xv:=(.agg [.p (.int .i64 a150.f_At),.p (.int .u64 a150.Key)])) rfl h132 h166 rfl (stN_agg (sC (sI _ _) (sC (sI _ _) sN))) (show dT_alarm_Due.R a150 [.p (.int .i64 a150.f_At),.p (.int .u64 a150.Key)] from (dT_alarm_Due.mk)) rfl
   refine .op (sM e163) ?_
   refine .bd fun a169 h170 => ?_
   refine .op ((S164.slW (i:=0) rfl h168).iS h170 rfl) ?_
   refine .bd fun a174 h175 => ?_
   obtain ⟨w176,H171,e172,h177,S173⟩:=S164.setWA (i:=0) (e:=2) (own:=false) (σ:=(17::1::0::1::0::σ)) (nv:=[.p (.int .i64 a155.f_At),.p (.int .u64 a155.Key)]) (xv:=(.agg [.p (.int .i64 a155.f_At),.p (.int .u64 a155.Key)])) rfl h168 h175 rfl (stN_agg (sC (sI _ _) (sC (sI _ _) sN))) (show dT_alarm_Due.R a155 [.p (.int .i64 a155.f_At),.p (.int .u64 a155.Key)] from (dT_alarm_Due.mk)) rfl
   refine .op (sM e172) ?_
   exact ih x1 x2 x9 x10 (IntKind.wrap .i64 (x12 + 1)) a174 w176 h177 H171 (S173.wk2 aN aN)
  exact hE0 x1 x2 x9 x10 zw0 w131 h132 H129 (S130.wk2 aN aN)
theorem slices_partialInsertionSortCmpFunc_alarm_Due_alarm_Table_Set_1_l0_ok {h : H} {l0 : Loc} {o0 : Nat} {u0 : V} {kE0 : (List T_alarm_Due)→Option β} {kE1 : Bool→(List T_alarm_Due)→Option β} (hE0 : ∀ (zw0 : (List T_alarm_Due)) (w195 : List C) (h196 : WL l0 o0 dT_alarm_Due zw0 u0 w195) (H193 : Go.Ev.H) (_ : Fm 141 h [⟨l0,o0,w195⟩] [] [] H193),Sim (kE0 zw0) (K ((.exit 0),(envL []),H193)) Q) (hE1 : ∀ (q8 : Bool) (zw0 : (List T_alarm_Due)) (w199 : List C) (h200 : WL l0 o0 dT_alarm_Due zw0 u0 w199) (H197 : Go.Ev.H) (_ : Fm 141 h [⟨l0,o0,w199⟩] [] [] H197),Sim (kE1 q8 zw0) (K (.ret,(envL [(8,(.p (.bool q8)))]),H197)) Q) (k : Nat) : ∀ (x1 : Int) (x2 : Int) (x9 : Int) (x10 : Int) (zw0 : (List T_alarm_Due)) (w3 : List C) (h4 : WL l0 o0 dT_alarm_Due zw0 u0 w3) (H1 : Go.Ev.H) (_ : Fm 141 h [⟨l0,o0,w3⟩] [] [] H1) {σ : Stamp},Sim (p_slices_partialInsertionSortCmpFunc_alarm_Due_alarm_Table_Set_1_l0 k kE0 kE1 x1 x2 x9 x10 zw0) ((cvL G X0 slices_partialInsertionSortCmpFunc_alarm_Due_c0 slices_partialInsertionSortCmpFunc_alarm_Due_l0 σ (envL [(0,u0),(1,(.p (.int .i64 x1))),(2,(.p (.int .i64 x2))),(3,(.clo 47 [])),(9,(.p (.int .i64 x9))),(10,(.p (.int .i64 x10)))]) H1).bind K) Q:=by
 induction k with
 | zero => intros; exact .no
 | succ k ih =>
  intro x1 x2 x9 x10 zw0 w3 h4 H1 S2 σ
  rw [p_slices_partialInsertionSortCmpFunc_alarm_Due_alarm_Table_Set_1_l0]
  refine .round (Sim.ext (slices_partialInsertionSortCmpFunc_alarm_Due_r0 _ _ _ _ _ _ _ _ _ _) ?_)
  refine .cq ?_ ?_
  ·refine .as (slices_partialInsertionSortCmpFunc_alarm_Due_alarm_Table_Set_1_l1_ok ?_ k x1 x2 x9 x10 zw0 w3 h4 H1 (S2.wk2 aN aN))
   ·intro r34_1 r34_2 r34_9 r34_10 zw0 w37 h38 H35 S36
    refine .ext (slices_partialInsertionSortCmpFunc_alarm_Due_a1_2 _ _ _ _ _ _ _ _ _ _) ?_
    refine .cq ?_ ?_
    ·exact hE1 true zw0 w37 h38 H35 (S36.wk2 aN aN)
    refine .cq ?_ ?_
    ·exact hE1 false zw0 w37 h38 H35 (S36.wk2 aN aN)
    refine .bd fun a41 h42 => ?_
    refine .op ((S36.slW (i:=0) rfl h38).iS h42 rfl) ?_
    obtain ⟨w44,h45,hE43⟩:=(S36.slW (i:=0) rfl h38).el h42 rfl
    obtain rfl:=dT_alarm_Due.inv h45
    refine .op (hE43.all (by simp)) ?_
    refine .bd fun a46 h47 => ?_
    refine .op ((S36.slW (i:=0) rfl h38).iS h47 rfl) ?_
    obtain ⟨w49,h50,hE48⟩:=(S36.slW (i:=0) rfl h38).el h47 rfl
    obtain rfl:=dT_alarm_Due.inv h50
    refine .op (hE48.all (by simp)) ?_
    refine .bd fun a51 h52 => ?_
    refine .op ((S36.slW (i:=0) rfl h38).iS h52 rfl) ?_
    refine .bd fun a56 h57 => ?_
    obtain ⟨w58,H53,e54,h59,S55⟩:=S36.setWA (i:=0) (e:=2) (own:=false) (σ:=(15::0::1::1::1::0::1::0::σ)) (nv:=[.p (.int .i64 a41.f_At),.p (.int .u64 a41.Key)]) (xv:=(.agg [.p (.int .i64 a41.f_At),.p (.int .u64 a41.Key)])) rfl h38 h57 rfl (stN_agg (sC (sI _ _) (sC (sI _ _) sN))) (show dT_alarm_Due.R a41 [.p (.int .i64 a41.f_At),.p (.int .u64 a41.Key)] from (dT_alarm_Due.mk)) rfl
    refine .op (sM e54) ?_
    refine .bd fun a60 h61 => ?_
    refine .op ((S55.slW (i:=0) rfl h59).iS h61 rfl) ?_
    refine .bd fun a65 h66 => ?_
    obtain ⟨w67,H62,e63,h68,S64⟩:=S55.setWA (i:=0) (e:=2) (own:=false) (σ:=(17::0::1::1::1::0::1::0::σ)) (nv:=[.p (.int .i64 a46.f_At),.p (.int .u64 a46.Key)]) (xv:=(.agg [.p (.int .i64 a46.f_At),.p (.int .u64 a46.Key)])) rfl h59 h66 rfl (stN_agg (sC (sI _ _) (sC (sI _ _) sN))) (show dT_alarm_Due.R a46 [.p (.int .i64 a46.f_At),.p (.int .u64 a46.Key)] from (dT_alarm_Due.mk)) rfl
    refine .op (sM e63) ?_
    refine .cq ?_ ?_
    ·refine .as (slices_partialInsertionSortCmpFunc_alarm_Due_alarm_Table_Set_1_l2_ok ?_ k r34_1 r34_2 r34_9 r34_10 (IntKind.wrap .i64 (r34_9 - 1)) a65 w67 h68 H62 (S64.wk2 aN aN))
     ·intro r123_1 r123_2 r123_9 r123_10 zw0 w126 h127 H124 S125
      refine .ext (slices_partialInsertionSortCmpFunc_alarm_Due_a2_4 _ _ _ _ _ _ _ _ _ _) ?_
      refine .cq ?_ ?_
      ·refine .as (slices_partialInsertionSortCmpFunc_alarm_Due_alarm_Table_Set_1_l3_ok ?_ k r123_1 r123_2 r123_9 r123_10 (IntKind.wrap .i64 (r123_9 + 1)) zw0 w126 h127 H124 (S125.wk2 aN aN))
       ·intro r182_1 r182_2 r182_9 r182_10 zw0 w185 h186 H183 S184
        refine .ext (slices_partialInsertionSortCmpFunc_alarm_Due_a3_6 _ _ _ _ _ _ _ _ _ _) ?_
        exact ih r182_1 r182_2 r182_9 (IntKind.wrap .i64 (r182_10 + 1)) zw0 w185 h186 H183 (S184.wk2 aN aN)
      exact ih r123_1 r123_2 r123_9 (IntKind.wrap .i64 (r123_10 + 1)) zw0 w126 h127 H124 (S125.wk2 aN aN)
    refine .cq ?_ ?_
    ·refine .as (slices_partialInsertionSortCmpFunc_alarm_Due_alarm_Table_Set_1_l3_ok ?_ k r34_1 r34_2 r34_9 r34_10 (IntKind.wrap .i64 (r34_9 + 1)) a65 w67 h68 H62 (S64.wk2 aN aN))
     ·intro r188_1 r188_2 r188_9 r188_10 zw0 w191 h192 H189 S190
      refine .ext (slices_partialInsertionSortCmpFunc_alarm_Due_a3_6 _ _ _ _ _ _ _ _ _ _) ?_
      exact ih r188_1 r188_2 r188_9 (IntKind.wrap .i64 (r188_10 + 1)) zw0 w191 h192 H189 (S190.wk2 aN aN)
    exact ih r34_1 r34_2 r34_9 (IntKind.wrap .i64 (r34_10 + 1)) a65 w67 h68 H62 (S64.wk2 aN aN)
  exact hE0 zw0 w3 h4 H1 (S2.wk2 aN aN)
theorem slices_partialInsertionSortCmpFunc_alarm_Due_alarm_Table_Set_1_ok (k : Nat) {h : H} {σ : Stamp} (x0 : List T_alarm_Due) {u0 : V} {l0 : Loc} {o0 : Nat} {w0 : List C} (hw0 : WL l0 o0 dT_alarm_Due x0 u0 w0) (ha0 : AtC h l0 o0 w0) (x1 : Int) (x2 : Int) : Sim (p_slices_partialInsertionSortCmpFunc_alarm_Due_alarm_Table_Set_1 k x0 x1 x2) (ev G X0 147 σ [u0,(.p (.int .i64 x1)),(.p (.int .i64 x2)),(.clo 47 [])] h) (fun r s => ∃ (wb0 : List C),WL l0 o0 dT_alarm_Due r.2 u0 wb0∧s = ([.v (.p (.bool r.1))],pts h [⟨l0,o0,wb0⟩])):=by
 refine .ev rfl (Sim.ext (slices_partialInsertionSortCmpFunc_alarm_Due_entry _ _ _ _ _ _ _ _) ?_)
 rw [p_slices_partialInsertionSortCmpFunc_alarm_Due_alarm_Table_Set_1]
 have S0 : Fm 141 h [⟨l0,o0,w0⟩] [] [] (List.replicate 141 []::h):=Fm.start1 ha0
 refine .as (slices_partialInsertionSortCmpFunc_alarm_Due_alarm_Table_Set_1_l0_ok ?_ ?_ k x1 x2 (IntKind.wrap .i64 (x1 + 1)) 0 x0 w0 hw0 (List.replicate 141 []::h) (S0.wk2 aN aN))
 ·intro zw0 w204 h205 H202 S203
  refine .ext (slices_partialInsertionSortCmpFunc_alarm_Due_a0_0 _ _ _ _) ?_
  exact .fin (S203.finN (lC (sB _).lv lN)) ⟨w204,h205,rfl⟩
 ·intro r206_8 zw0 w209 h210 H207 S208
  refine .ext (slices_partialInsertionSortCmpFunc_alarm_Due_a0_ret _ _ _ _ _) ?_
  exact .fin (S208.finN (lC (sB _).lv lN)) ⟨w209,h210,rfl⟩
end
end Go.Ev
namespace Go.Ev
open Go.Proofs
set_option linter.unusedVariables false
set_option linter.unusedSimpArgs false
set_option maxRecDepth 100000
noncomputable section
abbrev KT11:=Exit→Env→H→Option (List C × H)
variable (rec : CallF) (loop : LoopV) (σ : Stamp)
def slices_partitionCmpFunc_alarm_Due_c0 : Code:=(codeAt (bodyOf Try.f149) [1,1,1,0,0,0])
def slices_partitionCmpFunc_alarm_Due_l0 : Lv:=⟨12307,3072,[(0,12307)]⟩
def slices_partitionCmpFunc_alarm_Due_k0 : KT11:=(kBlock 0 (kSeq G rec loop (codeAt (bodyOf Try.f149) [1,1,1,1]) ⟨3072,3072,[]⟩ (1::1::1::0::σ) (finC G false Try.f149 (1::σ))))
def slices_partitionCmpFunc_alarm_Due_c1 : Code:=(codeAt (bodyOf Try.f149) [1,1,1,1,0,0,0])
def slices_partitionCmpFunc_alarm_Due_l1 : Lv:=⟨12307,3072,[(2,12307)]⟩
def slices_partitionCmpFunc_alarm_Due_k1 : KT11:=(kBlock 2 (kSeq G rec loop (codeAt (bodyOf Try.f149) [1,1,1,1,1]) ⟨3072,3072,[]⟩ (1::1::1::1::0::σ) (finC G false Try.f149 (1::σ))))
def slices_partitionCmpFunc_alarm_Due_c2 : Code:=(codeAt (bodyOf Try.f149) [1,1,1,1,1,1,1,1,1,0,0,0])
def slices_partitionCmpFunc_alarm_Due_l2 : Lv:=⟨8195,3072,[(4,8195)]⟩
def slices_partitionCmpFunc_alarm_Due_k2 : KT11:=(kBlock 4 (kSeq G rec loop (codeAt (bodyOf Try.f149) [1,1,1,1,1,1,1,1,1,1]) ⟨3072,3072,[]⟩ (1::1::1::1::1::1::1::1::1::0::σ) (finC G false Try.f149 (1::σ))))
def slices_partitionCmpFunc_alarm_Due_c3 : Code:=(codeAt (bodyOf Try.f149) [1,1,1,1,1,1,1,1,1,0,0,0,0,0,0,0])
def slices_partitionCmpFunc_alarm_Due_l3 : Lv:=⟨12307,3072,[(6,12307),(5,12307),(4,8195)]⟩
def slices_partitionCmpFunc_alarm_Due_k3 : Exit→Env→H→Option (Exit × Env × H):=(kBlock 6 (kSeq G rec loop (codeAt (bodyOf Try.f149) [1,1,1,1,1,1,1,1,1,0,0,0,0,1]) ⟨12307,3072,[(5,12307),(4,8195)]⟩ (0::σ) (kBlock 5 (kRound loop (codeAt (bodyOf Try.f149) [1,1,1,1,1,1,1,1,1,0,0,0]) ⟨8195,3072,[(4,8195)]⟩ σ))))
def slices_partitionCmpFunc_alarm_Due_c4 : Code:=(codeAt (bodyOf Try.f149) [1,1,1,1,1,1,1,1,1,0,0,0,0,1,0,0,0])
def slices_partitionCmpFunc_alarm_Due_l4 : Lv:=⟨12307,3072,[(8,12307),(5,12307),(4,8195)]⟩
def slices_partitionCmpFunc_alarm_Due_k4 : Exit→Env→H→Option (Exit × Env × H):=(kBlock 8 (kSeq G rec loop (codeAt (bodyOf Try.f149) [1,1,1,1,1,1,1,1,1,0,0,0,0,1,1]) ⟨12307,3072,[(5,12307),(4,8195)]⟩ (1::0::σ) (kBlock 5 (kRound loop (codeAt (bodyOf Try.f149) [1,1,1,1,1,1,1,1,1,0,0,0]) ⟨8195,3072,[(4,8195)]⟩ σ))))
theorem slices_partitionCmpFunc_alarm_Due_entry (x0 : V) (x1 : Int) (x2 : Int) (x3 : Int) (x4 : V) (h : H) : cvBody G rec loop 149 σ [x0,(.p (.int .i64 x1)),(.p (.int .i64 x2)),(.p (.int .i64 x3)),x4] h =
(iS 2 x0 x3).bind fun t1 =>
(ldO true 2 (List.replicate 178 []::h) t1).bind fun t2 =>
(iS 2 x0 x1).bind fun t3 =>
(ldO true 2 (List.replicate 178 []::h) t3).bind fun t4 =>
(iS 2 x0 x1).bind fun t5 =>
((stO false 2 (13::0::1::0::σ) (List.replicate 178 []::h) t5 t2).map fun h => (udf,h)).bind fun q6 =>
(iS 2 x0 x3).bind fun t7 =>
((stO false 2 (15::0::1::0::σ) q6.2 t7 t4).map fun h => (udf,h)).bind fun q8 =>
(loop slices_partitionCmpFunc_alarm_Due_c0 slices_partitionCmpFunc_alarm_Due_l0 (0::1::1::1::0::σ) (envL [(0,x0),(1,(.p (.int .i64 x1))),(4,x4),(12,(.p (.int .i64 (IntKind.wrap .i64 (x1 + 1))))),(13,(.p (.int .i64 (IntKind.wrap .i64 (x2 - 1)))))]) q8.2).bind fun r9 => slices_partitionCmpFunc_alarm_Due_k0 rec loop σ r9.1 r9.2.1 r9.2.2:=by kernel_rfl
theorem slices_partitionCmpFunc_alarm_Due_r0 (x0 : V) (x1 : Int) (x4 : V) (x12 : Int) (x13 : Int) (h : H) : cvRound G rec loop slices_partitionCmpFunc_alarm_Due_c0 slices_partitionCmpFunc_alarm_Due_l0 σ (envL [(0,x0),(1,(.p (.int .i64 x1))),(4,x4),(12,(.p (.int .i64 x12))),(13,(.p (.int .i64 x13)))]) h =
(bif decide (x12 ≤ x13) then ((iS 2 x0 x12).bind fun t10 =>
(ldO true 2 h t10).bind fun t11 =>
(iS 2 x0 x1).bind fun t12 =>
(ldO true 2 h t12).bind fun t13 =>
(cloO rec x4 (13::0::0::0::σ) [t11,t13] h (some 45)).bind fun q14 =>
(castI .i64 q14.1).bind fun n15 =>
some ((.p (.bool (decide (n15 < 0)))),q14.2)) else (some ((.p (.bool false)),h))).bind fun q16 =>
(asB q16.1).bind fun b17 =>
bif b17 then (
loop slices_partitionCmpFunc_alarm_Due_c0 slices_partitionCmpFunc_alarm_Due_l0 (1::σ) (envL [(0,x0),(1,(.p (.int .i64 x1))),(4,x4),(12,(.p (.int .i64 (IntKind.wrap .i64 (x12 + 1))))),(13,(.p (.int .i64 x13)))]) q16.2)
else (
some ((.exit 0),(envL [(0,x0),(1,(.p (.int .i64 x1))),(4,x4),(12,(.p (.int .i64 x12))),(13,(.p (.int .i64 x13)))]),q16.2)):=by kernel_rfl
theorem slices_partitionCmpFunc_alarm_Due_a0_0 (x0 : V) (x1 : Int) (x4 : V) (x12 : Int) (x13 : Int) (h : H) : slices_partitionCmpFunc_alarm_Due_k0 rec loop σ (.exit 0) (envL [(0,x0),(1,(.p (.int .i64 x1))),(4,x4),(12,(.p (.int .i64 x12))),(13,(.p (.int .i64 x13)))]) h =
(loop slices_partitionCmpFunc_alarm_Due_c1 slices_partitionCmpFunc_alarm_Due_l1 (0::1::1::1::1::0::σ) (envL [(0,x0),(1,(.p (.int .i64 x1))),(4,x4),(12,(.p (.int .i64 x12))),(13,(.p (.int .i64 x13)))]) h).bind fun r18 => slices_partitionCmpFunc_alarm_Due_k1 rec loop σ r18.1 r18.2.1 r18.2.2:=by kernel_rfl
theorem slices_partitionCmpFunc_alarm_Due_r1 (x0 : V) (x1 : Int) (x4 : V) (x12 : Int) (x13 : Int) (h : H) : cvRound G rec loop slices_partitionCmpFunc_alarm_Due_c1 slices_partitionCmpFunc_alarm_Due_l1 σ (envL [(0,x0),(1,(.p (.int .i64 x1))),(4,x4),(12,(.p (.int .i64 x12))),(13,(.p (.int .i64 x13)))]) h =
(bif decide (x12 ≤ x13) then ((iS 2 x0 x13).bind fun t19 =>
(ldO true 2 h t19).bind fun t20 =>
(iS 2 x0 x1).bind fun t21 =>
(ldO true 2 h t21).bind fun t22 =>
(cloO rec x4 (13::0::0::0::σ) [t20,t22] h (some 63)).bind fun q23 =>
(castI .i64 q23.1).bind fun n24 =>
some ((.p (.bool (!(decide (n24 < 0))))),q23.2)) else (some ((.p (.bool false)),h))).bind fun q25 =>
(asB q25.1).bind fun b26 =>
bif b26 then (
loop slices_partitionCmpFunc_alarm_Due_c1 slices_partitionCmpFunc_alarm_Due_l1 (1::σ) (envL [(0,x0),(1,(.p (.int .i64 x1))),(4,x4),(12,(.p (.int .i64 x12))),(13,(.p (.int .i64 (IntKind.wrap .i64 (x13 - 1)))))]) q25.2)
else (
some ((.exit 2),(envL [(0,x0),(1,(.p (.int .i64 x1))),(4,x4),(12,(.p (.int .i64 x12))),(13,(.p (.int .i64 x13)))]),q25.2)):=by kernel_rfl
theorem slices_partitionCmpFunc_alarm_Due_a1_2 (x0 : V) (x1 : Int) (x4 : V) (x12 : Int) (x13 : Int) (h : H) : slices_partitionCmpFunc_alarm_Due_k1 rec loop σ (.exit 2) (envL [(0,x0),(1,(.p (.int .i64 x1))),(4,x4),(12,(.p (.int .i64 x12))),(13,(.p (.int .i64 x13)))]) h =
bif decide (x12 > x13) then (
(iS 2 x0 x1).bind fun t27 =>
(ldO true 2 h t27).bind fun t28 =>
(iS 2 x0 x13).bind fun t29 =>
(ldO true 2 h t29).bind fun t30 =>
(iS 2 x0 x13).bind fun t31 =>
((stO false 2 (13::0::1::0::1::1::1::1::1::0::σ) h t31 t28).map fun h => (udf,h)).bind fun q32 =>
(iS 2 x0 x1).bind fun t33 =>
((stO false 2 (15::0::1::0::1::1::1::1::1::0::σ) q32.2 t33 t30).map fun h => (udf,h)).bind fun q34 =>
fin false σ q34.2 [(.p (.int .i64 x13)),(.p (.bool true))])
else (
(iS 2 x0 x13).bind fun t35 =>
(ldO true 2 h t35).bind fun t36 =>
(iS 2 x0 x12).bind fun t37 =>
(ldO true 2 h t37).bind fun t38 =>
(iS 2 x0 x12).bind fun t39 =>
((stO false 2 (13::0::1::1::1::1::1::1::0::σ) h t39 t36).map fun h => (udf,h)).bind fun q40 =>
(iS 2 x0 x13).bind fun t41 =>
((stO false 2 (15::0::1::1::1::1::1::1::0::σ) q40.2 t41 t38).map fun h => (udf,h)).bind fun q42 =>
(loop slices_partitionCmpFunc_alarm_Due_c2 slices_partitionCmpFunc_alarm_Due_l2 (0::1::1::1::1::1::1::1::1::1::0::σ) (envL [(0,x0),(1,(.p (.int .i64 x1))),(4,x4),(12,(.p (.int .i64 (IntKind.wrap .i64 (x12 + 1))))),(13,(.p (.int .i64 (IntKind.wrap .i64 (x13 - 1)))))]) q42.2).bind fun r43 => slices_partitionCmpFunc_alarm_Due_k2 rec loop σ r43.1 r43.2.1 r43.2.2):=by kernel_rfl
theorem slices_partitionCmpFunc_alarm_Due_r2 (x0 : V) (x1 : Int) (x4 : V) (x12 : Int) (x13 : Int) (h : H) : cvRound G rec loop slices_partitionCmpFunc_alarm_Due_c2 slices_partitionCmpFunc_alarm_Due_l2 σ (envL [(0,x0),(1,(.p (.int .i64 x1))),(4,x4),(12,(.p (.int .i64 x12))),(13,(.p (.int .i64 x13)))]) h =
(loop slices_partitionCmpFunc_alarm_Due_c3 slices_partitionCmpFunc_alarm_Due_l3 (0::0::σ) (envL [(0,x0),(1,(.p (.int .i64 x1))),(4,x4),(12,(.p (.int .i64 x12))),(13,(.p (.int .i64 x13)))]) h).bind fun r44 => slices_partitionCmpFunc_alarm_Due_k3 rec loop σ r44.1 r44.2.1 r44.2.2:=by kernel_rfl
theorem slices_partitionCmpFunc_alarm_Due_a2_4 (x0 : V) (x1 : Int) (x13 : Int) (h : H) : slices_partitionCmpFunc_alarm_Due_k2 rec loop σ (.exit 4) (envL [(0,x0),(1,(.p (.int .i64 x1))),(13,(.p (.int .i64 x13)))]) h =
(iS 2 x0 x1).bind fun t45 =>
(ldO true 2 h t45).bind fun t46 =>
(iS 2 x0 x13).bind fun t47 =>
(ldO true 2 h t47).bind fun t48 =>
(iS 2 x0 x13).bind fun t49 =>
((stO false 2 (13::0::1::1::1::1::1::1::1::1::1::1::0::σ) h t49 t46).map fun h => (udf,h)).bind fun q50 =>
(iS 2 x0 x1).bind fun t51 =>
((stO false 2 (15::0::1::1::1::1::1::1::1::1::1::1::0::σ) q50.2 t51 t48).map fun h => (udf,h)).bind fun q52 =>
fin false σ q52.2 [(.p (.int .i64 x13)),(.p (.bool false))]:=by kernel_rfl
theorem slices_partitionCmpFunc_alarm_Due_r3 (x0 : V) (x1 : Int) (x4 : V) (x12 : Int) (x13 : Int) (h : H) : cvRound G rec loop slices_partitionCmpFunc_alarm_Due_c3 slices_partitionCmpFunc_alarm_Due_l3 σ (envL [(0,x0),(1,(.p (.int .i64 x1))),(4,x4),(12,(.p (.int .i64 x12))),(13,(.p (.int .i64 x13)))]) h =
(bif decide (x12 ≤ x13) then ((iS 2 x0 x12).bind fun t53 =>
(ldO true 2 h t53).bind fun t54 =>
(iS 2 x0 x1).bind fun t55 =>
(ldO true 2 h t55).bind fun t56 =>
(cloO rec x4 (13::0::0::0::σ) [t54,t56] h (some 118)).bind fun q57 =>
(castI .i64 q57.1).bind fun n58 =>
some ((.p (.bool (decide (n58 < 0)))),q57.2)) else (some ((.p (.bool false)),h))).bind fun q59 =>
(asB q59.1).bind fun b60 =>
bif b60 then (
loop slices_partitionCmpFunc_alarm_Due_c3 slices_partitionCmpFunc_alarm_Due_l3 (1::σ) (envL [(0,x0),(1,(.p (.int .i64 x1))),(4,x4),(12,(.p (.int .i64 (IntKind.wrap .i64 (x12 + 1))))),(13,(.p (.int .i64 x13)))]) q59.2)
else (
some ((.exit 6),(envL [(0,x0),(1,(.p (.int .i64 x1))),(4,x4),(12,(.p (.int .i64 x12))),(13,(.p (.int .i64 x13)))]),q59.2)):=by kernel_rfl
theorem slices_partitionCmpFunc_alarm_Due_a3_6 (x0 : V) (x1 : Int) (x4 : V) (x12 : Int) (x13 : Int) (h : H) : slices_partitionCmpFunc_alarm_Due_k3 rec loop σ (.exit 6) (envL [(0,x0),(1,(.p (.int .i64 x1))),(4,x4),(12,(.p (.int .i64 x12))),(13,(.p (.int .i64 x13)))]) h =
(loop slices_partitionCmpFunc_alarm_Due_c4 slices_partitionCmpFunc_alarm_Due_l4 (0::1::0::σ) (envL [(0,x0),(1,(.p (.int .i64 x1))),(4,x4),(12,(.p (.int .i64 x12))),(13,(.p (.int .i64 x13)))]) h).bind fun r61 => slices_partitionCmpFunc_alarm_Due_k4 rec loop σ r61.1 r61.2.1 r61.2.2:=by kernel_rfl
theorem slices_partitionCmpFunc_alarm_Due_r4 (x0 : V) (x1 : Int) (x4 : V) (x12 : Int) (x13 : Int) (h : H) : cvRound G rec loop slices_partitionCmpFunc_alarm_Due_c4 slices_partitionCmpFunc_alarm_Due_l4 σ (envL [(0,x0),(1,(.p (.int .i64 x1))),(4,x4),(12,(.p (.int .i64 x12))),(13,(.p (.int .i64 x13)))]) h =
(bif decide (x12 ≤ x13) then ((iS 2 x0 x13).bind fun t62 =>
(ldO true 2 h t62).bind fun t63 =>
(iS 2 x0 x1).bind fun t64 =>
(ldO true 2 h t64).bind fun t65 =>
(cloO rec x4 (13::0::0::0::σ) [t63,t65] h (some 136)).bind fun q66 =>
(castI .i64 q66.1).bind fun n67 =>
some ((.p (.bool (!(decide (n67 < 0))))),q66.2)) else (some ((.p (.bool false)),h))).bind fun q68 =>
(asB q68.1).bind fun b69 =>
bif b69 then (
loop slices_partitionCmpFunc_alarm_Due_c4 slices_partitionCmpFunc_alarm_Due_l4 (1::σ) (envL [(0,x0),(1,(.p (.int .i64 x1))),(4,x4),(12,(.p (.int .i64 x12))),(13,(.p (.int .i64 (IntKind.wrap .i64 (x13 - 1)))))]) q68.2)
else (
some ((.exit 8),(envL [(0,x0),(1,(.p (.int .i64 x1))),(4,x4),(12,(.p (.int .i64 x12))),(13,(.p (.int .i64 x13)))]),q68.2)):=by kernel_rfl
theorem slices_partitionCmpFunc_alarm_Due_a4_8 (x0 : V) (x1 : Int) (x4 : V) (x12 : Int) (x13 : Int) (h : H) : slices_partitionCmpFunc_alarm_Due_k4 rec loop σ (.exit 8) (envL [(0,x0),(1,(.p (.int .i64 x1))),(4,x4),(12,(.p (.int .i64 x12))),(13,(.p (.int .i64 x13)))]) h =
bif decide (x12 > x13) then (
some ((.exit 4),(envL [(0,x0),(1,(.p (.int .i64 x1))),(13,(.p (.int .i64 x13)))]),h))
else (
(iS 2 x0 x13).bind fun t70 =>
(ldO true 2 h t70).bind fun t71 =>
(iS 2 x0 x12).bind fun t72 =>
(ldO true 2 h t72).bind fun t73 =>
(iS 2 x0 x12).bind fun t74 =>
((stO false 2 (13::0::1::1::1::0::σ) h t74 t71).map fun h => (udf,h)).bind fun q75 =>
(iS 2 x0 x13).bind fun t76 =>
((stO false 2 (15::0::1::1::1::0::σ) q75.2 t76 t73).map fun h => (udf,h)).bind fun q77 =>
loop slices_partitionCmpFunc_alarm_Due_c2 slices_partitionCmpFunc_alarm_Due_l2 (1::σ) (envL [(0,x0),(1,(.p (.int .i64 x1))),(4,x4),(12,(.p (.int .i64 (IntKind.wrap .i64 (x12 + 1))))),(13,(.p (.int .i64 (IntKind.wrap .i64 (x13 - 1)))))]) q77.2):=by kernel_rfl
end
end Go.Ev
