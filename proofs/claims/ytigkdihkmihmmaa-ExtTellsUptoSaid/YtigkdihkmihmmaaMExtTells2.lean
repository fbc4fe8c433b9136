/- A part of the proof that follows: Extensions are written, and read, as the document says: for any elements, any bytes, where what is read is of bulk at most 1048576. -/
import Derived.Test.YtigkdihkmihmmaaMExtTells1
import Derived.OpenShut
import Derived.SizedLaws
import Derived.Laws.RangeAny
import Derived.Laws.Runes
import Derived.Test.YtigkdihkmihmmaaRows
import Derived.ProofKit
import Derived.Tactics
import Derived.Tactics2
import Derived.StillTactics
import Derived.LoopTactic
import Derived.WalkKit
import Derived.Laws.Concat
import Derived.Laws.Strings
import Derived.Laws.Cover4
import Derived.OwnWalk
import Derived.Laws.AppendOwn
/- Arguments of any data type: what the world holds, as plain values. -/
namespace Go.Ev
open Go.RowKit (Below)
set_option linter.unusedVariables false
/-- A data type. -/
inductive DT where
  | int (k : IntKind)
  | bool
  | str
  | slice (bytes : Nat) (t : DT)
  | strct (t : DT)
  | unit
  | pair (a b : DT)
@[reducible] def DT.D : DT → Type
  | .int _ => Int
  | .bool => Bool
  | .str => ByteArray
  | .slice _ t => Option (List t.D)
  | .strct t => t.D
  | .unit => Unit
  | .pair a b => a.D × b.D
def DT.size : DT → Nat
  | .int _ | .bool | .str | .slice _ _ => 1
  | .strct t => t.size
  | .unit => 0
  | .pair a b => a.size + b.size
def DT.cells : (t : DT) → t.D → List V
  | .int k, n => [.p (.int k n)]
  | .bool, b => [.p (.bool b)]
  | .str, s => [.p (.string s)]
  | .slice _ _, none => [.p (.slice none 0 0)]
  | .slice _ t, some l => [.fz (l.flatMap t.cells) l.length t.size false]
  | .strct t, x => t.cells x
  | .unit, _ => []
  | .pair a b, x => a.cells x.1 ++ b.cells x.2
def DT.okM (M : Nat) : (t : DT) → t.D → Prop
  | .int k, n => (Lit.int k n).wf = true
  | .bool, _ => True
  | .str, s => s.size ≤ M
  | .slice _ _, none => True
  | .slice b t, some l => l.length * b ≤ M ∧ ∀ x ∈ l, DT.okM M t x
  | .strct t, x => DT.okM M t x
  | .unit, _ => True
  | .pair a b, x => DT.okM M a x.1 ∧ DT.okM M b x.2
abbrev DT.ok (t : DT) (x : t.D) : Prop := DT.okM reachBytes t x
theorem DT.cells_length : ∀ (t : DT) (x : t.D), (t.cells x).length = t.size
  | .int _, _ => rfl
  | .bool, _ => rfl
  | .str, _ => rfl
  | .slice _ _, none => rfl
  | .slice _ _, some _ => rfl
  | .strct t, x => DT.cells_length t x
  | .unit, _ => rfl
  | .pair a b, x => by simp only [DT.cells, DT.size, List.length_append, DT.cells_length a x.1, DT.cells_length b x.2]
mutual
/-- The type has this form. -/
def fit (P : Program) : DT → TypeId → Bool
  | .int k, t => (match P.underlying t with | some (.int k') => decide (k' = k) | _ => false) && P.cellsOf t == 1
  | .bool, t => (match P.underlying t with | some .bool => true | _ => false) && P.cellsOf t == 1
  | .str, t => (match P.underlying t with | some .string => true | _ => false) && P.cellsOf t == 1
  | .slice b d, t => (match P.underlying t with | some (.slice e) => fit P d e && (P.bytesOf e == b && d.size != 0) | _ => false) && P.cellsOf t == 1
  | .strct d, t => match P.underlying t with | some (.struct fs) => fitF P d 0 fs.toList && P.cellsOf t == d.size | _ => false
  | .unit, _ => false
  | .pair _ _, _ => false
def fitF (P : Program) : DT → Nat → List Field → Bool
  | .unit, _, [] => true
  | .pair a b, o, f :: fs => f.offset == o && (fit P a f.type && fitF P b (o + a.size) fs)
  | _, _, _ => false
end
theorem fit_cells {P : Program} : ∀ {d : DT} {t : TypeId}, fit P d t = true → P.cellsOf t = d.size
  | .int _, _, h => by simp only [fit, Bool.and_eq_true, beq_iff_eq] at h; exact h.2
  | .bool, _, h => by simp only [fit, Bool.and_eq_true, beq_iff_eq] at h; exact h.2
  | .str, _, h => by simp only [fit, Bool.and_eq_true, beq_iff_eq] at h; exact h.2
  | .slice _ _, _, h => by simp only [fit, Bool.and_eq_true, beq_iff_eq] at h; exact h.2
  | .strct _, _, h => by
    simp only [fit] at h
    split at h
    · simp only [Bool.and_eq_true, beq_iff_eq] at h; exact h.2
    · cases h
section
variable {M : Nat} {H : Type} {enc : TypeId × Value → H} {P : Program} {w : World} {base : Nat} {spare : Nat → Bool} {held : Bool}
theorem spot_none {a : Addr} {v : Value} (h : w.cell? a = some v) : a.spot = none := by
  unfold World.cell? at h
  split at h
  · split at h
    · cases h
    · rename_i hs; simpa using hs
  · cases h
theorem weightsAll_mem {e : TypeId} : ∀ {l : List (DataW H)} {d : DataW H}, d ∈ l → ∀ n ∈ d.weights P e, n ∈ DataW.weightsAll P e l
  | d0 :: l, d, hd, n, hn => by
    simp only [DataW.weightsAll, List.mem_append]
    rcases List.mem_cons.1 hd with rfl | h
    · exact .inl hn
    · exact .inr (weightsAll_mem h n hn)
theorem add_add (a : Addr) (i j : Nat) : (a.add i).add j = a.add (i + j) := by
  unfold Addr.add
  split
  · rename_i h; subst h; simp
  · split
    · rename_i h; subst h; simp [*]
    · rw [if_neg (by omega)]; simp [Nat.add_assoc]
mutual
theorem read_ok : ∀ (d : DT) {t : TypeId} {fuel : Nat} {cs : List Value} {x : DataW H × List MemPlace}, fit P d t = true → DataW.trod enc P w base spare held fuel t cs = some x → (∀ n ∈ x.1.weights P t, n ≤ M) →
    ∃ v : d.D, DT.okM M d v ∧ RVs (ofWorld w) (d.cells v) cs
  | .int k, t, fuel, cs, x, hf, h, hw => by
    simp only [fit, Bool.and_eq_true] at hf
    have hu : P.underlying t = some (.int k) := by
      have := hf.1; split at this
      · rename_i k' hk; simp only [decide_eq_true_eq] at this; rw [hk, this]
      · cases this
    obtain ⟨n, rfl, rfl, hwf⟩ := DataW.trod_int hu h
    exact ⟨n, hwf, .cons (.p _) .nil⟩
  | .bool, t, fuel, cs, x, hf, h, hw => by
    simp only [fit, Bool.and_eq_true] at hf
    have hu : P.underlying t = some .bool := by
      have := hf.1; split at this
      · assumption
      · cases this
    obtain ⟨b, rfl, rfl⟩ := DataW.trod_bool hu h
    exact ⟨b, trivial, .cons (.p _) .nil⟩
  | .str, t, fuel, cs, x, hf, h, hw => by
    simp only [fit, Bool.and_eq_true] at hf
    have hu : P.underlying t = some .string := by
      have := hf.1; split at this
      · assumption
      · cases this
    obtain ⟨s, rfl, rfl, hm⟩ := DataW.trod_string hu h
    refine ⟨s, ?_, .cons (.p _) .nil⟩
    have := hw s.data.toList.length (by simp [DataW.weights])
    rw [Array.length_toList] at this
    exact this
  | .slice b d, t, fuel, cs, x, hf, h, hw => by
    simp only [fit, Bool.and_eq_true] at hf
    obtain ⟨hf, hc1⟩ := hf
    split at hf
    · rename_i e hu
      simp only [Bool.and_eq_true, beq_iff_eq, bne_iff_ne, ne_eq] at hf
      obtain ⟨hfe, hb, hsz⟩ := hf
      have hce := fit_cells hfe
      rcases DataW.trod_slice hu h with ⟨rfl, rfl⟩ | ⟨a, len, cap, elems, rest, n, _, rfl, rfl, hbs, hl, hm, hlen, hel, _, _⟩
      · exact ⟨none, trivial, .cons (.p _) .nil⟩
      have hw1 : ∀ y ∈ elems, ∀ n ∈ y.1.weights P e, n ≤ M := fun y hy n hn => hw n (by
        simp only [DataW.weights, hu, List.mem_cons, List.mem_append]
        exact .inr (.inl (weightsAll_mem (List.mem_map_of_mem hy) n hn)))
      have each : ∀ i (y : DataW H × List MemPlace), elems[i]? = some y → ∃ v : d.D, DT.okM M d v ∧ ∀ j x, (d.cells v)[j]? = some x → ∃ u, w.cell? (a.add (i * d.size + j)) = some u ∧ RV (ofWorld w) x u := fun i y hy => by
        have hi : i < len := by rw [← hlen]; exact (List.getElem?_eq_some_iff.1 hy).1
        have h1 := hel i hi
        rw [hy, Option.bind_eq_some_iff] at h1
        obtain ⟨cs', h2, h3⟩ := h1
        obtain ⟨v, hv, hr⟩ := read_ok d hfe h3 (hw1 y (List.mem_of_getElem? hy))
        refine ⟨v, hv, fun j x hx => ?_⟩
        obtain ⟨u, hu1, hu2⟩ := hr.get hx
        obtain ⟨_, hl2, hcell⟩ := World.cells?_some h2
        have hj : j < P.cellsOf e := by rw [← hl2]; exact (List.getElem?_eq_some_iff.1 hu1).1
        refine ⟨u, ?_, hu2⟩
        rw [← add_add, ← hce]
        exact (hcell j hj).trans hu1
      have list : ∀ (es : List (DataW H × List MemPlace)) (i0 : Nat), (∀ i y, es[i]? = some y → elems[i0 + i]? = some y) →
          ∃ l : List d.D, l.length = es.length ∧ (∀ v ∈ l, DT.okM M d v) ∧ ∀ j x, (l.flatMap d.cells)[j]? = some x → ∃ u, w.cell? (a.add (i0 * d.size + j)) = some u ∧ RV (ofWorld w) x u := by
        intro es
        induction es with
        | nil => intro i0 _; exact ⟨[], rfl, by simp, by simp⟩
        | cons y es ih =>
          intro i0 hes
          obtain ⟨v, hv, hc⟩ := each i0 y (by simpa using hes 0 y rfl)
          obtain ⟨l, h1, h2, h3⟩ := ih (i0 + 1) fun i y hy => by
            have := hes (i + 1) y (by simpa using hy)
            rwa [show i0 + (i + 1) = i0 + 1 + i by omega] at this
          refine ⟨v :: l, by simp [h1], fun x hx => ?_, fun j x hx => ?_⟩
          · rcases List.mem_cons.1 hx with rfl | hx
            · exact hv
            · exact h2 x hx
          · rw [List.flatMap_cons, List.getElem?_append] at hx
            split at hx
            · exact hc j x hx
            · rename_i hj
              rw [DT.cells_length] at hj hx
              obtain ⟨u, hu1, hu2⟩ := h3 _ x hx
              refine ⟨u, ?_, hu2⟩
              rw [← hu1, Nat.succ_mul]
              congr 2
              omega
      obtain ⟨l, h1, h2, h3⟩ := list elems 0 (fun i y hy => by simpa using hy)
      rw [hlen] at h1
      have hflat : (l.flatMap d.cells).length = len * d.size := by rw [flat_length d.cells_length, h1]
      refine ⟨some l, ⟨?_, h2⟩, .cons ?_ .nil⟩
      · have := hw _ (by simp only [DataW.weights, hu, List.mem_cons]; exact .inl rfl)
        rw [List.length_map, hlen, hb] at this
        rw [h1]
        exact Nat.le_trans (Nat.mul_le_mul_right _ (Nat.le_add_right _ _)) this
      · rw [h1]
        by_cases h0 : len = 0
        · subst h0
          have : l = [] := by simpa using h1
          subst this
          exact .fz0 (by simp)
        · have hpos : 0 < (l.flatMap d.cells).length := by rw [hflat]; exact Nat.mul_pos (by omega) (by omega)
          obtain ⟨u, hu1, _⟩ := h3 0 _ (List.getElem?_eq_getElem hpos)
          have hs : a.spot = none := spot_none (a := a) (v := u) (by simpa [Addr.add] using hu1)
          exact rv_cells hs hl hsz hflat fun j x hx => by simpa using h3 j x hx
    · cases hf
  | .strct d, t, fuel, cs, x, hf, h, hw => by
    simp only [fit] at hf
    split at hf
    · rename_i fs hu
      simp only [Bool.and_eq_true, beq_iff_eq] at hf
      obtain ⟨xs, n, _, rfl, hlen, hxs, hfs⟩ := DataW.trod_struct hu h
      have hw' : ∀ n ∈ DataW.weightsEach P (fs.toList.map (·.type)) (xs.map (·.1)), n ≤ M := fun n hn => hw n (by simpa only [DataW.weights, hu] using hn)
      obtain ⟨v, hv, hr⟩ := read_fields d (n := n) (cs := cs) (o := 0) hf.1 (by simpa using hxs) (fun i f hf => hfs i f (by simpa using hf)) (by rw [hlen, hf.2]; omega) hw'
      rw [List.drop_zero] at hr
      exact ⟨v, hv, hr⟩
    · cases hf
theorem read_fields : ∀ (d : DT) {fs : List Field} {n o : Nat} {cs : List Value} {xs : List (DataW H × List MemPlace)}, fitF P d o fs = true → xs.length = fs.length →
    (∀ (i : Nat) (f : Field), fs[i]? = some f → DataW.trod enc P w base spare held n f.type ((cs.drop f.offset).take (P.cellsOf f.type)) = xs[i]?) → cs.length = o + d.size →
    (∀ n ∈ DataW.weightsEach P (fs.map (·.type)) (xs.map (·.1)), n ≤ M) → ∃ v : d.D, DT.okM M d v ∧ RVs (ofWorld w) (d.cells v) (cs.drop o)
  | .unit, [], n, o, cs, xs, hf, hl, h, hc, hw => ⟨(), trivial, by
      simp only [DT.size, Nat.add_zero] at hc
      rw [List.drop_of_length_le (by omega)]; exact .nil⟩
  | .pair a b, f :: fs, n, o, cs, x :: xs, hf, hl, h, hc, hw => by
    simp only [fitF, Bool.and_eq_true, beq_iff_eq] at hf
    obtain ⟨ho, hfa, hfb⟩ := hf
    simp only [List.map_cons, DataW.weightsEach, List.mem_append] at hw
    have h0 := h 0 f rfl
    simp only [List.getElem?_cons_zero] at h0
    obtain ⟨v, hv, hr⟩ := read_ok a hfa h0 (fun n hn => hw n (.inl hn))
    obtain ⟨u, hu, hq⟩ := read_fields b (n := n) (cs := cs) (xs := xs) hfb (by simpa using hl) (fun i f hf => by simpa using h (i + 1) f (by simpa using hf)) (by simp only [DT.size] at hc; omega) (fun n hn => hw n (.inr hn))
    refine ⟨(v, u), ⟨hv, hu⟩, ?_⟩
    rw [ho, fit_cells hfa] at hr
    have e : cs.drop o = (cs.drop o).take a.size ++ cs.drop (o + a.size) := by rw [← List.drop_drop, List.take_append_drop]
    rw [e]
    exact hr.append hq
  | .pair _ _, _ :: _, _, _, _, [], _, hl, _, _, _ => by simp at hl
end
end
end Go.Ev
namespace Go.Ev
/-- An argument. -/
def DT.val : (t : DT) → t.D → V
  | .strct t, x => .agg (t.cells x)
  | .int k, n => .p (.int k n)
  | .bool, b => .p (.bool b)
  | .str, s => .p (.string s)
  | .slice _ _, none => .p (.slice none 0 0)
  | .slice _ t, some l => .fz (l.flatMap t.cells) l.length t.size false
  | .unit, _ => udf
  | .pair _ _, _ => udf
theorem RVs.one {ι : Inj} {x : V} {v : Value} (h : RVs ι [x] [v]) : RV ι x v := by cases h; assumption
theorem read_arg {M : Nat} {H : Type} {enc : TypeId × Value → H} {P : Program} {w : World} {base b0 : Nat} {spare : Nat → Bool} {held : Bool} {d : DT} {t : TypeId} {v : Value} {dd : DataW H} {ps : List MemPlace}
    (hf : fit P d t = true) (hok : Value.okWide P w .any b0 t v) (h : DataW.Trod enc P w base spare held t v dd ps) (hw : ∀ n ∈ dd.weights P t, n ≤ M) : ∃ x : d.D, DT.okM M d x ∧ RV (ofWorld w) (d.val x) v := by
  obtain ⟨fuel, h⟩ := h
  obtain ⟨x, hx, hr⟩ := read_ok d hf h hw
  refine ⟨x, hx, ?_⟩
  cases d with
  | int k =>
    simp only [fit, Bool.and_eq_true] at hf
    have := hf.1; split at this
    · rename_i k' hu
      obtain ⟨n, rfl⟩ := WideShapes.okWide_int hu hok
      exact hr.one
    · cases this
  | bool =>
    simp only [fit, Bool.and_eq_true] at hf
    have := hf.1; split at this
    · rename_i hu
      obtain ⟨n, rfl⟩ := WideShapes.okWide_bool hu hok
      exact hr.one
    · cases this
  | str =>
    simp only [fit, Bool.and_eq_true] at hf
    have := hf.1; split at this
    · rename_i hu
      obtain ⟨n, rfl⟩ := WideShapes.okWide_string hu hok
      exact hr.one
    · cases this
  | slice b d =>
    simp only [fit, Bool.and_eq_true] at hf
    have := hf.1; split at this
    · rename_i e hu
      obtain ⟨a, len, cap, rfl⟩ := WideShapes.okWide_slice hu hok
      cases x with
      | none => exact hr.one
      | some l => exact hr.one
    · cases this
  | strct d =>
    simp only [fit] at hf
    split at hf
    · rename_i fs hu
      obtain ⟨cs, rfl, _⟩ := WideShapes.okWide_struct hu hok
      exact .agg hr
    · cases hf
  | unit => simp [fit] at hf
  | pair a b => simp [fit] at hf
/-- A slice as an argument. -/
theorem isSl_val {b : Nat} {t : DT} (x : Option (List t.D)) (h : H) : IsSl h ((DT.slice b t).val x) t.size (x.getD []).length ((x.getD []).flatMap t.cells) := by
  cases x with
  | none => exact IsSl.nil h _
  | some l => exact ⟨rfl, rfl, rfl, by simp [flat_length t.cells_length], rfl⟩
end Go.Ev
/- Runs against plain functions: what a plain function answers, a run answers. Plain data in cells. -/
namespace Go.Ev
set_option linter.unusedVariables false
/-- What x answers, y answers too, as Q says. -/
def Sim {β α : Type} (x : Option β) (y : Option α) (Q : β → α → Prop) : Prop := ∀ r, x = some r → ∃ s, y = some s ∧ Q r s
section
variable {β α γ δ ε : Type} {x : Option β} {y : Option α} {Q : β → α → Prop} {K : δ → Option α}
theorem Sim.no : Sim (none : Option β) y Q := fun r h => by cases h
theorem Sim.op {o : Option γ} {v : γ} {g : γ → Option δ} (e : o = some v) (s : Sim x ((g v).bind K) Q) : Sim x ((o.bind g).bind K) Q := by rw [e]; exact s
theorem Sim.bd {X : Option γ} {f : γ → Option β} (s : ∀ a, X = some a → Sim (f a) y Q) : Sim (X.bind f) y Q := by
  intro r hr; obtain ⟨a, h1, h2⟩ := Option.bind_eq_some_iff.1 hr; exact s a h1 r h2
theorem Sim.cd {c : Bool} {a b : Option β} {A B : Option δ} (s : c = true → Sim a (A.bind K) Q) (t : c = false → Sim b (B.bind K) Q) : Sim (bif c then a else b) ((bif c then A else B).bind K) Q := by
  cases c
  · exact t rfl
  · exact s rfl
theorem Sim.nd {P : Prop} {Y : Option δ} (p : P) (s : Sim x (Y.bind K) Q) : Sim x ((need P Y).bind K) Q := by rw [need, if_pos p]; exact s
theorem Sim.ch {X : Option γ} {Y : Option ε} {P : γ → ε → Prop} {f : γ → Option β} {g : ε → Option δ} (e : Sim X (Y.bind some) P) (s : ∀ r y, X = some r → P r y → Sim (f r) ((g y).bind K) Q) : Sim (X.bind f) ((Y.bind g).bind K) Q := by
  intro r hr
  obtain ⟨a, h1, h2⟩ := Option.bind_eq_some_iff.1 hr
  obtain ⟨b, q1, q2⟩ := e a h1
  have : Y = some b := by
    cases Y with
    | none => cases q1
    | some y => exact q1
  rw [this]
  exact s a b h1 q2 r h2
/-- A call, by what is told of it. -/
theorem Sim.call {rec : CallF} {f : FuncId} {σ : Stamp} {args : List V} {H : Go.Ev.H} {d : Option Nat} {X : Option γ} {P : γ → List C × Go.Ev.H → Prop} {F : γ → Option β} {g : V × Go.Ev.H → Option δ}
    (hc : Sim X (rec f σ args H) P) (s : ∀ r cs h', X = some r → P r (cs, h') → Sim (F r) ((g (land h' d cs)).bind K) Q) : Sim (X.bind F) (((callO rec f σ args H d).bind g).bind K) Q := by
  intro r hr
  obtain ⟨a, h1, h2⟩ := Option.bind_eq_some_iff.1 hr
  obtain ⟨⟨cs, h'⟩, q1, q2⟩ := hc a h1
  unfold callO
  rw [q1]
  exact s a cs h' h1 q2 r h2
theorem Sim.ret {r : β} {v : δ} {s : α} (h : K v = some s) (q : Q r s) : Sim (some r) ((some v).bind K) Q := fun r' hr => by
  cases hr; exact ⟨s, h, q⟩
theorem Sim.told {r : β} {o : Option α} {s : α} (h : o = some s) {Q : β → α → Prop} (q : Q r s := by exact rfl) : Sim (some r) o Q := fun r' hr => by
  cases hr; exact ⟨s, h, q⟩
theorem Sim.fin {r : β} {o : Option α} {s : α} (h : o = some s) (q : Q r s) : Sim (some r) (o.bind some) Q := fun r' hr => by
  cases hr; exact ⟨s, by rw [h]; rfl, q⟩
theorem Sim.mono {P : β → α → Prop} (h : Sim x y P) (hq : ∀ r s, P r s → Q r s) : Sim x y Q := fun r hr => by
  obtain ⟨s, q1, q2⟩ := h r hr; exact ⟨s, q1, hq r s q2⟩
theorem Sim.ev {G : Cfg} {X : CallF} {f : FuncId} {σ : Stamp} {a : List V} {h : H} {Q : β → List C × H → Prop} (hX : X f σ a h = none) (s : Sim x ((cvBody G (ev G X) (cvL G X) f σ a h).bind some) Q) : Sim x (Ev.ev G X f σ a h) Q := by
  intro r hr
  obtain ⟨s, q1, q2⟩ := s r hr
  exact ⟨s, ev_cv hX (by rw [← q1]; cases cvBody G (Ev.ev G X) (cvL G X) f σ a h <;> rfl), q2⟩
theorem Sim.round {G : Cfg} {X : CallF} {c : Code} {l : Lv} {σ : Stamp} {e : Env} {h : H} {K : Exit × Env × H → Option α} (s : Sim x ((cvRound G (Ev.ev G X) (cvL G X) c l σ e h).bind K) Q) : Sim x ((cvL G X c l σ e h).bind K) Q := by
  intro r hr
  obtain ⟨s, q1, q2⟩ := s r hr
  obtain ⟨b, q3, q4⟩ := Option.bind_eq_some_iff.1 q1
  exact ⟨s, by rw [cvL_round q3]; exact q4, q2⟩
theorem Sim.get {r : β} {y : α} (h : Sim x (Option.some y) Q) (hx : x = Option.some r) : Q r y := by
  obtain ⟨s, q1, q2⟩ := h r hx
  cases q1; exact q2
end

/-! ### Plain data in cells -/
structure Dt (α : Type) where
  sz : Nat
  R : α → List V → Prop
  len : ∀ {a vs}, R a vs → vs.length = sz
  still : ∀ {a vs}, R a vs → Stills vs
def RL {α β : Type} (R : α → List β → Prop) : List α → List β → Prop
  | [], cs => cs = []
  | x :: xs, cs => ∃ a b, cs = a ++ b ∧ R x a ∧ RL R xs b
section
variable {α β : Type} {R : α → List β → Prop} {k : Nat}
theorem RL.length (hk : ∀ {a vs}, R a vs → vs.length = k) : ∀ {xs : List α} {cs : List β}, RL R xs cs → cs.length = xs.length * k
  | [], cs, h => by simp only [RL] at h; simp [h]
  | x :: xs, cs, ⟨a, b, h1, h2, h3⟩ => by rw [h1, List.length_append, hk h2, h3.length hk, List.length_cons, Nat.succ_mul, Nat.add_comm]
theorem app_drop {a b : List β} {m : Nat} (h : a.length = k) : (a ++ b).drop (k + m) = b.drop m := by subst h; rw [← List.drop_drop]; simp
theorem app_take {a b : List β} {m : Nat} (h : a.length = k) : (a ++ b).take (k + m) = a ++ b.take m := by rw [List.take_append, List.take_of_length_le (by omega)]; simp [h]
theorem RL.nil : RL R [] [] := rfl
theorem RL.cons {x : α} {xs : List α} {a b : List β} (h : R x a) (t : RL R xs b) : RL R (x :: xs) (a ++ b) := ⟨a, b, rfl, h, t⟩
theorem RL.one {x : α} {a : List β} (h : R x a) : RL R [x] a := ⟨a, [], by simp, h, rfl⟩
theorem RL.append : ∀ {xs ys : List α} {a b : List β}, RL R xs a → RL R ys b → RL R (xs ++ ys) (a ++ b)
  | [], ys, a, b, h, t => by simp only [RL] at h; subst h; exact t
  | x :: xs, ys, a, b, ⟨u, w, h1, h2, h3⟩, t => ⟨u, w ++ b, by rw [h1, List.append_assoc], h2, h3.append t⟩
theorem RL.drop (hk : ∀ {a vs}, R a vs → vs.length = k) : ∀ {xs : List α} {cs : List β} (i : Nat), RL R xs cs → RL R (xs.drop i) (cs.drop (i * k))
  | [], cs, i, h => by simp only [RL] at h; subst h; simp [RL]
  | x :: xs, cs, 0, h => by simpa using h
  | x :: xs, cs, i + 1, ⟨a, b, h1, h2, h3⟩ => by
    subst h1
    rw [Nat.succ_mul, Nat.add_comm (i * k), app_drop (hk h2)]
    exact h3.drop hk i
theorem RL.take (hk : ∀ {a vs}, R a vs → vs.length = k) : ∀ {xs : List α} {cs : List β} (i : Nat), RL R xs cs → RL R (xs.take i) (cs.take (i * k))
  | [], cs, i, h => by simp only [RL] at h; subst h; simp [RL]
  | x :: xs, cs, 0, h => by simp [RL]
  | x :: xs, cs, i + 1, ⟨a, b, h1, h2, h3⟩ => by
    subst h1
    rw [List.take_succ_cons, Nat.succ_mul, Nat.add_comm (i * k), app_take (hk h2)]
    exact .cons h2 (h3.take hk i)
theorem RL.get (hk : ∀ {a vs}, R a vs → vs.length = k) {xs : List α} {cs : List β} (h : RL R xs cs) {i : Nat} (hi : i < xs.length) : ∃ ws, R xs[i] ws ∧ (cs.drop (i * k)).take k = ws := by
  have h1 := h.drop hk i
  rw [List.drop_eq_getElem_cons hi] at h1
  obtain ⟨a, b, h2, h3, _⟩ := h1
  refine ⟨a, h3, ?_⟩
  rw [h2, List.take_append_of_le_length (by rw [hk h3]; omega), List.take_of_length_le (by rw [hk h3]; omega)]
theorem RL.set (hk : ∀ {a vs}, R a vs → vs.length = k) : ∀ {xs : List α} {cs : List β} {i : Nat} {y : α} {ws : List β}, RL R xs cs → i < xs.length → R y ws → RL R (xs.set i y) (cs.take (i * k) ++ ws ++ cs.drop (i * k + k))
  | [], _, i, _, _, _, hi, _ => by simp at hi
  | x :: xs, cs, 0, y, ws, ⟨a, b, h1, h2, h3⟩, hi, hy => by
    subst h1
    have := app_drop (b := b) (m := 0) (hk h2)
    rw [Nat.zero_mul, List.take_zero, List.nil_append, Nat.zero_add, show k = k + 0 from rfl, this, List.drop_zero]
    exact .cons hy h3
  | x :: xs, cs, i + 1, y, ws, ⟨a, b, h1, h2, h3⟩, hi, hy => by
    subst h1
    have := h3.set hk (by simpa using hi) hy
    rw [List.set_cons_succ]
    have e1 : (a ++ b).take ((i + 1) * k) = a ++ b.take (i * k) := by
      rw [Nat.succ_mul, Nat.add_comm (i * k), app_take (hk h2)]
    have e2 : (a ++ b).drop ((i + 1) * k + k) = b.drop (i * k + k) := by
      rw [Nat.succ_mul, show i * k + k + k = k + (i * k + k) by omega, app_drop (hk h2)]
    rw [e1, e2, List.append_assoc, List.append_assoc]
    exact .cons h2 (by simpa using this)
theorem RL.all {P : β → Prop} (hp : ∀ {a vs}, R a vs → ∀ v ∈ vs, P v) : ∀ {xs : List α} {cs : List β}, RL R xs cs → ∀ v ∈ cs, P v
  | [], cs, h, v, hv => by simp only [RL] at h; subst h; cases hv
  | x :: xs, cs, ⟨a, b, h1, h2, h3⟩, v, hv => by
    subst h1
    rcases List.mem_append.1 hv with h | h
    · exact hp h2 v h
    · exact h3.all hp v h
theorem RL.rep {x : α} {a : List β} (h : R x a) : ∀ n, RL R (List.replicate n x) (rept n a)
  | 0 => rfl
  | n + 1 => .cons h (RL.rep h n)
end
def dI (k : IntKind) : Dt Int := ⟨1, fun n vs => vs = [.p (.int k n)], fun h => by simp [h], fun h => by subst h; exact stills_cons (still_int _ _) stills_nil⟩
def dB : Dt Bool := ⟨1, fun n vs => vs = [.p (.bool n)], fun h => by simp [h], fun h => by subst h; exact stills_cons (still_bool _) stills_nil⟩
def dS : Dt ByteArray := ⟨1, fun n vs => vs = [.p (.string n)], fun h => by simp [h], fun h => by subst h; exact stills_cons (still_str _) stills_nil⟩
def Dt.L {α : Type} (d : Dt α) : List α → List V → Prop := RL d.R
/-- A frozen slice. -/
def SlF {α : Type} (d : Dt α) (xs : List α) (v : V) : Prop := ∃ cs, Fz v d.sz xs.length cs ∧ d.L xs cs
/-- A slice, as memory stands. -/
def SlH {α : Type} (h : H) (d : Dt α) (xs : List α) (v : V) : Prop := ∃ cs, IsSl h v d.sz xs.length cs ∧ d.L xs cs
theorem SlF.h {α : Type} {d : Dt α} {xs : List α} {v : V} (hv : SlF d xs v) (h : H) : SlH h d xs v := by obtain ⟨cs, h1, h2⟩ := hv; exact ⟨cs, h1 h, h2⟩
theorem SlF.still {α : Type} {d : Dt α} {xs : List α} {v : V} (hv : SlF d xs v) : Still v := by obtain ⟨cs, h1, h2⟩ := hv; exact h1.still
def dSl {α : Type} (d : Dt α) : Dt (List α) := ⟨1, fun xs vs => ∃ v, vs = [v] ∧ SlF d xs v, fun ⟨v, h, _⟩ => by simp [h], fun ⟨v, h, hv⟩ => by subst h; exact stills_cons hv.still stills_nil⟩
theorem stills_append {a b : List V} (h : Stills a) (t : Stills b) : Stills (a ++ b) := fun x hx => by
  rcases List.mem_append.1 hx with hx | hx
  · exact h x hx
  · exact t x hx
def dU : Dt Unit := ⟨0, fun _ vs => vs = [], fun h => by simp [h], fun h => by subst h; exact stills_nil⟩
def dP {α β : Type} (a : Dt α) (b : Dt β) : Dt (α × β) := ⟨a.sz + b.sz, fun x vs => ∃ u w, vs = u ++ w ∧ a.R x.1 u ∧ b.R x.2 w, fun ⟨u, w, h, h1, h2⟩ => by rw [h, List.length_append, a.len h1, b.len h2],
  fun ⟨u, w, h, h1, h2⟩ => by subst h; exact stills_append (a.still h1) (b.still h2)⟩
/-- Over another type. -/
def Dt.via {α β : Type} (d : Dt α) (f : β → α) : Dt β := ⟨d.sz, fun x vs => d.R (f x) vs, fun h => d.len h, fun h => d.still h⟩
theorem RL.stills {α : Type} {d : Dt α} {xs : List α} {cs : List V} (h : d.L xs cs) : Stills cs := RL.all (fun h => d.still h) h
/-- An array. -/
def dA {α : Type} (n : Nat) (d : Dt α) : Dt (List α) := ⟨n * d.sz, fun xs vs => xs.length = n ∧ d.L xs vs, fun ⟨h, h1⟩ => by rw [RL.length (fun h => d.len h) h1, h], fun ⟨h, h1⟩ => RL.stills h1⟩

/-! ### What plain functions do with lists -/
def ix {α : Type} (xs : List α) (i : Int) : Option α := if 0 ≤ i then xs[i.toNat]? else none
def sub {α : Type} (xs : List α) (a b : Int) : Option (List α) := if 0 ≤ a ∧ a ≤ b ∧ b ≤ xs.length then some ((xs.drop a.toNat).take (b - a).toNat) else none
def ap {α : Type} (b : Nat) (xs ys : List α) : Option (List α) := if (xs.length + ys.length) * b ≤ 140737488355328 ∧ xs.length + ys.length < 2305843009213693952 then some (xs ++ ys) else none
def mk {α : Type} (b : Nat) (z : α) (n : Int) : Option (List α) := if 0 ≤ n ∧ n * b ≤ 140737488355328 ∧ n < 2305843009213693952 then some (List.replicate n.toNat z) else none
def stx {α : Type} (xs : List α) (i : Int) (x : α) : Option (List α) := if 0 ≤ i ∧ i < xs.length then some (xs.set i.toNat x) else none
theorem ix_some {α : Type} {xs : List α} {i : Int} {x : α} (h : ix xs i = some x) : 0 ≤ i ∧ ∃ hi : i.toNat < xs.length, xs[i.toNat] = x := by
  unfold ix at h
  split at h
  · rename_i h0; exact ⟨h0, List.getElem?_eq_some_iff.1 h⟩
  · cases h
theorem sub_some {α : Type} {xs ys : List α} {a b : Int} (h : sub xs a b = some ys) : (0 ≤ a ∧ a ≤ b ∧ b ≤ xs.length) ∧ ys = (xs.drop a.toNat).take (b - a).toNat := by
  unfold sub at h
  split at h
  · rename_i h0; exact ⟨h0, (Option.some.inj h).symm⟩
  · cases h
theorem ap_some {α : Type} {b : Nat} {xs ys zs : List α} (h : ap b xs ys = some zs) : ((xs.length + ys.length) * b ≤ 2 ^ 47 ∧ xs.length + ys.length < 2 ^ 61) ∧ zs = xs ++ ys := by
  unfold ap at h
  split at h
  · rename_i h0; exact ⟨h0, (Option.some.inj h).symm⟩
  · cases h
theorem mk_some {α : Type} {b : Nat} {z : α} {n : Int} {zs : List α} (h : mk b z n = some zs) : (0 ≤ n ∧ n * b ≤ 2 ^ 47 ∧ n < 2 ^ 61) ∧ zs = List.replicate n.toNat z := by
  unfold mk at h
  split at h
  · rename_i h0; exact ⟨h0, (Option.some.inj h).symm⟩
  · cases h
theorem stx_some {α : Type} {xs ys : List α} {i : Int} {x : α} (h : stx xs i x = some ys) : (0 ≤ i ∧ i < xs.length) ∧ ys = xs.set i.toNat x := by
  unfold stx at h
  split at h
  · rename_i h0; exact ⟨h0, (Option.some.inj h).symm⟩
  · cases h

/-! ### Slices that are read -/
/-- A part of a slice, as a value. -/
def subV (e : Nat) (v : V) (a b : Nat) : V :=
  match v with
  | .sl l off len av esz => .sl l (off + a * esz) (b - a) (av - a) esz
  | .fz cs len esz tight => .fz ((cs.drop (a * esz)).take ((b - a) * esz)) (b - a) esz (tight && b == len)
  | v => v
section
variable {h : H} {v : V} {k n : Nat} {cs : List V}
theorem IsSl.sub (hs : IsSl h v k n cs) {a b : Nat} (hab : a ≤ b) (hb : b ≤ n) : IsSl h (subV k v a b) k (b - a) ((cs.drop (a * k)).take ((b - a) * k)) := by
  have hc := hs.clen
  rcases hs.cases with ⟨rfl, rfl, rfl⟩ | ⟨t, rfl⟩ | ⟨l, off, av, ds, rfl, hn, hl, hv, hav⟩
  · have h1 : a = 0 := by omega
    have h2 : b = 0 := by omega
    subst h1; subst h2
    simpa [subV] using IsSl.nil h k
  · refine Fz.fz ?_ _ h
    rw [List.length_take, List.length_drop, hc, ← Nat.sub_mul]
    exact Nat.min_eq_left (Nat.mul_le_mul_right _ (by omega))
  · have h1 : (b - a) * k = b * k - a * k := Nat.sub_mul _ _ _
    have h2 := Nat.mul_le_mul_right k hab
    have h3 := Nat.mul_le_mul_right k hb
    refine .mk_sl hn (by omega) ?_ (by omega)
    have q := toVs_take (n := (b - a) * k) (toVs_drop (n := a * k) hv)
    rw [List.drop_take, List.drop_drop, List.take_take, Nat.min_eq_left (by omega)] at q
    exact q
theorem IsSl.slS (hs : IsSl h v k n cs) {lo hi : Option Int} {a b : Int} (ha : lo.getD 0 = a) (hb : hi.getD n = b) (h0 : 0 ≤ a) (h1 : a ≤ b) (h2 : b ≤ n) : Go.Ev.slS k v lo hi none = some (subV k v a.toNat b.toNat) := by
  have g : ∀ (o : Option Int) (d lim : Nat) (x : Int), o.getD (d : Int) = x → 0 ≤ x → x ≤ lim → bI o d lim = some x.toNat := fun o d lim x e e0 e1 => by
    cases o with
    | none => simp only [Option.getD_none] at e; subst e; simp [bI]
    | some y => simp only [Option.getD_some] at e; subst e; simp [bI, e0, e1]
  have g0 : ∀ m : Nat, bI none m m = some m := fun m => rfl
  rcases hs.cases with ⟨rfl, rfl, rfl⟩ | ⟨t, rfl⟩ | ⟨l, off, av, ds, rfl, hn, hl, hv, hav⟩
  · have e1 : a = 0 := by omega
    have e2 : b = 0 := by omega
    subst e1; subst e2
    simp only [Go.Ev.slS, g0, Option.bind_some]
    rw [g hi 0 0 0 hb (by omega) (by omega)]
    simp only [Option.bind_some]
    rw [g lo 0 0 0 (by simpa using ha) (by omega) (by omega)]
    rfl
  · simp only [Go.Ev.slS, ne_eq, not_true_eq_false, if_false, g0, Option.bind_some]
    rw [g hi n n b hb (by omega) h2]
    simp only [Option.bind_some]
    rw [g lo 0 b.toNat a (by simpa using ha) h0 (by omega)]
    simp [subV]
  · simp only [Go.Ev.slS, ne_eq, not_true_eq_false, if_false, g0, Option.bind_some]
    rw [g hi n av b hb (by omega) (by omega)]
    simp only [Option.bind_some]
    rw [g lo 0 b.toNat a (by simpa using ha) h0 (by omega)]
    simp [subV]
end
end Go.Ev
/- The memory of one frame, as a list of things that lie in it. -/
namespace Go.Ev
set_option linter.unusedVariables false
set_option linter.unusedSimpArgs false
/-! ### Cells at a place -/
def AtC (h : H) (l : Loc) (off : Nat) (cs : List C) : Prop := ∃ p q, nd h l = some (p ++ cs ++ q) ∧ p.length = off
def ptC (h : H) (l : Loc) (off : Nat) (cs : List C) : H := match nd h l with | some all => setNd h l (all.take off ++ cs ++ all.drop (off + cs.length)) | none => h
section
variable {h : H} {l : Loc} {off : Nat} {cs cs' : List C}
theorem ptC_eq {p q : List C} (hn : nd h l = some (p ++ cs ++ q)) (hp : p.length = off) (hc : cs'.length = cs.length) : ptC h l off cs' = setNd h l (p ++ cs' ++ q) := by
  unfold ptC
  rw [hn]
  simp only
  congr 2
  · rw [List.append_assoc, List.take_append_of_le_length (by omega), List.take_of_length_le (by omega)]
  · rw [hc, List.append_assoc, ← hp, ← List.drop_drop]; simp
theorem AtC.put (ha : AtC h l off cs) (hc : cs'.length = cs.length) : AtC (ptC h l off cs') l off cs' := by
  obtain ⟨p, q, hn, hp⟩ := ha
  rw [ptC_eq hn hp hc]
  exact ⟨p, q, nd_setNd hn _, hp⟩
theorem AtC.put_put (ha : AtC h l off cs) {a b : List C} (hc : a.length = cs.length) (hd : b.length = cs.length) : ptC (ptC h l off a) l off b = ptC h l off b := by
  obtain ⟨p, q, hn, hp⟩ := ha
  have h1 := nd_setNd hn (p ++ a ++ q)
  rw [ptC_eq hn hp hc, ptC_eq h1 hp (by rw [hd, hc]), ptC_eq hn hp hd, setNd_setNd hn]
theorem AtC.same (ha : AtC h l off cs) : ptC h l off cs = h := by
  obtain ⟨p, q, hn, hp⟩ := ha
  rw [ptC_eq hn hp rfl, setNd_same hn]
theorem AtC.up (ha : AtC h l off cs) (L : Layer) : AtC (L :: h) l off cs := by
  obtain ⟨p, q, hn, hp⟩ := ha
  exact ⟨p, q, nd_up hn L, hp⟩
theorem AtC.put_up (ha : AtC h l off cs) (L : Layer) (hc : cs'.length = cs.length) : ptC (L :: h) l off cs' = L :: ptC h l off cs' := by
  obtain ⟨p, q, hn, hp⟩ := ha
  rw [ptC_eq (nd_up hn L) hp hc, ptC_eq hn hp hc, setNd_up hn]
theorem AtC.lt (ha : AtC h l off cs) : l.lvl < h.length := by obtain ⟨p, q, hn, hp⟩ := ha; exact nd_lt hn
theorem ptC_length (h : H) (l : Loc) (off : Nat) (cs : List C) : (ptC h l off cs).length = h.length := by
  unfold ptC; split
  · exact setNd_length ..
  · rfl
def Loc.key (l : Loc) : Nat × Nat × Nat := (l.lvl, l.slot, l.comp)
theorem AtC.frame {l' : Loc} {off' : Nat} {ds : List C} (ha : AtC h l' off' ds) (hk : l.key ≠ l'.key) : AtC (ptC h l off cs) l' off' ds := by
  obtain ⟨p, q, hn, hp⟩ := ha
  unfold ptC; split
  · exact ⟨p, q, by rw [nd_setNd_ne hk, hn], hp⟩
  · exact ⟨p, q, hn, hp⟩
theorem setRoot_comm : ∀ (h : H) (l l' : Loc) (a b : C), l.key ≠ l'.key → setRoot (setRoot h l a) l' b = setRoot (setRoot h l' b) l a
  | [], _, _, _, _, _ => rfl
  | L :: h, l, l', a, b, hk => by
    by_cases h1 : l.lvl = h.length
    · by_cases h2 : l'.lvl = h.length
      · simp only [setRoot, h1, h2, if_true]
        congr 1
        by_cases hs : l.slot = l'.slot
        · have hc : l.comp ≠ l'.comp := fun hc => hk (by simp [Loc.key, h1, h2, hs, hc])
          by_cases hlt : l.slot < L.length
          · rw [← hs, List.getElem?_set_self hlt, List.getElem?_set_self hlt, List.set_set, List.set_set, Option.getD_some, Option.getD_some, List.set_comm _ _ hc]
          · rw [← hs]
            rw [List.set_eq_of_length_le (by simp; omega), List.set_eq_of_length_le (by omega), List.set_eq_of_length_le (by simp; omega), List.set_eq_of_length_le (by omega)]
        · rw [List.getElem?_set_ne hs, List.getElem?_set_ne (Ne.symm hs), List.set_comm _ _ hs]
      · simp [setRoot, h1, h2, setRoot_length]
    · by_cases h2 : l'.lvl = h.length
      · simp [setRoot, h1, h2, setRoot_length]
      · simp only [setRoot, h1, h2, if_false, setRoot_length]
        rw [setRoot_comm h l l' a b hk]
theorem setNd_form {h : H} {l : Loc} {cs : List C} (hn : nd h l = some cs) : ∃ c r, rootC h l = some r ∧ at_ h l = some c ∧ ∀ g x, rootC g l = some r → setNd g l x = setRoot g l (repl r l.s l.hops (c.withNode x)) := by
  obtain ⟨r, hr⟩ := nd_root hn
  unfold nd at hn
  cases ha : at_ h l with
  | none => simp [ha] at hn
  | some c =>
    refine ⟨c, r, hr, rfl, fun g x hg => ?_⟩
    have : at_ g l = some c := by rw [at_, hg]; rw [at_, hr] at ha; exact ha
    simp [setNd, this, setAt, hg]
theorem AtC.comm {l' : Loc} {off' : Nat} {ds a b : List C} (ha : AtC h l off cs) (hb : AtC h l' off' ds) (hk : l.key ≠ l'.key) (hc : a.length = cs.length) (hd : b.length = ds.length) : ptC (ptC h l off a) l' off' b = ptC (ptC h l' off' b) l off a := by
  obtain ⟨p, q, hn, hp⟩ := ha
  obtain ⟨p', q', hn', hp'⟩ := hb
  have k1 := (nd_setNd_ne (h := h) (cs := p ++ a ++ q) hk).trans hn'
  have k2 := (nd_setNd_ne (h := h) (cs := p' ++ b ++ q') (Ne.symm hk)).trans hn
  rw [ptC_eq hn hp hc, ptC_eq k1 hp' hd, ptC_eq hn' hp' hd, ptC_eq k2 hp hc]
  obtain ⟨c1, r1, hr1, _, f1⟩ := setNd_form hn
  obtain ⟨c2, r2, hr2, _, f2⟩ := setNd_form hn'
  rw [f1 h _ hr1, f2 h _ hr2]
  rw [f2 _ _ (by rw [root_setRoot_ne hk]; exact hr2), f1 _ _ (by rw [root_setRoot_ne (Ne.symm hk)]; exact hr1)]
  exact setRoot_comm _ _ _ _ _ hk
end
/-! ### Things of a lower frame -/
structure Rt where
  l : Loc
  off : Nat
  cs : List C
def pts (h : H) : List Rt → H
  | [] => h
  | r :: rs => ptC (pts h rs) r.l r.off r.cs
def BOk (h : H) : List Rt → Prop
  | [] => True
  | r :: rs => (∃ cs, cs.length = r.cs.length ∧ AtC h r.l r.off cs) ∧ (∀ q ∈ rs, q.l.key ≠ r.l.key) ∧ BOk h rs
section
variable {h : H}
theorem pts_length : ∀ (B : List Rt), (pts h B).length = h.length
  | [] => rfl
  | r :: rs => by rw [pts, ptC_length, pts_length rs]
theorem AtC.frames {l : Loc} {off : Nat} {cs : List C} (ha : AtC h l off cs) : ∀ {B : List Rt}, (∀ q ∈ B, q.l.key ≠ l.key) → AtC (pts h B) l off cs
  | [], _ => ha
  | r :: rs, hk => (ha.frames fun q hq => hk q (List.mem_cons_of_mem _ hq)).frame (hk r (List.mem_cons_self ..))
theorem BOk.at : ∀ {B : List Rt} {i : Nat} {r : Rt}, BOk h B → B[i]? = some r → AtC (pts h B) r.l r.off r.cs
  | [], _, _, _, hi => by simp at hi
  | r :: rs, 0, _, ⟨⟨cs, h1, h2⟩, h3, h4⟩, hi => by
    simp only [List.getElem?_cons_zero, Option.some.injEq] at hi; subst hi
    exact (h2.frames h3).put h1.symm
  | r :: rs, i + 1, r', ⟨_, h3, h4⟩, hi => by
    simp only [List.getElem?_cons_succ] at hi
    exact (BOk.at h4 hi).frame (Ne.symm (h3 r' (List.mem_of_getElem? hi)))
theorem BOk.set : ∀ {B : List Rt} {i : Nat} {r : Rt} {cs : List C}, BOk h B → B[i]? = some r → cs.length = r.cs.length → BOk h (B.set i ⟨r.l, r.off, cs⟩)
  | [], _, _, _, _, hi, _ => by simp at hi
  | r :: rs, 0, _, cs, ⟨⟨ds, h1, h2⟩, h3, h4⟩, hi, hc => by
    simp only [List.getElem?_cons_zero, Option.some.injEq] at hi; subst hi
    exact ⟨⟨ds, by simp [h1, hc], h2⟩, h3, h4⟩
  | r :: rs, i + 1, r', cs, ⟨h1, h3, h4⟩, hi, hc => by
    simp only [List.getElem?_cons_succ] at hi
    refine ⟨h1, fun q hq => ?_, h4.set hi hc⟩
    rcases List.mem_or_eq_of_mem_set hq with hq | rfl
    · exact h3 q hq
    · exact h3 r' (List.mem_of_getElem? hi)
theorem BOk.pt : ∀ {B : List Rt} {i : Nat} {r : Rt} {cs : List C}, BOk h B → B[i]? = some r → cs.length = r.cs.length → ptC (pts h B) r.l r.off cs = pts h (B.set i ⟨r.l, r.off, cs⟩)
  | [], _, _, _, _, hi, _ => by simp at hi
  | r :: rs, 0, _, cs, ⟨⟨ds, h1, h2⟩, h3, h4⟩, hi, hc => by
    simp only [List.getElem?_cons_zero, Option.some.injEq] at hi; subst hi
    exact (h2.frames h3).put_put h1.symm (by omega)
  | r :: rs, i + 1, r', cs, ⟨⟨ds, h1, h2⟩, h3, h4⟩, hi, hc => by
    simp only [List.getElem?_cons_succ] at hi
    simp only [pts, List.set_cons_succ]
    rw [(h2.frames h3).comm (h4.at hi) (Ne.symm (h3 r' (List.mem_of_getElem? hi))) h1.symm hc, h4.pt hi hc]
/-- As it was. -/
theorem BOk.same : ∀ {B : List Rt}, (∀ r ∈ B, AtC h r.l r.off r.cs) → pts h B = h
  | [], _ => rfl
  | r :: rs, ha => by rw [pts, BOk.same fun q hq => ha q (List.mem_cons_of_mem _ hq)]; exact (ha r (List.mem_cons_self ..)).same
end
/-! ### Slices that grow -/
def GrowS (D : List Nat) (L : Layer) (n0 : Nat) (v : V) (k n : Nat) (xs : List V) : Prop :=
  (n = 0 ∧ xs = [] ∧ (v = .p (.slice none 0 0) ∨ v = .fz [] 0 k true)) ∨ (xs.length = n * k ∧ ∃ d ∈ D, ∃ s tl, v = .sl ⟨n0, d, 0, s, []⟩ 0 n n k ∧ L[d]? = some (.arr s n k (xs.map .v) :: tl)) ∨ (v = .fz xs n k true ∧ xs.length = n * k ∧ Stills xs ∧ ∃ d ∈ D, 1000000 ≤ d)
section
variable {D : List Nat} {L L' : Layer} {h : H} {n0 : Nat} {v : V} {k n : Nat} {xs : List V}
theorem GrowS.frame (ha : GrowS D L n0 v k n xs) (hL : ∀ d ∈ D, L'[d]? = L[d]?) : GrowS D L' n0 v k n xs := by
  rcases ha with ha | ⟨h2, d, hd, s, tl, rfl, h3⟩ | ha
  · exact .inl ha
  · exact .inr (.inl ⟨h2, d, hd, s, tl, rfl, by rw [hL d hd]; exact h3⟩)
  · exact .inr (.inr ha)
theorem GrowS.sl (ha : GrowS D L h.length v k n xs) : IsSl (L :: h) v k n xs := by
  rcases ha with ⟨rfl, rfl, rfl | rfl⟩ | ⟨h2, d, hd, s, tl, rfl, h3⟩ | ⟨rfl, h2, _⟩
  · exact .nil _ _
  · exact Fz.fz (by simp) _ _
  · exact .mk_sl (nd_arr h3) (by simp [h2]) (by rw [List.drop_zero, List.take_of_length_le (by simp [h2]), toVs_plain]) (Nat.le_refl _)
  · exact Fz.fz h2 _ _
theorem Still.leafs {ys : List V} (h : Stills ys) : ys.all leafV = true := List.all_eq_true.2 fun y hy => (h y hy).leaf
/-- What may be appended: a slice, a text. -/
structure Ys (h : H) (y : V) (k m : Nat) (ys : List V) : Prop where
  len : lenOf y = some m
  cells : cellsOf h y = some ys
  clen : ys.length = m * k
theorem IsSl.ys {h : H} {y : V} {k m : Nat} {ys : List V} (hs : IsSl h y k m ys) : Ys h y k m ys := ⟨hs.len, hs.cells, hs.clen⟩
theorem Ys.none {h : H} {own : Bool} {b d : Nat} {σ : Stamp} {x y : V} {xs : List V} (hy : Ys h y k 0 xs) (hx : isSl x = true) (he : k ≠ 0) : apO own k b σ d h x y = some (x, h) := by
  unfold apO
  rw [hy.len, hy.cells]
  simp only [Option.bind_some]
  rw [if_neg (by have := hy.clen; simp [this, he]), if_pos trivial, if_pos hx]
theorem GrowS.app (ha : GrowS D L h.length v k n xs) {own : Bool} {b d m : Nat} {σ : Stamp} {y : V} {ys : List V} (hd : d < L.length) (hy : Ys (L :: h) y k m ys) (hs : Stills ys) (hk : k ≠ 0) (hb : (n + m) * b ≤ 2 ^ 47) (hb2 : n + m < 2 ^ 61) :
    ∃ v' L', apO own k b σ d (L :: h) v y = some (v', L' :: h) ∧ GrowS (d :: D) L' h.length v' k (n + m) (xs ++ ys) ∧ L'.length = L.length ∧ ∀ j, j ∉ d :: D → L'[j]? = L[j]? := by
  by_cases hm : m = 0
  · subst hm
    have h0 : ys = [] := by have := hy.clen; simpa using this
    subst h0
    have hsl : isSl v = true := by
      rcases ha with ⟨_, _, rfl | rfl⟩ | ⟨_, _, _, _, _, rfl, _⟩ | ⟨rfl, _⟩ <;> rfl
    refine ⟨v, L, hy.none hsl hk, ?_, rfl, fun _ _ => rfl⟩
    rw [List.append_nil, Nat.add_zero]
    rcases ha with ha | ⟨h2, d', hd', r⟩ | ⟨a1, a2, a3, d', hd', a4⟩
    · exact .inl ha
    · exact .inr (.inl ⟨h2, d', List.mem_cons_of_mem _ hd', r⟩)
    · exact .inr (.inr ⟨a1, a2, a3, d', List.mem_cons_of_mem _ hd', a4⟩)
  · have hcl := hy.clen
    have base : ∀ x, apO own k b σ d (L :: h) x y = apTo k b σ d (L :: h) m (ys.map .v) x := fun x => by
      unfold apO
      rw [hy.len, hy.cells]
      simp only [Option.bind_some]
      rw [if_neg (by simp [hcl, hk]), if_neg hm, layCs_still own _ hs]
      rfl
    rcases ha with ⟨rfl, rfl, rfl | rfl⟩ | ⟨h2, d', hd', s, tl, rfl, h3⟩ | ⟨rfl, h2, h3, _⟩
    · refine ⟨_, L.set d [.arr σ m k (ys.map .v)], ?_, .inr (.inl ⟨by simpa using hcl, d, List.mem_cons_self .., σ, [], by rw [Nat.zero_add], by simp [hd]⟩), by simp, fun j hj => ?_⟩
      · rw [base, apTo, if_pos ⟨by simpa using hb, by simpa using hb2⟩]; simp
      · rw [List.getElem?_set_ne (fun e => hj (by rw [← e]; exact List.mem_cons_self ..))]
    · refine ⟨_, L.set d [.arr σ (0 + m) k (ys.map .v)], ?_, .inr (.inl ⟨by simpa using hcl, d, List.mem_cons_self .., σ, [], rfl, by simp [hd]⟩), by simp, fun j hj => ?_⟩
      · rw [base, apTo, if_pos ⟨rfl, rfl, by simp, by simpa using hb, by simpa using hb2, by simp⟩]; simp
      · rw [List.getElem?_set_ne (fun e => hj (by rw [← e]; exact List.mem_cons_self ..))]
    · refine ⟨_, (L.set d' (.dead :: tl)).set d [.arr σ (n + m) k (xs.map .v ++ ys.map .v)], ?_, .inr (.inl ⟨by rw [List.length_append, h2, hcl, Nat.add_mul], d, List.mem_cons_self .., σ, [], rfl, by simp [hd]⟩), by simp, fun j hj => ?_⟩
      · rw [base, apTo, if_neg (by simp), nd_arr h3]
        simp only [Option.bind_some]
        rw [if_neg (by omega), if_pos ⟨trivial, by simpa using h2, hb, hb2⟩, setAt_root h3]
        simp
      · rw [List.getElem?_set_ne (fun e => hj (by rw [← e]; exact List.mem_cons_self ..)), List.getElem?_set_ne (fun e => hj (by rw [← e]; exact List.mem_cons_of_mem _ hd'))]
    · refine ⟨_, L.set d [.arr σ (n + m) k (xs.map .v ++ ys.map .v)], ?_, .inr (.inl ⟨by rw [List.length_append, h2, hcl, Nat.add_mul], d, List.mem_cons_self .., σ, [], rfl, by simp [hd]⟩), by simp, fun j hj => ?_⟩
      · rw [base, apTo, if_pos ⟨rfl, rfl, h2, hb, hb2, Still.leafs h3⟩]; simp
      · rw [List.getElem?_set_ne (fun e => hj (by rw [← e]; exact List.mem_cons_self ..))]
/-- It leaves, frozen. -/
theorem GrowS.frz (ha : GrowS D L h.length v k n xs) (σ : Stamp) : ∃ v', fin true σ (L :: h) [v] = some ([.v v'], h) ∧ Fz v' k n xs := by
  rcases ha with ⟨rfl, rfl, rfl | rfl⟩ | ⟨h2, d', hd', s, tl, rfl, h3⟩ | ⟨rfl, h2, _⟩
  · exact ⟨_, fin_1 still_nilS, .nil k⟩
  · exact ⟨_, fin_1 (by simp), .fz (by simp) _⟩
  · exact ⟨_, fin_frz h3 h2, .fz h2 _⟩
  · exact ⟨_, fin_1 (by simp), .fz h2 _⟩
/-- What a slice's owner has in a cell. -/
def OwnS (c : C) (k n : Nat) (xs : List V) : Prop := xs.length = n * k ∧ ((n = 0 ∧ xs = [] ∧ (c = .v (.p (.slice none 0 0)) ∨ c = .v (.fz [] 0 k true))) ∨ ∃ s, c = .arr s n k (xs.map .v))
def noLit (D : List Nat) : Bool := D.all fun d => decide (d < 1000000)
theorem noLit_no {D : List Nat} (h : noLit D = true) (hd : ∃ d ∈ D, 1000000 ≤ d) : False := by
  obtain ⟨d, h1, h2⟩ := hd
  have := List.all_eq_true.1 h d h1
  simp at this; omega
theorem GrowS.own (ha : GrowS D L h.length v k n xs) (hD : noLit D = true) (σ : Stamp) : ∃ c, fin false σ (L :: h) [v] = some ([c], h) ∧ OwnS c k n xs := by
  rcases ha with ⟨rfl, rfl, rfl | rfl⟩ | ⟨h2, d', hd', s, tl, rfl, h3⟩ | ⟨_, _, _, hd⟩
  · exact ⟨_, fin_1 still_nilS, by simp, .inl ⟨rfl, rfl, .inl rfl⟩⟩
  · exact ⟨_, fin_1 (by simp), by simp, .inl ⟨rfl, rfl, .inr rfl⟩⟩
  · exact ⟨_, fin_arr h3 (by simpa using h2), h2, .inr ⟨s, rfl⟩⟩
  · exact (noLit_no hD hd).elim
theorem OwnS.land {c : C} (ho : OwnS c k n xs) {d : Nat} (hd : d < L.length) :
    ∃ v L', land (L :: h) (some d) [c] = (v, L' :: h) ∧ GrowS [d] L' h.length v k n xs ∧ L'.length = L.length ∧ ∀ j, j ≠ d → L'[j]? = L[j]? := by
  obtain ⟨hl, ⟨rfl, rfl, rfl | rfl⟩ | ⟨s, rfl⟩⟩ := ho
  · exact ⟨_, L, rfl, .inl ⟨rfl, rfl, .inl rfl⟩, rfl, fun _ _ => rfl⟩
  · exact ⟨_, L, rfl, .inl ⟨rfl, rfl, .inr rfl⟩, rfl, fun _ _ => rfl⟩
  · exact ⟨.sl ⟨h.length, d, 0, s, []⟩ 0 n n k, L.set d [.arr s n k (xs.map .v)], by simp [Go.Ev.land, resVs, tupV, allPlain], .inr (.inl ⟨hl, d, List.mem_singleton.2 rfl, s, [], rfl, by simp [hd]⟩), by simp, fun j hj => by rw [List.getElem?_set_ne (Ne.symm hj)]⟩
theorem resVs_v (h : H) (d : Nat) : ∀ (ys : List V) (j : Nat), resVs h d j (ys.map .v) = ys
  | [], _ => rfl
  | y :: ys, j => by simp only [List.map_cons, resVs, resVs_v h d ys]
theorem OwnS.landN {c : C} (ho : OwnS c k n xs) {d : Nat} (hd : d < L.length) {y : V} (ys : List V) :
    ∃ v L', Go.Ev.land (L :: h) (some d) (c :: (y :: ys).map .v) = (.tup (v :: y :: ys), L' :: h) ∧ GrowS [d] L' h.length v k n xs ∧ L'.length = L.length ∧ ∀ j, j ≠ d → L'[j]? = L[j]? := by
  have ap : ∀ zs : List V, allPlain (zs.map .v) = true := fun zs => by
    induction zs with
    | nil => rfl
    | cons z zs ih => simp only [List.map_cons, allPlain, ih]
  have tv : ∀ v : V, tupV (v :: y :: ys) = .tup (v :: y :: ys) := fun v => rfl
  obtain ⟨hl, ⟨rfl, rfl, rfl | rfl⟩ | ⟨s, rfl⟩⟩ := ho
  · refine ⟨.p (.slice none 0 0), L, ?_, .inl ⟨rfl, rfl, .inl rfl⟩, rfl, fun _ _ => rfl⟩
    simp only [Go.Ev.land, resVs, resVs_v, allPlain, ap, tv]
  · refine ⟨.fz [] 0 k true, L, ?_, .inl ⟨rfl, rfl, .inr rfl⟩, rfl, fun _ _ => rfl⟩
    simp only [Go.Ev.land, resVs, resVs_v, allPlain, ap, tv]
  · refine ⟨.sl ⟨h.length, d, 0, s, []⟩ 0 n n k, L.set d (.arr s n k (xs.map .v) :: (y :: ys).map .v), ?_, .inr (.inl ⟨hl, d, List.mem_singleton.2 rfl, s, (y :: ys).map .v, rfl, by simp [hd]⟩), by simp, fun j hj => by rw [List.getElem?_set_ne (Ne.symm hj)]⟩
    simp only [Go.Ev.land, resVs, resVs_v, allPlain, tv]
    simp
/-- An element is written. -/
theorem GrowS.set (ha : GrowS D L h.length v k n xs) (hD : noLit D = true) {own : Bool} {σ : Stamp} {j : Nat} {x : V} (hj : j < xs.length) (hx : Still x) :
    ∃ L', stO own 1 σ (L :: h) (adr v j) x = some (L' :: h) ∧ GrowS D L' h.length v k n (xs.set j x) ∧ L'.length = L.length ∧ ∀ j, j ∉ D → L'[j]? = L[j]? := by
  rcases ha with ⟨rfl, rfl, _⟩ | ⟨h2, d', hd', s, tl, rfl, h3⟩ | ⟨_, _, _, hd⟩
  · simp at hj
  · have hlt := (List.getElem?_eq_some_iff.1 h3).1
    refine ⟨L.set d' (.arr s n k ((xs.set j x).map .v) :: tl), ?_, .inr (.inl ⟨by simpa using h2, d', hd', s, tl, rfl, by simp [hlt]⟩), by simp, fun j hj => ?_⟩
    · rw [adr, Nat.zero_add, stO_still hx (nd_arr h3) (by simpa using hj), setNd_arr h3]
      simp [List.map_set]
    · rw [List.getElem?_set_ne (fun e => hj (by rw [← e]; exact hd'))]
  · exact (noLit_no hD hd).elim
/-- A new one, of noughts. -/
theorem GrowS.make {e b d : Nat} {z : List V} {n : Int} {σ : Stamp} (hd : d < L.length) (h0 : 0 ≤ n) (hb : n * b ≤ 2 ^ 47) (hn : n < 2 ^ 62) (hz : z.length = e) (he : e ≠ 0) :
    ∃ v L', mkO e b z σ d (L :: h) n n = some (v, L' :: h) ∧ GrowS [d] L' h.length v e n.toNat (rept n.toNat z) ∧ L'.length = L.length ∧ ∀ j, j ≠ d → L'[j]? = L[j]? := by
  have hr : ∀ m, (rept m z).length = m * e := fun m => by
    induction m with
    | zero => simp [rept]
    | succ m ih => rw [rept, List.length_append, hz, ih, Nat.succ_mul, Nat.add_comm]
  refine ⟨_, _, mkO_ok h0 hb hn hz he, .inr (.inl ⟨hr _, d, List.mem_singleton.2 rfl, σ, [], rfl, by simp [hd]⟩), by simp, fun j hj => ?_⟩
  rw [List.getElem?_set_ne (Ne.symm hj)]
end
end Go.Ev
/- One frame's memory: what its operations come to. -/
namespace Go.Ev
set_option linter.unusedVariables false
set_option linter.unusedSimpArgs false
/-! ### Cells at a place: reads and writes -/
section
variable {h : H} {l : Loc} {off j : Nat} {cs : List C}
theorem AtC.rng (ha : AtC h l off cs) {n : Nat} (hj : j + n ≤ cs.length) : ∃ all, nd h l = some all ∧ Go.Ev.rng all (off + j) n = some ((cs.drop j).take n) := by
  obtain ⟨p, q, hn, hp⟩ := ha
  refine ⟨_, hn, ?_⟩
  unfold Go.Ev.rng
  rw [if_pos (by simp; omega)]
  congr 1
  rw [← List.drop_drop, List.append_assoc, ← hp, List.drop_left, List.drop_append_of_le_length (by omega), List.take_append_of_le_length (by rw [List.length_drop]; omega)]
theorem AtC.ldAgg (ha : AtC h l off cs) {n : Nat} {agg : Bool} {xs : List V} (hj : j + n ≤ cs.length) (hx : toVs l (off + j) ((cs.drop j).take n) = some xs) : ldO agg n h (.ref l (off + j)) = mkV agg xs := by
  obtain ⟨all, h1, h2⟩ := ha.rng hj
  simp only [ldO, h1, h2, Option.bind_some, hx]
theorem drop_one {α : Type} {cs : List α} {j : Nat} {c : α} (hj : cs[j]? = some c) : (cs.drop j).take 1 = [c] := by
  obtain ⟨hlt, he⟩ := List.getElem?_eq_some_iff.1 hj
  rw [List.drop_eq_getElem_cons hlt, he]; rfl
theorem AtC.ldC (ha : AtC h l off cs) {c : C} {x : V} (hj : cs[j]? = some c) (hx : toV l (off + j) c = some x) : ldO false 1 h (.ref l (off + j)) = some x := by
  have hlt := (List.getElem?_eq_some_iff.1 hj).1
  rw [ha.ldAgg (xs := [x]) (by omega) (by rw [drop_one hj]; simp [toVs, hx])]
  rfl
theorem AtC.ld (ha : AtC h l off cs) {x : V} (hj : cs[j]? = some (.v x)) : ldO false 1 h (.ref l (off + j)) = some x := ha.ldC hj rfl
theorem AtC.ldArr (ha : AtC h l off cs) {s : Stamp} {n e : Nat} {ds : List C} (hj : cs[j]? = some (.arr s n e ds)) : ldO false 1 h (.ref l (off + j)) = some (.sl (l.hop (off + j) s) 0 n n e) := ha.ldC hj rfl
theorem AtC.ldOwn (ha : AtC h l off cs) {s : Stamp} {ds : List C} (hj : cs[j]? = some (.own s ds)) : ldO false 1 h (.ref l (off + j)) = some (.ref (l.hop (off + j) s) 0) := ha.ldC hj rfl
theorem AtC.ldVs (ha : AtC h l off cs) {xs : List V} {n : Nat} (hn : xs.length = n) (hj : (cs.drop j).take n = xs.map .v) (hp : 0 < n) : ldO true n h (.ref l (off + j)) = some (.agg xs) := by
  have : j + n ≤ cs.length := by
    have := congrArg List.length hj
    rw [List.length_take, List.length_drop, List.length_map, hn] at this
    omega
  rw [ha.ldAgg (xs := xs) this (by rw [hj, toVs_plain])]
  rfl
theorem AtC.st (ha : AtC h l off cs) {own : Bool} {σ : Stamp} {x : V} (hx : Still x) (hj : j < cs.length) : stO own 1 σ h (.ref l (off + j)) x = some (ptC h l off (cs.set j (.v x))) := by
  obtain ⟨p, q, hn, hp⟩ := ha
  rw [stO_still hx hn (by simp; omega), ptC_eq hn hp (by simp)]
  congr 2
  rw [List.append_assoc, List.set_append_right _ _ (by omega), List.set_append_left _ _ (by omega), ← List.append_assoc]
  congr 3
  omega
theorem AtC.stVs (ha : AtC h l off cs) {own : Bool} {σ : Stamp} {xs : List V} {n : Nat} (hx : Stills xs) (hn : xs.length = n) (hj : j + n ≤ cs.length) : stO own n σ h (.ref l (off + j)) (.agg xs) = some (ptC h l off (cs.take j ++ xs.map .v ++ cs.drop (j + n))) := by
  subst hn
  obtain ⟨p, q, hn, hp⟩ := ha
  rw [stO_agg hx hn (by simp; omega), ptC_eq hn hp (by simp; omega)]
  congr 2
  rw [List.append_assoc p, List.take_append, List.take_of_length_le (l := p) (by omega), List.drop_append, List.drop_of_length_le (l := p) (by omega), List.nil_append, hp, Nat.add_sub_cancel_left, Nat.add_assoc, Nat.add_sub_cancel_left, List.take_append_of_le_length (by omega), List.drop_append_of_le_length (by omega)]
  simp
theorem AtC.hop (ha : AtC h l off cs) {c : C} {s : Stamp} {ds : List C} (hj : cs[j]? = some c) (hd : c.node s = some ds) : AtC h (l.hop (off + j) s) 0 ds := by
  obtain ⟨p, q, hn, hp⟩ := ha
  have hlt := (List.getElem?_eq_some_iff.1 hj).1
  refine ⟨[], [], ?_, rfl⟩
  rw [nd_in hn (c := c) (ds := ds) _ hd]
  · simp
  · rw [List.append_assoc, List.getElem?_append_right (by omega), show off + j - p.length = j by omega, List.getElem?_append_left hlt, hj]
theorem AtC.hop_pt (ha : AtC h l off cs) {c : C} {s : Stamp} {ds ds' : List C} (hj : cs[j]? = some c) (hd : c.node s = some ds) (hl : ds'.length = ds.length) : ptC h (l.hop (off + j) s) 0 ds' = ptC h l off (cs.set j (c.withNode ds')) := by
  have h0 := ha
  obtain ⟨p, q, hn, hp⟩ := ha
  have hlt := (List.getElem?_eq_some_iff.1 hj).1
  have hc : (p ++ cs ++ q)[off + j]? = some c := by rw [List.append_assoc, List.getElem?_append_right (by omega), show off + j - p.length = j by omega, List.getElem?_append_left hlt, hj]
  have h1 : nd h (l.hop (off + j) s) = some ([] ++ ds ++ []) := by rw [nd_in hn hc hd]; simp
  rw [ptC_eq (off := 0) h1 rfl hl, ptC_eq hn hp (by simp)]
  simp only [List.nil_append, List.append_nil]
  rw [setNd_in hn hc hd]
  congr 1
  rw [List.append_assoc, List.set_append_right _ _ (by omega), List.set_append_left _ _ (by omega), ← List.append_assoc]
  congr 3
  omega
theorem AtC.seg (ha : AtC h l off cs) {m : Nat} (hj : j + m ≤ cs.length) : AtC h l (off + j) ((cs.drop j).take m) := by
  obtain ⟨p, q, hn, hp⟩ := ha
  refine ⟨p ++ cs.take j, cs.drop (j + m) ++ q, ?_, by simp; omega⟩
  rw [hn]
  congr 1
  simp only [List.append_assoc]
  congr 1
  rw [← List.drop_drop, ← List.append_assoc ((cs.drop j).take m), List.take_append_drop, ← List.append_assoc, List.take_append_drop]
theorem AtC.seg_pt (ha : AtC h l off cs) {m : Nat} {ds : List C} (hj : j + m ≤ cs.length) (hd : ds.length = m) : ptC h l (off + j) ds = ptC h l off (cs.take j ++ ds ++ cs.drop (j + m)) := by
  obtain ⟨p, q, hn, hp⟩ := ha
  have h1 : nd h l = some ((p ++ cs.take j) ++ (cs.drop j).take m ++ (cs.drop (j + m) ++ q)) := by
    rw [hn]
    congr 1
    simp only [List.append_assoc]
    congr 1
    rw [← List.drop_drop, ← List.append_assoc ((cs.drop j).take m), List.take_append_drop, ← List.append_assoc, List.take_append_drop]
  rw [ptC_eq h1 (by simp; omega) (by simp; omega), ptC_eq hn hp (by simp; omega)]
  congr 1
  simp
end

/-! ### Slices that are read, typed -/
section
variable {α : Type} {h : H} {d : Dt α} {xs : List α} {v : V}
/-- What lies at an element's address. -/
structure El (h : H) (v : V) (o : Nat) (ws : List V) : Prop where
  ld : ∀ {j y}, ws[j]? = some y → ldO false 1 h (adr v (o + j)) = some y
  fa : ∀ {j}, j ≤ ws.length → fA (adr v o) j = some (adr v (o + j))
  all : 0 < ws.length → ldO true ws.length h (adr v o) = some (.agg ws)
  ldn : ∀ {j n}, 0 < n → j + n ≤ ws.length → ldO true n h (adr v (o + j)) = some (.agg ((ws.drop j).take n))
theorem SlH.len (hv : SlH h d xs v) : lenO v = some (.p (.int .i64 xs.length)) := by obtain ⟨cs, h1, h2⟩ := hv; exact h1.lenO
theorem SlH.iS (hv : SlH h d xs v) {i : Int} {x : α} (hx : ix xs i = some x) {e : Nat} (he : d.sz = e) : Go.Ev.iS e v i = some (adr v (i.toNat * e)) := by
  subst he
  obtain ⟨cs, h1, h2⟩ := hv
  obtain ⟨h0, hi, _⟩ := ix_some hx
  exact h1.iS h0 (by omega)
theorem SlH.el (hv : SlH h d xs v) {i : Int} {x : α} (hx : ix xs i = some x) {e : Nat} (he : d.sz = e) : ∃ ws, d.R x ws ∧ El h v (i.toNat * e) ws := by
  subst he
  obtain ⟨cs, h1, h2⟩ := hv
  obtain ⟨h0, hi, rfl⟩ := ix_some hx
  obtain ⟨ws, hR, hw⟩ := RL.get (fun h => d.len h) h2 hi
  have hl := d.len hR
  have hc := h1.clen
  have hle : i.toNat * d.sz + d.sz ≤ cs.length := by
    have := Nat.mul_le_mul_right d.sz (Nat.succ_le_of_lt hi)
    rw [Nat.succ_mul] at this; omega
  refine ⟨ws, hR, ⟨fun {j y} hj => ?_, fun {j} hj => ?_, fun hp => ?_, fun {j n} hp hj => ?_⟩⟩
  · have hjl := (List.getElem?_eq_some_iff.1 hj).1
    refine h1.ld1 ?_
    rw [← hw, List.getElem?_take_of_lt (by omega), List.getElem?_drop] at hj
    exact hj
  · by_cases hz : d.sz = 0
    · have : j = 0 := by omega
      subst this
      rcases h1.cases with ⟨rfl, h3, rfl⟩ | ⟨t, rfl⟩ | ⟨l, off, av, ds, rfl, hn, hl, hv, hav⟩
      · omega
      · simp [adr, fA]
      · simp [adr, fA]
    · exact h1.fA (Nat.mul_pos (by omega) (by omega)) (by omega)
  · rw [hl] at hp ⊢
    rw [h1.ld hle hp, hw]; rfl
  · rw [h1.ld (by omega) hp, ← hw, List.drop_take, List.take_take, Nat.min_eq_left (by omega), List.drop_drop]; rfl
theorem SlH.sub (hv : SlH h d xs v) {a b : Int} {ys : List α} (hs : Ev.sub xs a b = some ys) {e : Nat} (he : d.sz = e) : SlH h d ys (subV e v a.toNat b.toNat) := by
  subst he
  obtain ⟨cs, h1, h2⟩ := hv
  obtain ⟨⟨q0, q1, q2⟩, rfl⟩ := sub_some hs
  have e1 : (b - a).toNat = b.toNat - a.toNat := by omega
  refine ⟨_, ?_, (RL.take (fun h => d.len h) (b - a).toNat (RL.drop (fun h => d.len h) a.toNat h2))⟩
  rw [e1]
  have := h1.sub (a := a.toNat) (b := b.toNat) (by omega) (by omega)
  rwa [List.length_take, List.length_drop, Nat.min_eq_left (by omega)]
theorem SlF.sub (hv : SlF d xs v) {a b : Int} {ys : List α} (hs : Ev.sub xs a b = some ys) {e : Nat} (he : d.sz = e) : SlF d ys (subV e v a.toNat b.toNat) := by
  subst he
  obtain ⟨cs, h1, h2⟩ := hv
  obtain ⟨⟨q0, q1, q2⟩, rfl⟩ := sub_some hs
  have e1 : (b - a).toNat = b.toNat - a.toNat := by omega
  refine ⟨_, ?_, (RL.take (fun h => d.len h) (b - a).toNat (RL.drop (fun h => d.len h) a.toNat h2))⟩
  rw [e1]
  intro h
  have := (h1 h).sub (a := a.toNat) (b := b.toNat) (by omega) (by omega)
  rwa [List.length_take, List.length_drop, Nat.min_eq_left (by omega)]
theorem SlH.slS (hv : SlH h d xs v) {a b : Int} {ys : List α} (hs : Ev.sub xs a b = some ys) {lo hi : Option Int} (ha : lo.getD 0 = a) (hb : hi.getD xs.length = b) {e : Nat} (he : d.sz = e) : Go.Ev.slS e v lo hi none = some (subV e v a.toNat b.toNat) := by
  subst he
  obtain ⟨cs, h1, h2⟩ := hv
  obtain ⟨⟨q0, q1, q2⟩, rfl⟩ := sub_some hs
  exact h1.slS ha hb q0 q1 q2
theorem SlF.nil (d : Dt α) : SlF d [] (.p (.slice none 0 0)) := ⟨[], .nil _, rfl⟩
theorem SlF.lit {cs : List V} {n : Nat} (hl : d.L xs cs) (hn : xs.length = n) {e : Nat} (he : d.sz = e) (t : Bool) : SlF d xs (.fz cs n e t) := by
  subst hn; subst he
  exact ⟨cs, .fz (RL.length (fun h => d.len h) hl) t, hl⟩
end

/-! ### A frame -/
structure Gw where
  {α : Type}
  D : List Nat
  v : V
  d : Dt α
  xs : List α
def Gw.ok (g : Gw) (L : Layer) (n0 : Nat) : Prop := ∃ cs, g.d.L g.xs cs ∧ GrowS g.D L n0 g.v g.d.sz g.xs.length cs
def freeG (Γ : List (Nat × Stamp × List C)) (d : Nat) : Bool := Γ.all fun e => e.1 != d
def freeD (Δ : List Gw) (d : Nat) : Bool := Δ.all fun g => !g.D.contains d
def freeL (D : List Nat) (Γ : List (Nat × Stamp × List C)) (Δ : List Gw) : Bool := D.all fun d => freeG Γ d && freeD Δ d
def Fm (N : Nat) (h0 : H) (B : List Rt) (Γ : List (Nat × Stamp × List C)) (Δ : List Gw) (Hp : H) : Prop :=
  ∃ L, Hp = L :: pts h0 B ∧ L.length = N ∧ BOk h0 B ∧ (∀ e ∈ Γ, L[e.1]? = some [.own e.2.1 e.2.2]) ∧ (∀ g ∈ Δ, g.ok L h0.length)
section
variable {N : Nat} {h0 Hp : H} {B : List Rt} {Γ Γ' : List (Nat × Stamp × List C)} {Δ Δ' : List Gw}
theorem Fm.start (hB : BOk h0 B) (hs : ∀ r ∈ B, AtC h0 r.l r.off r.cs) : Fm N h0 B [] [] (List.replicate N [] :: h0) :=
  ⟨List.replicate N [], by rw [BOk.same hs], List.length_replicate, hB, by simp, by simp⟩
theorem Fm.start0 : Fm N h0 [] [] [] (List.replicate N [] :: h0) := Fm.start trivial (by simp)
theorem Fm.wk (S : Fm N h0 B Γ Δ Hp) (hG : ∀ e ∈ Γ', e ∈ Γ) (hD : ∀ g ∈ Δ', g ∈ Δ) : Fm N h0 B Γ' Δ' Hp := by
  obtain ⟨L, h1, h2, h3, h4, h5⟩ := S
  exact ⟨L, h1, h2, h3, fun e he => h4 e (hG e he), fun g hg => h5 g (hD g hg)⟩
theorem Fm.moreD (S : Fm N h0 B Γ Δ Hp) {i : Nat} {g : Gw} (hi : Δ[i]? = some g) {D : List Nat} (hD : ∀ d ∈ g.D, d ∈ D) : Fm N h0 B Γ (Δ.set i { g with D := D }) Hp := by
  obtain ⟨L, h1, h2, h3, h4, h5⟩ := S
  refine ⟨L, h1, h2, h3, h4, fun g' hg' => ?_⟩
  rcases List.mem_or_eq_of_mem_set hg' with h | rfl
  · exact h5 g' h
  · obtain ⟨cs, q1, q2⟩ := h5 g (List.mem_of_getElem? hi)
    refine ⟨cs, q1, ?_⟩
    rcases q2 with q | ⟨q2, d', hd', r⟩ | ⟨a1, a2, a3, d', hd', a4⟩
    · exact .inl q
    · exact .inr (.inl ⟨q2, d', hD d' hd', r⟩)
    · exact .inr (.inr ⟨a1, a2, a3, d', hD d' hd', a4⟩)
theorem Fm.len (S : Fm N h0 B Γ Δ Hp) : Hp.length = h0.length + 1 := by
  obtain ⟨L, rfl, _⟩ := S; simp [pts_length]
theorem Fm.nil (S : Fm N h0 B Γ Δ Hp) {α : Type} (d : Dt α) (D : List Nat) : Fm N h0 B Γ (⟨D, .p (.slice none 0 0), d, []⟩ :: Δ) Hp := by
  obtain ⟨L, h1, h2, h3, h4, h5⟩ := S
  refine ⟨L, h1, h2, h3, h4, fun g hg => ?_⟩
  rcases List.mem_cons.1 hg with rfl | hg
  · exact ⟨[], rfl, .inl ⟨rfl, rfl, .inl rfl⟩⟩
  · exact h5 g hg
theorem Fm.nil' (S : Fm N h0 B Γ Δ Hp) {α : Type} (d : Dt α) (D : List Nat) {e : Nat} (he : d.sz = e) : Fm N h0 B Γ (⟨D, .fz [] 0 e true, d, []⟩ :: Δ) Hp := by
  subst he
  obtain ⟨L, h1, h2, h3, h4, h5⟩ := S
  refine ⟨L, h1, h2, h3, h4, fun g hg => ?_⟩
  rcases List.mem_cons.1 hg with rfl | hg
  · exact ⟨[], rfl, .inl ⟨rfl, rfl, .inr rfl⟩⟩
  · exact h5 g hg
/-- A list that is written out, as one that grows. -/
theorem Fm.lit (S : Fm N h0 B Γ Δ Hp) {α : Type} {d : Dt α} {xs : List α} {cs : List V} {n e m : Nat} (hl : d.L xs cs) (he : d.sz = e) (hn : xs.length = n) (hm : 1000000 ≤ m) : Fm N h0 B Γ (⟨[m], .fz cs n e true, d, xs⟩ :: Δ) Hp := by
  subst he; subst hn
  obtain ⟨L, h1, h2, h3, h4, h5⟩ := S
  refine ⟨L, h1, h2, h3, h4, fun g hg => ?_⟩
  rcases List.mem_cons.1 hg with rfl | hg
  · exact ⟨cs, hl, .inr (.inr ⟨rfl, RL.length (fun h => d.len h) hl, RL.stills hl, m, List.mem_singleton.2 rfl, hm⟩)⟩
  · exact h5 g hg
/-- A slice that grows reads as its list. -/
theorem Fm.sl (S : Fm N h0 B Γ Δ Hp) {i : Nat} {g : Gw} (hi : Δ[i]? = some g) : SlH Hp g.d g.xs g.v := by
  obtain ⟨L, rfl, h2, h3, h4, h5⟩ := S
  obtain ⟨cs, q1, q2⟩ := h5 g (List.mem_of_getElem? hi)
  rw [← pts_length B] at q2
  exact ⟨cs, q2.sl, q1⟩
/-- A slice of a lower frame. -/
theorem Fm.low (S : Fm N h0 [] Γ Δ Hp) {α : Type} {d : Dt α} {xs : List α} {v : V} (hv : SlH h0 d xs v) : SlH Hp d xs v := by
  obtain ⟨L, rfl, _⟩ := S
  obtain ⟨cs, q1, q2⟩ := hv
  exact ⟨cs, q1.up L, q2⟩
/-- A local variable. -/
theorem Fm.atG (S : Fm N h0 B Γ Δ Hp) {i d : Nat} {s : Stamp} {cs : List C} (hi : Γ[i]? = some (d, s, cs)) : AtC Hp ⟨h0.length, d, 0, s, []⟩ 0 cs := by
  obtain ⟨L, rfl, h2, h3, h4, h5⟩ := S
  have := h4 _ (List.mem_of_getElem? hi)
  refine ⟨[], [], ?_, rfl⟩
  rw [← pts_length B, nd_own this]; simp
theorem mem_set.{u} {α : Type u} {xs : List α} {i : Nat} {x y : α} (h : y ∈ xs.set i x) (hi : i < xs.length) : y = x ∨ y ∈ xs.eraseIdx i := by
  obtain ⟨j, hj⟩ := List.mem_iff_getElem?.1 h
  rw [List.getElem?_set] at hj
  split at hj
  · rename_i hij; subst hij
    first
      | exact .inl (Option.some.inj hj).symm
      | (rw [if_pos hi] at hj; exact .inl (Option.some.inj hj).symm)
  · rename_i hij
    exact .inr (List.mem_eraseIdx_iff_getElem?.2 ⟨j, Ne.symm hij, hj⟩)
theorem mem_erase.{u} {α : Type u} {xs : List α} {i : Nat} {y : α} (h : y ∈ xs.eraseIdx i) : y ∈ xs := by
  obtain ⟨j, _, hj⟩ := List.mem_eraseIdx_iff_getElem?.1 h
  exact List.mem_of_getElem? hj
theorem freeG_ne {d : Nat} (h : freeG Γ d = true) {e : Nat × Stamp × List C} (he : e ∈ Γ) : e.1 ≠ d := by
  have := List.all_eq_true.1 h e he
  simpa using this
theorem freeD_ne {d : Nat} (h : freeD Δ d = true) {g : Gw} (hg : g ∈ Δ) : d ∉ g.D := by
  have := List.all_eq_true.1 h g hg
  simpa using this
theorem Gw.ok.frame {g : Gw} {L L' : Layer} {n0 : Nat} (h : g.ok L n0) (hL : ∀ d ∈ g.D, L'[d]? = L[d]?) : g.ok L' n0 := by
  obtain ⟨cs, q1, q2⟩ := h
  exact ⟨cs, q1, q2.frame hL⟩
/-- It is written. -/
theorem Fm.setG (S : Fm N h0 B Γ Δ Hp) {i d : Nat} {s : Stamp} {cs cs' : List C} (hi : Γ[i]? = some (d, s, cs)) (hf : (freeG (Γ.eraseIdx i) d && freeD Δ d) = true) (hc : cs'.length = cs.length) : Fm N h0 B (Γ.set i (d, s, cs')) Δ (ptC Hp ⟨h0.length, d, 0, s, []⟩ 0 cs') := by
  obtain ⟨L, rfl, h2, h3, h4, h5⟩ := S
  have hL := h4 _ (List.mem_of_getElem? hi)
  have hlt := (List.getElem?_eq_some_iff.1 hi).1
  have hdl := (List.getElem?_eq_some_iff.1 hL).1
  simp only [Bool.and_eq_true] at hf
  refine ⟨L.set d [.own s cs'], ?_, by simpa using h2, h3, fun e he => ?_, fun g hg => ?_⟩
  · have hn := nd_own (h := pts h0 B) hL
    rw [← pts_length B]
    rw [ptC_eq (off := 0) (p := []) (q := []) (cs := cs) (by rw [hn]; simp) rfl hc, setNd_own hL]
    simp
  · rcases mem_set he hlt with rfl | he
    · simp only; rw [List.getElem?_set_self hdl]
    · rw [List.getElem?_set_ne (Ne.symm (freeG_ne hf.1 he))]; exact h4 e (mem_erase he)
  · exact (h5 g hg).frame fun x hx => by rw [List.getElem?_set_ne (fun e => freeD_ne hf.2 hg (by rw [e]; exact hx))]
/-- A thing of a lower frame. -/
theorem Fm.atB (S : Fm N h0 B Γ Δ Hp) {i : Nat} {r : Rt} (hi : B[i]? = some r) : AtC Hp r.l r.off r.cs := by
  obtain ⟨L, rfl, h2, h3, h4, h5⟩ := S
  exact (h3.at hi).up L
theorem Fm.setB (S : Fm N h0 B Γ Δ Hp) {i : Nat} {r : Rt} {cs : List C} (hi : B[i]? = some r) (hc : cs.length = r.cs.length) : Fm N h0 (B.set i ⟨r.l, r.off, cs⟩) Γ Δ (ptC Hp r.l r.off cs) := by
  obtain ⟨L, rfl, h2, h3, h4, h5⟩ := S
  exact ⟨L, by rw [(h3.at hi).put_up L hc, h3.pt hi hc], h2, h3.set hi hc, h4, h5⟩
/-- A cell of a variable is written. -/
theorem Fm.stG (S : Fm N h0 B Γ Δ Hp) {i d j : Nat} {s σ : Stamp} {own : Bool} {x : V} {cs : List C} (hi : Γ[i]? = some (d, s, cs)) (hf : (freeG (Γ.eraseIdx i) d && freeD Δ d) = true) (hx : Still x) (hj : (cs[j]?).isSome = true) :
    ∃ H', stO own 1 σ Hp (.ref ⟨h0.length, d, 0, s, []⟩ j) x = some H' ∧ Fm N h0 B (Γ.set i (d, s, cs.set j (.v x))) Δ H' := by
  have hlt : j < cs.length := by
    obtain ⟨y, hy⟩ := Option.isSome_iff_exists.1 hj
    exact (List.getElem?_eq_some_iff.1 hy).1
  have e := (S.atG hi).st (own := own) (σ := σ) hx hlt
  rw [Nat.zero_add] at e
  exact ⟨_, e, S.setG hi hf (by simp)⟩
theorem Fm.stGv (S : Fm N h0 B Γ Δ Hp) {i d j n : Nat} {s σ : Stamp} {own : Bool} {xs : List V} {cs : List C} (hi : Γ[i]? = some (d, s, cs)) (hf : (freeG (Γ.eraseIdx i) d && freeD Δ d) = true) (hx : Stills xs) (hn : xs.length = n) (hj : decide (j + n ≤ cs.length) = true) :
    ∃ H', stO own n σ Hp (.ref ⟨h0.length, d, 0, s, []⟩ j) (.agg xs) = some H' ∧ Fm N h0 B (Γ.set i (d, s, cs.take j ++ xs.map .v ++ cs.drop (j + n))) Δ H' := by
  have hj := of_decide_eq_true hj
  have e := (S.atG hi).stVs (own := own) (σ := σ) hx hn hj
  rw [Nat.zero_add] at e
  exact ⟨_, e, S.setG hi hf (by simp; omega)⟩
theorem Fm.stB (S : Fm N h0 B Γ Δ Hp) {i off j : Nat} {l : Loc} {σ : Stamp} {own : Bool} {x : V} {cs : List C} (hi : B[i]? = some ⟨l, off, cs⟩) (hx : Still x) (hj : (cs[j]?).isSome = true) :
    ∃ H', stO own 1 σ Hp (.ref l (off + j)) x = some H' ∧ Fm N h0 (B.set i ⟨l, off, cs.set j (.v x)⟩) Γ Δ H' := by
  have hlt : j < cs.length := by
    obtain ⟨y, hy⟩ := Option.isSome_iff_exists.1 hj
    exact (List.getElem?_eq_some_iff.1 hy).1
  exact ⟨_, (S.atB hi).st (own := own) (σ := σ) hx hlt, S.setB hi (by simp)⟩
theorem Fm.stBv (S : Fm N h0 B Γ Δ Hp) {i off j n : Nat} {l : Loc} {σ : Stamp} {own : Bool} {xs : List V} {cs : List C} (hi : B[i]? = some ⟨l, off, cs⟩) (hx : Stills xs) (hn : xs.length = n) (hj : decide (j + n ≤ cs.length) = true) :
    ∃ H', stO own n σ Hp (.ref l (off + j)) (.agg xs) = some H' ∧ Fm N h0 (B.set i ⟨l, off, cs.take j ++ xs.map .v ++ cs.drop (j + n)⟩) Γ Δ H' := by
  have hj := of_decide_eq_true hj
  exact ⟨_, (S.atB hi).stVs (own := own) (σ := σ) hx hn hj, S.setB hi (by simp; omega)⟩
/-- A new variable. -/
theorem Fm.add (S : Fm N h0 B Γ Δ Hp) {d : Nat} {s : Stamp} {cs : List C} (hd : d < N) (hf : (freeG Γ d && freeD Δ d) = true) : Fm N h0 B ((d, s, cs) :: Γ) Δ (setSlot Hp d [.own s cs]) := by
  obtain ⟨L, rfl, h2, h3, h4, h5⟩ := S
  simp only [Bool.and_eq_true] at hf
  refine ⟨L.set d [.own s cs], rfl, by simpa using h2, h3, fun e he => ?_, fun g hg => ?_⟩
  · rcases List.mem_cons.1 he with rfl | he
    · simp only; rw [List.getElem?_set_self (by omega)]
    · rw [List.getElem?_set_ne (Ne.symm (freeG_ne hf.1 he))]; exact h4 e he
  · exact (h5 g hg).frame fun x hx => by rw [List.getElem?_set_ne (fun e => freeD_ne hf.2 hg (by rw [e]; exact hx))]
theorem Fm.newLoc (S : Fm N h0 B Γ Δ Hp) (d : Nat) (s : Stamp) : Ev.newLoc Hp d s = ⟨h0.length, d, 0, s, []⟩ := by
  obtain ⟨L, rfl, _⟩ := S; rw [newLoc_cons, pts_length]
theorem Fm.al (S : Fm N h0 B Γ Δ Hp) {d : Nat} {s : Stamp} {z : List V} (hd : d < N) (hf : (freeG Γ d && freeD Δ d) = true) : ∃ H', alO z s d Hp = (.ref ⟨h0.length, d, 0, s, []⟩ 0, H') ∧ Fm N h0 B ((d, s, z.map .v) :: Γ) Δ H' :=
  ⟨_, by rw [alO, S.newLoc], S.add hd hf⟩
theorem Fm.box (S : Fm N h0 B Γ Δ Hp) {d : Nat} {s : Stamp} {own : Bool} {xs : List V} (hx : Stills xs) (hd : d < N) (hf : (freeG Γ d && freeD Δ d) = true) : ∃ H', boxO own s d Hp (.agg xs) = some (.ref ⟨h0.length, d, 0, s, []⟩ 0, H') ∧ Fm N h0 B ((d, s, xs.map .v) :: Γ) Δ H' :=
  ⟨_, by unfold boxO; rw [show (V.agg xs).cells = xs from rfl, layCs_still own _ hx]; simp only [Option.bind_some]; rw [S.newLoc], S.add hd hf⟩
theorem Fm.slot (S : Fm N h0 B Γ Δ Hp) {i d : Nat} {s : Stamp} {cs : List C} (hi : Γ[i]? = some (d, s, cs)) : slotOf Hp d = some [.own s cs] := by
  obtain ⟨L, rfl, h2, h3, h4, h5⟩ := S
  exact h4 _ (List.mem_of_getElem? hi)

/-- What may be appended. -/
def YsH {α : Type} (h : H) (d : Dt α) (ys : List α) (y : V) : Prop := ∃ cs, Ys h y d.sz ys.length cs ∧ d.L ys cs
theorem SlH.y {α : Type} {h : H} {d : Dt α} {ys : List α} {y : V} (hy : SlH h d ys y) : YsH h d ys y := by
  obtain ⟨cs, h1, h2⟩ := hy; exact ⟨cs, h1.ys, h2⟩
theorem Fm.app (S : Fm N h0 B Γ Δ Hp) {i d b e : Nat} {g : Gw} {own : Bool} {σ : Stamp} {y : V} {ys zs : List g.α} (hi : Δ[i]? = some g) (hy : YsH Hp g.d ys y) (hz : ap b g.xs ys = some zs) (he : g.d.sz = e) (hk : e ≠ 0) (hd : d < N) (hf : freeL (d :: g.D) Γ (Δ.eraseIdx i) = true) :
    ∃ v H', apO own e b σ d Hp g.v y = some (v, H') ∧ Fm N h0 B Γ (Δ.set i ⟨d :: g.D, v, g.d, zs⟩) H' := by
  subst he
  obtain ⟨⟨hb1, hb2⟩, rfl⟩ := ap_some hz
  obtain ⟨L, rfl, h2, h3, h4, h5⟩ := S
  obtain ⟨cs, q1, q2⟩ := h5 g (List.mem_of_getElem? hi)
  obtain ⟨ds, r1, r2⟩ := hy
  rw [← pts_length B] at q2
  have hlt := (List.getElem?_eq_some_iff.1 hi).1
  obtain ⟨v', L', e1, e2, e3, e4⟩ := q2.app (own := own) (σ := σ) (d := d) (by omega) r1 (RL.stills r2) hk hb1 hb2
  have hfr := List.all_eq_true.1 hf
  have nG : ∀ e ∈ Γ, e.1 ∉ d :: g.D := fun e he hm => by
    have := hfr _ hm
    simp only [Bool.and_eq_true] at this
    exact freeG_ne this.1 he rfl
  have nD : ∀ g' ∈ Δ.eraseIdx i, ∀ x ∈ g'.D, x ∉ d :: g.D := fun g' hg' x hx hm => by
    have := hfr _ hm
    simp only [Bool.and_eq_true] at this
    exact freeD_ne this.2 hg' hx
  refine ⟨v', _, e1, L', rfl, by omega, h3, fun e he => by rw [e4 _ (nG e he)]; exact h4 e he, fun g' hg' => ?_⟩
  rcases mem_set hg' hlt with rfl | hg'
  · refine ⟨cs ++ ds, q1.append r2, ?_⟩
    rw [← pts_length B, List.length_append]
    exact e2
  · exact (h5 g' (mem_erase hg')).frame fun x hx => e4 x (nD g' hg' x hx)
/-- An element of one is written. -/
theorem Fm.setD (S : Fm N h0 B Γ Δ Hp) {i e : Nat} {g : Gw} {own : Bool} {σ : Stamp} {k : Int} {x : g.α} {xv : V} {zs : List g.α} (hi : Δ[i]? = some g) (hz : stx g.xs k x = some zs) (he : g.d.sz = 1) (hx : g.d.R x [xv]) (hD : noLit g.D = true) (hf : freeL g.D Γ (Δ.eraseIdx i) = true) :
    ∃ H', stO own 1 σ Hp (adr g.v (k.toNat * 1)) xv = some H' ∧ Fm N h0 B Γ (Δ.set i ⟨g.D, g.v, g.d, zs⟩) H' := by
  obtain ⟨⟨hk0, hk1⟩, rfl⟩ := stx_some hz
  obtain ⟨L, rfl, h2, h3, h4, h5⟩ := S
  obtain ⟨cs, q1, q2⟩ := h5 g (List.mem_of_getElem? hi)
  rw [← pts_length B] at q2
  have hlt := (List.getElem?_eq_some_iff.1 hi).1
  have hcl := RL.length (fun h => g.d.len h) q1
  rw [he, Nat.mul_one] at hcl
  have hs : Still xv := g.d.still hx xv (List.mem_cons_self ..)
  obtain ⟨L', e1, e2, e3, e4⟩ := q2.set hD (own := own) (σ := σ) (j := k.toNat * 1) (x := xv) (by omega) hs
  have hfr := List.all_eq_true.1 hf
  refine ⟨_, e1, L', rfl, by omega, h3, fun e he => by
    rw [e4 _ fun hm => ?_]
    · exact h4 e he
    · have := hfr _ hm
      simp only [Bool.and_eq_true] at this
      exact freeG_ne this.1 he rfl, fun g' hg' => ?_⟩
  rcases mem_set hg' hlt with rfl | hg'
  · refine ⟨_, ?_, by rw [← pts_length B]; simpa using e2⟩
    have := q1.set (k := 1) (fun h => by rw [g.d.len h, he]) (i := k.toNat) (y := x) (by omega) hx
    rw [Nat.mul_one] at this
    rw [set_take_drop cs _ _ (by omega)] at this
    exact this
  · exact (h5 g' (mem_erase hg')).frame fun x hx => e4 x fun hm => by
      have := hfr _ hm
      simp only [Bool.and_eq_true] at this
      exact freeD_ne this.2 hg' hx
/-- 'make'. -/
theorem Fm.mk (S : Fm N h0 B Γ Δ Hp) {α : Type} {dt : Dt α} {d b e : Nat} {z : α} {zv : List V} {n : Int} {σ : Stamp} {zs : List α} (hz : Ev.mk b z n = some zs) (hR : dt.R z zv) (he : dt.sz = e) (hk : e ≠ 0) (hd : d < N) (hf : (freeG Γ d && freeD Δ d) = true) :
    ∃ v H', mkO e b zv σ d Hp n n = some (v, H') ∧ Fm N h0 B Γ (⟨[d], v, dt, zs⟩ :: Δ) H' := by
  subst he
  obtain ⟨⟨z0, z1, z2⟩, rfl⟩ := mk_some hz
  obtain ⟨L, rfl, h2, h3, h4, h5⟩ := S
  simp only [Bool.and_eq_true] at hf
  obtain ⟨v, L', e1, e2, e3, e4⟩ := GrowS.make (L := L) (h := pts h0 B) (b := b) (d := d) (z := zv) (n := n) (σ := σ) (by omega) z0 z1 (by omega) (dt.len hR) hk
  refine ⟨v, _, e1, L', rfl, by omega, h3, fun e he => by rw [e4 _ (freeG_ne hf.1 he)]; exact h4 e he, fun g hg => ?_⟩
  rcases List.mem_cons.1 hg with rfl | hg
  · refine ⟨_, RL.rep hR _, ?_⟩
    rw [← pts_length B]
    simpa using e2
  · exact (h5 g hg).frame fun x hx => e4 x fun h => freeD_ne hf.2 hg (h ▸ hx)
/-- A slice that a call made lands. -/
theorem Fm.land (S : Fm N h0 B Γ Δ Hp) {α : Type} {dt : Dt α} {d e n : Nat} {c : C} {cs : List V} {xs : List α} (ho : OwnS c dt.sz xs.length cs) (hl : dt.L xs cs) (hd : d < N) (hf : (freeG Γ d && freeD Δ d) = true) :
    ∃ v H', Ev.land Hp (some d) [c] = (v, H') ∧ Fm N h0 B Γ (⟨[d], v, dt, xs⟩ :: Δ) H' := by
  obtain ⟨L, rfl, h2, h3, h4, h5⟩ := S
  simp only [Bool.and_eq_true] at hf
  obtain ⟨v, L', e1, e2, e3, e4⟩ := ho.land (L := L) (h := pts h0 B) (d := d) (by omega)
  refine ⟨v, _, e1, L', rfl, by omega, h3, fun e he => by rw [e4 _ (freeG_ne hf.1 he)]; exact h4 e he, fun g hg => ?_⟩
  rcases List.mem_cons.1 hg with rfl | hg
  · exact ⟨cs, hl, by rw [← pts_length B]; exact e2⟩
  · exact (h5 g hg).frame fun x hx => e4 x fun h => freeD_ne hf.2 hg (h ▸ hx)
/-- The same, with plain results behind it. -/
theorem Fm.landN (S : Fm N h0 B Γ Δ Hp) {α : Type} {dt : Dt α} {d : Nat} {c : C} {cs : List V} {xs : List α} (ho : OwnS c dt.sz xs.length cs) (hl : dt.L xs cs) (hd : d < N) (hf : (freeG Γ d && freeD Δ d) = true) (y : V) (ys : List V) :
    ∃ v H', Ev.land Hp (some d) (c :: (y :: ys).map .v) = (.tup (v :: y :: ys), H') ∧ Fm N h0 B Γ (⟨[d], v, dt, xs⟩ :: Δ) H' := by
  obtain ⟨L, rfl, h2, h3, h4, h5⟩ := S
  simp only [Bool.and_eq_true] at hf
  obtain ⟨v, L', e1, e2, e3, e4⟩ := ho.landN (L := L) (h := pts h0 B) (d := d) (by omega) (y := y) ys
  refine ⟨v, _, e1, L', rfl, by omega, h3, fun e he => by rw [e4 _ (freeG_ne hf.1 he)]; exact h4 e he, fun g hg => ?_⟩
  rcases List.mem_cons.1 hg with rfl | hg
  · exact ⟨cs, hl, by rw [← pts_length B]; exact e2⟩
  · exact (h5 g hg).frame fun x hx => e4 x fun h => freeD_ne hf.2 hg (h ▸ hx)
/-! ### Results -/
theorem Fm.fin0 (S : Fm N h0 B Γ Δ Hp) {frz : Bool} {σ : Stamp} : fin frz σ Hp [] = some ([], pts h0 B) := by
  obtain ⟨L, rfl, _⟩ := S; exact fin_0
/-- Each result leaves as it is. -/
def Lv1 (x : V) : Prop := ∀ frz τ h, expF frz τ h x = some (.v x, h)
theorem Still.lv {x : V} (h : Still x) : Lv1 x := h.exp
theorem Stills.lv {xs : List V} (h : Stills xs) : Lv1 (.agg xs) := fun _ τ h' => expF_agg h τ h'
theorem Fm.finN (S : Fm N h0 B Γ Δ Hp) {frz : Bool} {σ : Stamp} {xs : List V} (hx : ∀ x ∈ xs, Lv1 x) : fin frz σ Hp xs = some (xs.map .v, pts h0 B) := by
  obtain ⟨L, rfl, _⟩ := S
  have : ∀ (xs : List V) (j : Nat), (∀ x ∈ xs, Lv1 x) → expCs frz (1 :: σ) j (L :: pts h0 B) xs = some (xs.map .v, L :: pts h0 B) := fun xs => by
    induction xs with
    | nil => intro j _; rfl
    | cons x xs ih => intro j hx; simp only [expCs, hx x (List.mem_cons_self ..) frz, Option.bind_some, ih (j + 1) (fun y hy => hx y (List.mem_cons_of_mem _ hy)), Option.map_some, List.map_cons]
  simp [fin, this xs 0 hx]
theorem Fm.finFrz (S : Fm N h0 B Γ Δ Hp) {i : Nat} {g : Gw} (hi : Δ[i]? = some g) {σ : Stamp} : ∃ v, fin true σ Hp [g.v] = some ([.v v], pts h0 B) ∧ SlF g.d g.xs v := by
  obtain ⟨L, rfl, h2, h3, h4, h5⟩ := S
  obtain ⟨cs, q1, q2⟩ := h5 g (List.mem_of_getElem? hi)
  rw [← pts_length B] at q2
  obtain ⟨v, e1, e2⟩ := q2.frz σ
  exact ⟨v, e1, cs, e2, q1⟩
theorem Fm.finOwn (S : Fm N h0 B Γ Δ Hp) {i : Nat} {g : Gw} (hi : Δ[i]? = some g) (hD : noLit g.D = true) {σ : Stamp} : ∃ c cs, fin false σ Hp [g.v] = some ([c], pts h0 B) ∧ OwnS c g.d.sz g.xs.length cs ∧ g.d.L g.xs cs := by
  obtain ⟨L, rfl, h2, h3, h4, h5⟩ := S
  obtain ⟨cs, q1, q2⟩ := h5 g (List.mem_of_getElem? hi)
  rw [← pts_length B] at q2
  obtain ⟨c, e1, e2⟩ := q2.own hD σ
  exact ⟨c, cs, e1, e2, q1⟩
end
end Go.Ev
/- More rules for runs against plain functions: results, strings, library words. -/
namespace Go.Ev
set_option linter.unusedVariables false
set_option linter.unusedSimpArgs false
section
variable {β α γ δ : Type} {x : Option β} {Q : β → α → Prop} {K : δ → Option α}
theorem Sim.as {A : Option γ} {g : γ → Option δ} (s : Sim x (A.bind fun v => (g v).bind K) Q) : Sim x ((A.bind g).bind K) Q := by
  rw [Option.bind_assoc]; exact s
theorem Sim.ext {Y Y' : Option δ} (e : Y = Y') (s : Sim x (Y'.bind K) Q) : Sim x (Y.bind K) Q := by rw [e]; exact s
theorem Sim.top {Y : Option α} (s : Sim x (Y.bind some) Q) : Sim x Y Q := by cases Y <;> exact s
theorem Sim.bot {Y : Option α} (s : Sim x Y Q) : Sim x (Y.bind some) Q := by cases Y <;> exact s
theorem Sim.pure {v : δ} (s : Sim x (K v) Q) : Sim x ((some v).bind K) Q := s
end
theorem st_map {o : Option H} {h : H} (e : o = some h) : (o.map fun h => ((udf : V), h)) = some (udf, h) := by rw [e]; rfl
theorem pick_i (c : Bool) (k : IntKind) (a b : Int) : pickV (.p (.bool c)) (.p (.int k a)) (.p (.int k b)) = some (.p (.int k (bif c then a else b))) := by cases c <;> rfl
theorem pick_b (c a b : Bool) : pickV (.p (.bool c)) (.p (.bool a)) (.p (.bool b)) = some (.p (.bool (bif c then a else b))) := by cases c <;> rfl
theorem pick_s (c : Bool) (a b : ByteArray) : pickV (.p (.bool c)) (.p (.string a)) (.p (.string b)) = some (.p (.string (bif c then a else b))) := by cases c <;> rfl
/-! ### Results -/
theorem lv_nil : ∀ x ∈ ([] : List V), Lv1 x := fun _ h => by cases h
theorem lv_cons {x : V} {xs : List V} (h : Lv1 x) (t : ∀ y ∈ xs, Lv1 y) : ∀ y ∈ x :: xs, Lv1 y := fun y hy => by
  rcases List.mem_cons.1 hy with rfl | hy
  · exact h
  · exact t y hy
def Ex (frz : Bool) (τ : Stamp) (j : Nat) (h : H) (xs : List V) (cs : List C) (h' : H) : Prop := expCs frz τ j h xs = some (cs, h')
theorem Ex.nil {frz : Bool} {τ : Stamp} {j : Nat} {h : H} : Ex frz τ j h [] [] h := rfl
theorem Ex.pl {frz : Bool} {τ : Stamp} {j : Nat} {h h' : H} {x : V} {xs : List V} {cs : List C} (hx : Lv1 x) (t : Ex frz τ (j + 1) h xs cs h') : Ex frz τ j h (x :: xs) (.v x :: cs) h' := by
  unfold Ex at t ⊢; simp only [expCs, hx frz, Option.bind_some, t, Option.map_some]
theorem Ex.st {frz : Bool} {τ : Stamp} {j : Nat} {h h1 h' : H} {x : V} {c : C} {xs : List V} {cs : List C} (hx : expF frz (j :: τ) h x = some (c, h1)) (t : Ex frz τ (j + 1) h1 xs cs h') : Ex frz τ j h (x :: xs) (c :: cs) h' := by
  unfold Ex at t ⊢; simp only [expCs, hx, Option.bind_some, t, Option.map_some]
section
variable {N : Nat} {h0 Hp : H} {B : List Rt} {Γ : List (Nat × Stamp × List C)} {Δ : List Gw}
theorem Fm.finE (S : Fm N h0 B Γ Δ Hp) {frz : Bool} {σ : Stamp} {H : Ev.H} {xs : List V} {cs : List C} (e : Ex frz (1 :: σ) 0 H xs cs Hp) : fin frz σ H xs = some (cs, pts h0 B) := by
  obtain ⟨L, rfl, _⟩ := S
  unfold Ex at e
  simp [fin, e]
theorem dead_ok {L : Layer} {d : Nat} (S : Fm N h0 B Γ Δ (L :: pts h0 B)) (hf : (freeG Γ d && freeD Δ d) = true) (c : List C) : Fm N h0 B Γ Δ (L.set d c :: pts h0 B) := by
  obtain ⟨L', he, h2, h3, h4, h5⟩ := S
  obtain ⟨rfl, _⟩ := List.cons.inj he
  simp only [Bool.and_eq_true] at hf
  refine ⟨_, rfl, by simpa using h2, h3, fun e he => ?_, fun g hg => ?_⟩
  · rw [List.getElem?_set_ne (Ne.symm (freeG_ne hf.1 he))]; exact h4 e he
  · exact (h5 g hg).frame fun x hx => by rw [List.getElem?_set_ne (fun e => freeD_ne hf.2 hg (by rw [e]; exact hx))]
theorem mem_one {D : List Nat} {Γ : List (Nat × Stamp × List C)} {Δ : List Gw} (hf : freeL D Γ Δ = true) {d : Nat} (hd : d ∈ D) : (freeG Γ d && freeD Δ d) = true := List.all_eq_true.1 hf d hd
/-- A slice that grew leaves, frozen. -/
theorem Fm.expFrz (S : Fm N h0 B Γ Δ Hp) {i : Nat} {g : Gw} (hi : Δ[i]? = some g) (hf : freeL g.D Γ (Δ.eraseIdx i) = true) {τ : Stamp} : ∃ v H', expF true τ Hp g.v = some (.v v, H') ∧ SlF g.d g.xs v ∧ Fm N h0 B Γ (Δ.eraseIdx i) H' := by
  have S' : Fm N h0 B Γ (Δ.eraseIdx i) Hp := S.wk (fun _ h => h) (fun _ h => mem_erase h)
  obtain ⟨L, rfl, h2, h3, h4, h5⟩ := S
  obtain ⟨cs, q1, q2⟩ := h5 g (List.mem_of_getElem? hi)
  rw [← pts_length B] at q2
  rcases q2 with ⟨e1, e2, e3⟩ | ⟨q2, d', hd', s, tl, hv, h6⟩ | ⟨hv, q2, _⟩
  · refine ⟨g.v, _, ?_, ⟨cs, ?_, q1⟩, S'⟩
    · rcases e3 with e | e <;> rw [e]
      · exact still_nilS.exp ..
      · exact (still_fz ..).exp ..
    · rw [e1, e2]
      rcases e3 with e | e <;> rw [e]
      · exact .nil _
      · exact .fz (by simp) _
  · refine ⟨.fz cs g.xs.length g.d.sz false, _, ?_, ⟨cs, .fz q2 _, q1⟩, dead_ok S' (mem_one hf hd') (.dead :: tl)⟩
    rw [hv, expF_frz h6 q2]
  · exact ⟨g.v, _, by rw [hv]; exact (still_fz ..).exp .., ⟨cs, by rw [hv]; exact .fz q2 _, q1⟩, S'⟩
/-- The same, as its owner's. -/
theorem Fm.expOwn (S : Fm N h0 B Γ Δ Hp) {i : Nat} {g : Gw} (hi : Δ[i]? = some g) (hD : noLit g.D = true) (hf : freeL g.D Γ (Δ.eraseIdx i) = true) {τ : Stamp} : ∃ c cs H', expF false τ Hp g.v = some (c, H') ∧ OwnS c g.d.sz g.xs.length cs ∧ g.d.L g.xs cs ∧ Fm N h0 B Γ (Δ.eraseIdx i) H' := by
  have S' : Fm N h0 B Γ (Δ.eraseIdx i) Hp := S.wk (fun _ h => h) (fun _ h => mem_erase h)
  obtain ⟨L, rfl, h2, h3, h4, h5⟩ := S
  obtain ⟨cs, q1, q2⟩ := h5 g (List.mem_of_getElem? hi)
  rw [← pts_length B] at q2
  rcases q2 with ⟨e1, e2, e3⟩ | ⟨q2, d', hd', s, tl, hv, h6⟩ | ⟨_, _, _, hd⟩
  · refine ⟨.v g.v, cs, _, ?_, ⟨by rw [e1, e2]; simp, .inl ⟨e1, e2, ?_⟩⟩, q1, S'⟩
    · rcases e3 with e | e <;> rw [e]
      · exact still_nilS.exp ..
      · exact (still_fz ..).exp ..
    · rcases e3 with e | e <;> rw [e] <;> simp
  · refine ⟨.arr s g.xs.length g.d.sz (cs.map .v), cs, _, ?_, ⟨q2, .inr ⟨s, rfl⟩⟩, q1, dead_ok S' (mem_one hf hd') (.dead :: tl)⟩
    rw [hv, expF_arr h6 (by simpa using q2)]
  · exact (noLit_no hD hd).elim
end
/-! ### Structs are built -/
def fillC (places : Nat → Option (Nat × Nat)) (cells : List V) : List (Nat × List V) → Option (List V)
  | [] => some cells
  | (i, v) :: rest =>
    match places i with
    | none => none
    | some (off, size) =>
      if v.length ≠ size ∨ off + v.length > cells.length then none
      else fillC places (cells.take off ++ v ++ cells.drop (off + v.length)) rest
theorem fillC_ok (places : Nat → Option (Nat × Nat)) : ∀ (parts : List (Nat × V)) (cells : List V), fillV places cells parts = fillC places cells (parts.map fun q => (q.1, q.2.cells))
  | [], cells => rfl
  | (i, v) :: rest, cells => by
    simp only [fillV, fillC, List.map_cons]
    cases places i with
    | none => rfl
    | some q =>
      simp only
      split
      · rfl
      · exact fillC_ok places rest _
def buildC (P : Program) (t : TypeId) (parts : List (Nat × List V)) : Option V :=
  (tzero P t).bind fun zero =>
  match P.underlying t with
  | some (.struct fs) => if fs.toList.all (fun f => known P f.type) then (fillC (fun i => (fs[i]?).map fun f => (f.offset, tsize P f.type)) zero parts).map .agg else none
  | some (.array _ e) => if known P e then (fillC (fun i => some (i * tsize P e, tsize P e)) zero parts).map .agg else none
  | _ => none
def buildSliceC (P : Program) (t : TypeId) (len : Nat) (parts : List (Nat × List V)) : Option V :=
  (telem P t).bind fun e => (tzero P e).bind fun zero =>
  if zero.length ≠ tsize P e ∨ tsize P e = 0 ∨ len * tsize P e > 2 ^ 24 then none else
  (fillC (fun i => some (i * tsize P e, tsize P e)) (rept len zero) parts).map fun cs => .fz cs len (tsize P e) true
theorem bldV {P : Program} {t : TypeId} {parts : List (Nat × V)} {cs : List (Nat × List V)} {r : V} (hp : (parts.map fun q => (q.1, q.2.cells)) = cs) (hb : buildC P t cs = some r) : buildV P t parts = some r := by
  rw [← hb, ← hp]; unfold buildV buildC; simp only [fillC_ok]; rfl
theorem bldS {P : Program} {t : TypeId} {n : Nat} {parts : List (Nat × V)} {cs : List (Nat × List V)} {r : V} (hp : (parts.map fun q => (q.1, q.2.cells)) = cs) (hb : buildSliceC P t n cs = some r) : buildSliceV P t n parts = some r := by
  rw [← hb, ← hp]; unfold buildSliceV buildSliceC; simp only [fillC_ok]
theorem pt_nil : (([] : List (Nat × V)).map fun q => (q.1, q.2.cells)) = [] := rfl
theorem pt_cons {i : Nat} {v : V} {c : List V} {ps : List (Nat × V)} {cs : List (Nat × List V)} (h : v.cells = c) (t : (ps.map fun q => (q.1, q.2.cells)) = cs) : (((i, v) :: ps).map fun q => (q.1, q.2.cells)) = (i, c) :: cs := by rw [List.map_cons, h, t]
/-! ### Shifts, quotients -/
def shP (op : BinOp) (k : IntKind) (a b : Int) : Option Int := if b < 0 then none else match op with
  | .shl => some (k.wrap (a * 2 ^ min b.toNat k.bits))
  | .shr => some (a.fdiv (2 ^ min b.toNat k.bits))
  | _ => none
theorem shP_ok {op : BinOp} {k : IntKind} {a b n : Int} (h : shP op k a b = some n) : shiftV op k a b = some (.p (.int k n)) := by
  unfold shP at h; unfold shiftV
  split at h
  · cases h
  · rename_i h0
    rw [if_neg h0]
    split at h <;> cases h <;> rfl
def divP (k : IntKind) (a b : Int) : Option Int := if b = 0 then none else some (k.wrap (a.tdiv b))
def remP (a b : Int) : Option Int := if b = 0 then none else some (a.tmod b)
theorem divP_ok {k : IntKind} {a b n : Int} (h : divP k a b = some n) : divI k a b = some (.p (.int k n)) := by
  unfold divP at h; unfold divI
  split at h
  · cases h
  · rename_i h0; rw [if_neg h0]; cases h; rfl
theorem remP_ok {k : IntKind} {a b n : Int} (h : remP a b = some n) : remI k a b = some (.p (.int k n)) := by
  unfold remP at h; unfold remI
  split at h
  · cases h
  · rename_i h0; rw [if_neg h0]; cases h; rfl
def addS (a b : ByteArray) : Option ByteArray := if ((a.size + b.size : Nat) : Int) > 9223372036854775807 then none else some (a ++ b)
theorem addS_ok {a b s : ByteArray} (h : addS a b = some s) : strBin .add a b = some (.p (.string s)) := by
  unfold addS at h; unfold strBin
  split at h
  · cases h
  · rename_i h0
    cases h
    simp only
    rw [if_neg]
    intro hx; exact h0 hx
/-! ### Strings -/
def strB (xs : List Int) : ByteArray := ⟨(xs.map fun n => UInt8.ofNat n.toNat).toArray⟩
def bytesS (s : ByteArray) : List Int := s.data.toList.map fun b => (b.toNat : Int)
def ixS (s : ByteArray) (i : Int) : Option Int := if 0 ≤ i then (s[i.toNat]?).map fun b => (b.toNat : Int) else none
theorem ixS_ok {s : ByteArray} {i n : Int} (h : ixS s i = some n) : iStr s i = some (.p (.int .u8 n)) := by
  unfold ixS at h; unfold iStr
  split at h
  · rename_i h0
    rw [if_pos h0]
    obtain ⟨b, hb, rfl⟩ := Option.map_eq_some_iff.1 h
    rw [hb]; rfl
  · cases h
theorem RL.ints {k : IntKind} : ∀ {xs : List Int} {cs : List V}, (dI k).L xs cs → cs = xs.map fun n => .p (.int k n)
  | [], cs, h => h
  | x :: xs, cs, ⟨a, b, h1, h2, h3⟩ => by
    have e : a = [.p (.int k x)] := h2
    subst h1; subst e
    rw [RL.ints h3]; rfl
theorem RL.of_ints (k : IntKind) : ∀ (xs : List Int), (dI k).L xs (xs.map fun n => .p (.int k n))
  | [] => rfl
  | x :: xs => .cons (show (dI k).R x [.p (.int k x)] from rfl) (RL.of_ints k xs)
theorem bytesOfV_ints : ∀ (xs : List Int), bytesOfV (xs.map fun n => .p (.int .u8 n)) = some (xs.map fun n => UInt8.ofNat n.toNat)
  | [] => rfl
  | x :: xs => by simp [bytesOfV, bytesOfV_ints xs]
theorem SlH.str {h : H} {xs : List Int} {v : V} (hv : SlH h (dI .u8) xs v) : strO h v = some (.p (.string (strB xs))) := by
  obtain ⟨cs, h1, h2⟩ := hv
  have e := RL.ints h2
  subst e
  have hl := h1.sl
  unfold strO
  split
  · simp [isSl] at hl
  · simp only [toS, hl, h1.cells, h1.len, Option.bind_some, and_self, if_true]
    rw [if_pos (by simp), bytesOfV_ints]; rfl
theorem ysS (h : H) (s : ByteArray) : YsH h (dI .u8) (bytesS s) (.p (.string s)) := by
  refine ⟨_, ⟨?_, rfl, ?_⟩, ?_⟩
  · show some s.size = some (bytesS s).length
    unfold bytesS; rw [List.length_map]; rfl
  · unfold bytesS; rw [List.length_map, List.length_map]; exact (Nat.mul_one _).symm
  · have := RL.of_ints .u8 (bytesS s)
    have e : (bytesS s).map (fun n => V.p (.int .u8 n)) = s.data.toList.map fun b => .p (.int .u8 b.toNat) := by unfold bytesS; rw [List.map_map]; rfl
    rw [e] at this; exact this
def subS (s : ByteArray) (a b : Int) : Option ByteArray := if 0 ≤ a ∧ a ≤ b ∧ b ≤ s.size then some (s.extract a.toNat b.toNat) else none
theorem subS_ok {s t : ByteArray} {a b : Int} {lo hi : Option Int} (h : subS s a b = some t) (ha : lo.getD 0 = a) (hb : hi.getD s.size = b) : slStr s lo hi = some (.p (.string t)) := by
  unfold subS at h
  split at h
  · rename_i h0
    cases h
    have g : ∀ (o : Option Int) (d lim : Nat) (x : Int), o.getD (d : Int) = x → 0 ≤ x → x ≤ lim → bI o d lim = some x.toNat := fun o d lim x e e0 e1 => by
      cases o with
      | none => simp only [Option.getD_none] at e; subst e; simp [bI]
      | some y => simp only [Option.getD_some] at e; subst e; simp [bI, e0, e1]
    unfold slStr
    rw [g hi _ _ b hb (by omega) (by omega)]
    simp only [Option.bind_some]
    rw [g lo 0 b.toNat a (by simpa using ha) h0.1 (by omega)]
    rfl
  · cases h
theorem SlF.bytes (s : ByteArray) : SlF (dI .u8) (bytesS s) (.fz (s.data.toList.map fun b => .p (.int .u8 b.toNat)) s.size 1 false) := by
  have e : (bytesS s).map (fun n => V.p (.int .u8 n)) = s.data.toList.map fun b => .p (.int .u8 b.toNat) := by unfold bytesS; rw [List.map_map]; rfl
  have := RL.of_ints .u8 (bytesS s)
  rw [e] at this
  refine SlF.lit this ?_ rfl false
  unfold bytesS; rw [List.length_map]; rfl
end Go.Ev
/- Frames at a loop's head; slices.Clip. -/
namespace Go.Ev
set_option linter.unusedVariables false
set_option linter.unusedSimpArgs false
theorem Sim.cdk {β α γ δ : Type} {Q : β → α → Prop} {K : δ → Option α} {c : Bool} {a b : Option β} {A B : Option γ} {g : γ → Option δ} (s : c = true → Sim a ((A.bind g).bind K) Q) (t : c = false → Sim b ((B.bind g).bind K) Q) :
    Sim (bif c then a else b) (((bif c then A else B).bind g).bind K) Q := by
  cases c
  · exact t rfl
  · exact s rfl
theorem all_nil.{u} {α : Type u} {P : α → Prop} : ∀ x ∈ ([] : List α), P x := fun _ h => by cases h
theorem all_cons.{u} {α : Type u} {P : α → Prop} {a : α} {l : List α} (h : P a) (t : ∀ x ∈ l, P x) : ∀ x ∈ a :: l, P x := fun x hx => by
  rcases List.mem_cons.1 hx with rfl | hx
  · exact h
  · exact t x hx
theorem at_mem.{u} {α : Type u} {a : α} {l : List α} (i : Nat) (h : l[i]? = some a) : a ∈ l := List.mem_of_getElem? h
section
variable {N : Nat} {h0 Hp : H} {B : List Rt} {Γ Γ' : List (Nat × Stamp × List C)} {Δ Δ' : List Gw}
theorem Fm.wk2 (S : Fm N h0 B Γ Δ Hp) (hG : ∀ e ∈ Γ', e ∈ Γ) (hD : ∀ g ∈ Δ', ∃ D, (∀ d ∈ D, d ∈ g.D) ∧ (⟨D, g.v, g.d, g.xs⟩ : Gw) ∈ Δ) : Fm N h0 B Γ' Δ' Hp := by
  obtain ⟨L, h1, h2, h3, h4, h5⟩ := S
  refine ⟨L, h1, h2, h3, fun e he => h4 e (hG e he), fun g hg => ?_⟩
  obtain ⟨D, q1, q2⟩ := hD g hg
  obtain ⟨cs, r1, r2⟩ := h5 _ q2
  refine ⟨cs, r1, ?_⟩
  rcases r2 with q | ⟨r2, d', hd', r⟩ | ⟨a1, a2, a3, d', hd', a4⟩
  · exact .inl q
  · exact .inr (.inl ⟨r2, d', q1 d' hd', r⟩)
  · exact .inr (.inr ⟨a1, a2, a3, d', q1 d' hd', a4⟩)
theorem Fm.start1 {l : Loc} {off : Nat} {cs : List C} (ha : AtC h0 l off cs) : Fm N h0 [⟨l, off, cs⟩] [] [] (List.replicate N [] :: h0) :=
  Fm.start ⟨⟨cs, rfl, ha⟩, all_nil, trivial⟩ (all_cons ha all_nil)
theorem Fm.start2 {l l' : Loc} {off off' : Nat} {cs cs' : List C} (ha : AtC h0 l off cs) (hb : AtC h0 l' off' cs') (hk : l'.key ≠ l.key) : Fm N h0 [⟨l, off, cs⟩, ⟨l', off', cs'⟩] [] [] (List.replicate N [] :: h0) :=
  Fm.start ⟨⟨cs, rfl, ha⟩, all_cons hk all_nil, ⟨cs', rfl, hb⟩, all_nil, trivial⟩ (all_cons ha (all_cons hb all_nil))
def clipBody (e n : Nat) (σ : Stamp) (x : V) (h : H) : Option (List C × H) :=
  (lenO x).bind fun t1 => (castI .i64 t1).bind fun n2 => (lenO x).bind fun t3 => (castI .i64 t3).bind fun n4 => (slS e x none (some n2) (some n4)).bind fun t5 => fin false σ (List.replicate n [] :: h) [t5]
theorem clip_body {e n : Nat} {σ : Stamp} {x : V} {h : H} {m : Nat} {y : V} (hl : lenO x = some (.p (.int .i64 m))) (hs : slS e x none (some m) (some m) = some y) (hf : fin false σ (List.replicate n [] :: h) [y] = some ([.v y], h)) : clipBody e n σ x h = some ([.v y], h) := by
  unfold clipBody
  simp only [hl, Option.bind_some, castI_p, hs, hf]
/-- slices.Clip of a slice that grew. -/
theorem clip_D {G : Cfg} {X : CallF} {f n e i d : Nat} {g : Gw} {σ : Stamp} (entry : ∀ (x : V) (h : H), cvBody G (ev G X) (cvL G X) f σ [x] h = clipBody e n σ x h)
    (S : Fm N h0 B Γ Δ Hp) (hi : Δ[i]? = some g) (he : g.d.sz = e) (hX : X f σ [g.v] Hp = none) :
    ∃ v, callO (ev G X) f σ [g.v] Hp (some d) = some (v, Hp) ∧ Fm N h0 B Γ (Δ.set i ⟨g.D, v, g.d, g.xs⟩) Hp := by
  subst he
  have S0 := S
  obtain ⟨L, rfl, h2, h3, h4, h5⟩ := S
  have h5g := h5 g (List.mem_of_getElem? hi)
  obtain ⟨cs, q1, q2⟩ := h5g
  have len : lenO g.v = some (.p (.int .i64 g.xs.length)) := (S0.sl hi).len
  have key : ∃ v, slS g.d.sz g.v none (some g.xs.length) (some g.xs.length) = some v ∧ GrowS g.D L h0.length v g.d.sz g.xs.length cs ∧ fin false σ (List.replicate n [] :: L :: pts h0 B) [v] = some ([.v v], L :: pts h0 B) := by
    rcases q2 with ⟨e1, e2, e3 | e3⟩ | ⟨q2, d', hd', s, tl, hv, h6⟩ | ⟨hv, a2, a3, a4⟩
    · rw [e1, e3]; exact ⟨_, rfl, .inl ⟨rfl, e2, .inl rfl⟩, fin_1 still_nilS⟩
    · rw [e1, e3]; exact ⟨.fz [] 0 g.d.sz true, by simp [slS, bI], .inl ⟨rfl, e2, .inr rfl⟩, fin_1 (still_fz ..)⟩
    · rw [hv]
      by_cases h0' : g.xs.length = 0
      · have : cs = [] := by rw [h0'] at q2; simpa using q2
        refine ⟨.fz [] 0 g.d.sz true, ?_, .inl ⟨h0', this, .inr rfl⟩, fin_1 (still_fz ..)⟩
        rw [h0']; simp [slS, bI]
      · refine ⟨.sl ⟨h0.length, d', 0, s, []⟩ 0 g.xs.length g.xs.length g.d.sz, ?_, .inr (.inl ⟨q2, d', hd', s, tl, rfl, h6⟩), ?_⟩
        · simp [slS, bI, h0']
        · exact fin_low (by simp [pts_length])
    · rw [hv]
      exact ⟨.fz cs g.xs.length g.d.sz true, by simp [slS, bI, ← a2], .inr (.inr ⟨rfl, a2, a3, a4⟩), fin_1 (still_fz ..)⟩
  obtain ⟨v, k1, k2, k3⟩ := key
  refine ⟨v, ?_, L, rfl, h2, h3, h4, fun g' hg' => ?_⟩
  · exact callO_1 (ev_cv hX (by rw [entry]; exact clip_body len k1 k3))
  · rcases mem_set hg' (List.getElem?_eq_some_iff.1 hi).1 with rfl | hg'
    · exact ⟨cs, q1, k2⟩
    · exact h5 g' (mem_erase hg')
/-- The same of a frozen one. -/
theorem clip_F {G : Cfg} {X : CallF} {f n e : Nat} {d : Nat} {σ : Stamp} {α : Type} {dt : Dt α} {xs : List α} {x : V} (entry : ∀ (x : V) (h : H), cvBody G (ev G X) (cvL G X) f σ [x] h = clipBody e n σ x h)
    (hx : SlF dt xs x) (he : dt.sz = e) (hX : X f σ [x] Hp = none) :
    ∃ v, callO (ev G X) f σ [x] Hp (some d) = some (v, Hp) ∧ SlF dt xs v := by
  subst he
  have len : lenO x = some (.p (.int .i64 xs.length)) := (hx.h Hp).len
  obtain ⟨cs, q1, q2⟩ := hx
  have key : ∃ v, slS dt.sz x none (some xs.length) (some xs.length) = some v ∧ Fz v dt.sz xs.length cs := by
    rcases (q1 []).cases with ⟨rfl, e1, e2⟩ | ⟨t, rfl⟩ | ⟨l, off, av, ds, rfl, hn, hl, hv, hav⟩
    · rw [e1, e2]; exact ⟨_, rfl, .nil _⟩
    · have hc := (q1 []).clen
      refine ⟨.fz cs xs.length dt.sz t, ?_, .fz hc _⟩
      simp [slS, bI, ← hc]
    · have := nd_lt hn; simp at this
  obtain ⟨v, k1, k2⟩ := key
  exact ⟨v, callO_1 (ev_cv hX (by rw [entry]; exact clip_body len k1 (fin_1 k2.still))), cs, k2, q2⟩
end
end Go.Ev
namespace Go.Ev
section
variable {N : Nat} {h0 Hp : H} {B : List Rt} {Γ Γ' : List (Nat × Stamp × List C)} {Δ Δ' : List Gw}
/-- A lower thing that is only read. -/
theorem Fm.lowA (S : Fm N h0 [] Γ Δ Hp) {l : Loc} {off : Nat} {cs : List C} (ha : AtC h0 l off cs) : AtC Hp l off cs := by
  obtain ⟨L, rfl, _⟩ := S
  exact ha.up L
theorem Fm.box1 (S : Fm N h0 B Γ Δ Hp) {d : Nat} {s : Stamp} {own : Bool} {x : V} (hx : Still x) (hd : d < N) (hf : (freeG Γ d && freeD Δ d) = true) : ∃ H', boxO own s d Hp x = some (.ref ⟨h0.length, d, 0, s, []⟩ 0, H') ∧ Fm N h0 B ((d, s, [x].map .v) :: Γ) Δ H' :=
  ⟨_, by unfold boxO; rw [hx.cells, layCs_still own _ (stills_cons hx stills_nil)]; simp only [Option.bind_some]; rw [S.newLoc], S.add hd hf⟩
end
theorem Sim.clo {β α δ : Type} {x : Option β} {Q : β → α → Prop} {K : δ → Option α} {rec : CallF} {f : FuncId} {σ : Stamp} {args caps : List V} {H : H} {d : Option Nat} {g : V × Go.Ev.H → Option δ} (s : Sim x (((callO rec f σ (args ++ caps) H d).bind g).bind K) Q) : Sim x (((cloO rec (.clo f caps) σ args H d).bind g).bind K) Q := s
/-- slices.Clone: a list as it is. -/
def p_clone {α : Type} (b : Nat) (xs : List α) : Option (List α) := ap b [] xs
theorem clone_ok {G : Cfg} {X : CallF} {f n d e b t tt : Nat} {P : Program} {own : Bool} {τ : Stamp → Stamp} {α : Type} {dt : Dt α} {h : H} {σ : Stamp} {xs : List α} {x : V}
    (entry : ∀ (x : V) (h : H), cvBody G (ev G X) (cvL G X) f σ [x] h = (binV P (List.replicate n [] :: h) .eql t x (.p (.slice .none 0 0))).bind fun t1 => (asB t1).bind fun b2 => bif b2 then (fin false σ (List.replicate n [] :: h) [(.p (.slice .none 0 0))]) else ((buildSliceV P t 0 []).bind fun t3 => (apO own e b (τ σ) d (List.replicate n [] :: h) t3 x).bind fun q4 => fin false σ q4.2 [q4.1]))
    (hx : SlH h dt xs x) (he : dt.sz = e) (hk : e ≠ 0) (hd : d < n) (hdd : d < 1000000) (hu : P.underlying t = some (.slice tt)) (hb : buildSliceV P t 0 [] = some (.fz [] 0 e true)) (hX : X f σ [x] h = none) :
    Sim (p_clone b xs) (ev G X f σ [x] h) (fun r s => ∃ (c : C) (a : List V), OwnS c dt.sz r.length a ∧ dt.L r a ∧ s = ([c], h)) := by
  intro r hr
  have S0 : Fm n h [] [] [] (List.replicate n [] :: h) := Fm.start0
  have hn : ∀ (y : V), isSl y = true → y ≠ .p (.slice none 0 0) → binV P (List.replicate n [] :: h) .eql t y (.p (.slice none 0 0)) = some (.p (.bool false)) := fun y hy hne => by
    unfold isSl at hy
    split at hy
    · exact absurd rfl hne
    · simp [binV, eqlV, hu]
    · simp [binV, eqlV, hu]
    · cases hy
  have hnil : binV P (List.replicate n [] :: h) .eql t (.p (.slice none 0 0)) (.p (.slice none 0 0)) = some (.p (.bool true)) := by simp [binV, eqlV, hu]
  obtain ⟨⟨b1, b2⟩, hrr⟩ := ap_some hr
  obtain rfl : xs = r := hrr.symm
  by_cases hnl : x = .p (.slice none 0 0)
  · subst hnl
    obtain ⟨cs, q1, q2⟩ := hx
    have hlen := q1.len
    simp only [lenOf, Option.some.injEq] at hlen
    have : xs = [] := List.length_eq_zero_iff.1 hlen.symm
    subst this
    refine ⟨_, ev_cv hX ?_, .v (.p (.slice none 0 0)), [], ⟨by simp, .inl ⟨rfl, rfl, .inl rfl⟩⟩, rfl, rfl⟩
    rw [entry, hnil]
    simp only [Option.bind_some, asB_p, cond_true]
    exact fin_1 still_nilS
  · have S1 := S0.nil' dt [] he
    have hsl : isSl x = true := by obtain ⟨cs, q1, q2⟩ := hx; exact q1.sl
    obtain ⟨v, H1, e1, S2⟩ := S1.app (i := 0) (d := d) (b := b) (own := own) (σ := τ σ) (e := e) rfl (S1.low hx).y hr he hk hd (by simp [freeL, freeG, freeD])
    obtain ⟨c, a, f1, f2, f3⟩ := S2.finOwn (i := 0) (σ := σ) rfl (by simp [noLit]; omega)
    refine ⟨_, ev_cv hX ?_, c, a, f2, f3, rfl⟩
    rw [entry, hn x hsl hnl]
    simp only [Option.bind_some, asB_p, cond_false, hb]
    rw [e1]
    exact f1
end Go.Ev
/- Slices that a variable's cell owns. -/
namespace Go.Ev
set_option linter.unusedVariables false
set_option linter.unusedSimpArgs false
/-- A cell that has a slice: frozen, or its own array. -/
def SoC {α : Type} (d : Dt α) (xs : List α) (c : C) : Prop := (∃ v, c = .v v ∧ SlF d xs v) ∨ ∃ s ws, c = .arr s xs.length d.sz (ws.map .v) ∧ d.L xs ws
theorem SoC.frz {α : Type} {d : Dt α} {xs : List α} {v : V} (h : SlF d xs v) : SoC d xs (.v v) := .inl ⟨v, rfl, h⟩
theorem SoC.own {α : Type} {d : Dt α} {xs : List α} {c : C} {ws : List V} (h : OwnS c d.sz xs.length ws) (hl : d.L xs ws) : SoC d xs c := by
  obtain ⟨h1, ⟨h2, h3, rfl | rfl⟩ | ⟨s, rfl⟩⟩ := h
  · exact .inl ⟨_, rfl, ws, by rw [h2, h3]; exact .nil _, hl⟩
  · exact .inl ⟨_, rfl, ws, by rw [h2, h3]; exact .fz (by simp) _, hl⟩
  · exact .inr ⟨s, ws, rfl, hl⟩
/-- What it reads as. -/
def cellV (l : Loc) (o : Nat) (c : C) : V := (toV l o c).getD udf
section
variable {α : Type} {h : H} {l : Loc} {off j : Nat} {cs : List C} {c : C} {d : Dt α} {xs : List α}
theorem SoC.ld (hc : SoC d xs c) (ha : AtC h l off cs) (hj : cs[j]? = some c) : ldO false 1 h (.ref l (off + j)) = some (cellV l (off + j) c) := by
  rcases hc with ⟨v, rfl, _⟩ | ⟨s, ws, rfl, _⟩
  · exact ha.ldC hj rfl
  · exact ha.ldC hj rfl
theorem SoC.sl (hc : SoC d xs c) (ha : AtC h l off cs) (hj : cs[j]? = some c) : SlH h d xs (cellV l (off + j) c) := by
  rcases hc with ⟨v, rfl, hv⟩ | ⟨s, ws, rfl, hl⟩
  · exact hv.h h
  · have hlen := RL.length (fun h => d.len h) hl
    refine ⟨ws, .mk_sl (l := l.hop (off + j) s) (ds := ws.map .v) ?_ (by simp [hlen]) ?_ (Nat.le_refl _), hl⟩
    · obtain ⟨p, q, hn, hp⟩ := ha.hop hj (s := s) (ds := ws.map .v) (by simp [C.node])
      have : p = [] := List.length_eq_zero_iff.1 hp
      subst this
      have hq := ha.hop hj (s := s) (ds := ws.map .v) (by simp [C.node])
      obtain ⟨p, q, hn, hp⟩ := ha
      have hlt := (List.getElem?_eq_some_iff.1 hj).1
      rw [nd_in hn (c := .arr s xs.length d.sz (ws.map .v)) (ds := ws.map .v)]
      · rw [List.append_assoc, List.getElem?_append_right (by omega), show off + j - p.length = j by omega, List.getElem?_append_left hlt, hj]
      · simp [C.node]
    · rw [List.drop_zero, List.take_of_length_le (by simp [hlen]), toVs_plain]
end
section
variable {N : Nat} {h0 Hp : H} {B : List Rt} {Γ : List (Nat × Stamp × List C)} {Δ : List Gw}
theorem getElem_app {p cs q : List C} {off j : Nat} (hp : p.length = off) (hj : j < cs.length) : (p ++ cs ++ q)[off + j]? = cs[j]? := by
  rw [List.append_assoc, List.getElem?_append_right (by omega), show off + j - p.length = j by omega, List.getElem?_append_left hj]
theorem at_killed {l : Loc} {off j : Nat} {cs : List C} {c : C} {s : Stamp} (ha : AtC Hp l off cs) (hj : cs[j]? = some c) (hc : (c.node s).isSome) : setAt Hp (l.hop (off + j) s) .dead = ptC Hp l off (cs.set j .dead) := by
  obtain ⟨p, q, hn, hp⟩ := ha
  have hlt := (List.getElem?_eq_some_iff.1 hj).1
  have hcell : (p ++ cs ++ q)[off + j]? = some c := by rw [getElem_app hp hlt, hj]
  rw [setAt_hop hn hcell, ptC_eq hn hp (by simp)]
  congr 1
  rw [List.append_assoc, List.set_append_right _ _ (by omega), List.set_append_left _ _ (by omega), ← List.append_assoc]
  congr 3
  omega
/-- What a place has and what writes it come to, told at once. -/
structure Spot (N : Nat) (h0 : H) (Hp : H) (l : Loc) (off : Nat) (cs : List C) (T : List C → H → Prop) : Prop where
  at_ : AtC Hp l off cs
  put : ∀ cs', cs'.length = cs.length → T cs' (ptC Hp l off cs')
/-- More behind the slice of a cell: what lay there is taken. -/
theorem app_cell {l : Loc} {off j d b e : Nat} {cs : List C} {c : C} {α : Type} {dt : Dt α} {xs ys zs : List α} {own : Bool} {σ : Stamp} {y : V}
    (ha : AtC Hp l off cs) (hj : cs[j]? = some c) (hc : SoC dt xs c) (hy : YsH Hp dt ys y) (hz : ap b xs ys = some zs) (hn : ys.length ≠ 0) (he : dt.sz = e) (hk : e ≠ 0) (hnt : ∀ v, c = .v v → v = .p (.slice none 0 0) ∨ v = .fz [] 0 e true) :
    ∃ ws s, dt.L zs ws ∧ ∃ c', (c' = c ∨ c' = .dead) ∧ apO own e b σ d Hp (cellV l (off + j) c) y = some (.sl (newLoc Hp d s) 0 zs.length zs.length e, setSlot (ptC Hp l off (cs.set j c')) d [.arr s zs.length e (ws.map .v)]) := by
  subst he
  obtain ⟨⟨hb1, hb2⟩, rfl⟩ := ap_some hz
  obtain ⟨us, hu, hul⟩ := hy
  have hlt := (List.getElem?_eq_some_iff.1 hj).1
  have same : ptC Hp l off (cs.set j c) = Hp := by
    rw [show cs.set j c = cs from by rw [← (List.getElem?_eq_some_iff.1 hj).2]; exact List.set_getElem_self ..]
    exact ha.same
  have base : ∀ x, apO own dt.sz b σ d Hp x y = apTo dt.sz b σ d Hp ys.length (us.map .v) x := fun x => by
    unfold apO
    rw [hu.len, hu.cells]
    simp only [Option.bind_some]
    rw [if_neg (by simp [hu.clen, hk]), if_neg hn, layCs_still own _ (RL.stills hul)]
    rfl
  rcases hc with ⟨v, rfl, hv⟩ | ⟨s, ws, rfl, hl⟩
  · obtain ⟨vs, q1, q2⟩ := hv
    have hx0 : xs = [] ∧ vs = [] := by
      rcases hnt v rfl with rfl | rfl
      · have h1 := (q1 []).len
        simp only [lenOf, Option.some.injEq] at h1
        have h1 : xs = [] := List.length_eq_zero_iff.1 h1.symm
        subst h1
        exact ⟨rfl, by have := (q1 []).clen; simpa using this⟩
      · have h1 := (q1 []).len
        simp only [lenOf, Option.some.injEq] at h1
        have h1 : xs = [] := List.length_eq_zero_iff.1 h1.symm
        subst h1
        exact ⟨rfl, by have := (q1 []).clen; simpa using this⟩
    obtain ⟨rfl, rfl⟩ := hx0
    refine ⟨us, σ, by simpa using hul, _, .inl rfl, ?_⟩
    rw [base, same]
    rcases hnt v rfl with rfl | rfl
    · simp only [cellV, toV, Option.getD_some, apTo]
      rw [if_pos ⟨by simpa using hb1, by simpa using hb2⟩]; simp
    · simp only [cellV, toV, Option.getD_some, apTo]
      rw [if_pos ⟨trivial, trivial, by simp, by simpa using hb1, by simpa using hb2, by simp⟩]; simp
  · refine ⟨ws ++ us, σ, hl.append hul, _, .inr rfl, ?_⟩
    have hlen := RL.length (fun h => dt.len h) hl
    have hnode : nd Hp (l.hop (off + j) s) = some (ws.map .v) := by
      obtain ⟨p, q, hn2, hp⟩ := ha
      exact nd_in hn2 (c := .arr s xs.length dt.sz (ws.map .v)) (by rw [getElem_app hp hlt, hj]) (by simp [C.node])
    rw [base]
    simp only [cellV, toV, Option.getD_some, apTo]
    rw [if_neg (by simp), hnode]
    simp only [Option.bind_some]
    rw [if_neg (by omega), if_pos ⟨trivial, by simpa using hlen, hb1, hb2⟩, at_killed ha hj (by simp [C.node])]
    simp [newLoc, top, ptC_length]
theorem Fm.addArr (S : Fm N h0 B Γ Δ Hp) {α : Type} {dt : Dt α} {d e : Nat} {s : Stamp} {ws : List V} {xs : List α} (hl : dt.L xs ws) (he : dt.sz = e) (hd : d < N) (hf : (freeG Γ d && freeD Δ d) = true) :
    Fm N h0 B Γ (⟨[d], .sl ⟨h0.length, d, 0, s, []⟩ 0 xs.length xs.length e, dt, xs⟩ :: Δ) (setSlot Hp d [.arr s xs.length e (ws.map .v)]) := by
  subst he
  obtain ⟨L, rfl, h2, h3, h4, h5⟩ := S
  simp only [Bool.and_eq_true] at hf
  refine ⟨L.set d [.arr s xs.length dt.sz (ws.map .v)], rfl, by simpa using h2, h3, fun e he => ?_, fun g hg => ?_⟩
  · rw [List.getElem?_set_ne (Ne.symm (freeG_ne hf.1 he))]; exact h4 e he
  · rcases List.mem_cons.1 hg with rfl | hg
    · exact ⟨ws, hl, .inr (.inl ⟨RL.length (fun h => dt.len h) hl, d, List.mem_singleton.2 rfl, s, [], rfl, by rw [List.getElem?_set_self (by omega)]⟩)⟩
    · exact (h5 g hg).frame fun x hx => by rw [List.getElem?_set_ne (fun e => freeD_ne hf.2 hg (by rw [e]; exact hx))]
/-- More behind the slice that a variable's cell owns. -/
theorem Fm.appG (S : Fm N h0 B Γ Δ Hp) {i j d d0 b e : Nat} {s0 σ : Stamp} {cs : List C} {c : C} {α : Type} {dt : Dt α} {xs ys zs : List α} {own : Bool} {y : V}
    (hi : Γ[i]? = some (d0, s0, cs)) (hj : cs[j]? = some c) (hc : SoC dt xs c) (hnt : ∀ v, c = .v v → v = .p (.slice none 0 0) ∨ v = .fz [] 0 e true) (hy : YsH Hp dt ys y) (hz : ap b xs ys = some zs) (hn : ys.length ≠ 0) (he : dt.sz = e) (hk : e ≠ 0) (hd : d < N)
    (hf : (freeG (Γ.eraseIdx i) d0 && freeD Δ d0) = true) (hf2 : (freeG Γ d && freeD Δ d) = true) :
    ∃ v c' H', apO own e b σ d Hp (cellV ⟨h0.length, d0, 0, s0, []⟩ j c) y = some (v, H') ∧ Fm N h0 B (Γ.set i (d0, s0, cs.set j c')) (⟨[d], v, dt, zs⟩ :: Δ) H' := by
  obtain ⟨ws, s, hl, c', _, e1⟩ := app_cell (own := own) (σ := σ) (d := d) (S.atG hi) hj hc hy hz hn he hk hnt
  rw [Nat.zero_add] at e1
  refine ⟨_, c', _, e1, ?_⟩
  rw [S.newLoc]
  refine (S.setG (cs' := cs.set j c') hi hf (by simp)).addArr hl he hd ?_
  simp only [Bool.and_eq_true] at hf2 ⊢
  refine ⟨List.all_eq_true.2 fun x hx => ?_, hf2.2⟩
  rcases mem_set hx (List.getElem?_eq_some_iff.1 hi).1 with rfl | hx
  · have := List.all_eq_true.1 hf2.1 (d0, s0, cs) (List.mem_of_getElem? hi)
    simpa using this
  · exact List.all_eq_true.1 hf2.1 _ (mem_erase hx)
/-- The same in a lower thing. -/
theorem Fm.appB (S : Fm N h0 B Γ Δ Hp) {i j d b e off : Nat} {l : Loc} {σ : Stamp} {cs : List C} {c : C} {α : Type} {dt : Dt α} {xs ys zs : List α} {own : Bool} {y : V}
    (hi : B[i]? = some ⟨l, off, cs⟩) (hj : cs[j]? = some c) (hc : SoC dt xs c) (hnt : ∀ v, c = .v v → v = .p (.slice none 0 0) ∨ v = .fz [] 0 e true) (hy : YsH Hp dt ys y) (hz : ap b xs ys = some zs) (hn : ys.length ≠ 0) (he : dt.sz = e) (hk : e ≠ 0) (hd : d < N)
    (hf2 : (freeG Γ d && freeD Δ d) = true) :
    ∃ v c' H', apO own e b σ d Hp (cellV l (off + j) c) y = some (v, H') ∧ Fm N h0 (B.set i ⟨l, off, cs.set j c'⟩) Γ (⟨[d], v, dt, zs⟩ :: Δ) H' := by
  obtain ⟨ws, s, hl, c', _, e1⟩ := app_cell (own := own) (σ := σ) (d := d) (S.atB hi) hj hc hy hz hn he hk hnt
  refine ⟨_, c', _, e1, ?_⟩
  rw [S.newLoc]
  exact (S.setB (cs := cs.set j c') hi (by simp)).addArr hl he hd hf2
/-- What a slot alone holds goes into a cell. -/
theorem mv_cell {l : Loc} {off j k : Nat} {cs : List C} {g : Gw} {σ : Stamp} (S : Fm N h0 B Γ Δ Hp) (hk : Δ[k]? = some g) (hD : noLit g.D = true) (hf : freeL g.D Γ (Δ.eraseIdx k) = true) (hloc : ∀ d ∈ g.D, ∀ s, l.key ≠ (⟨h0.length, d, 0, s, []⟩ : Loc).key) (ha : AtC Hp l off cs) (hj : j < cs.length) :
    ∃ c ws H1, layC true Hp g.v = some (c, H1) ∧ stO true 1 σ Hp (.ref l (off + j)) g.v = some (ptC H1 l off (cs.set j c)) ∧ OwnS c g.d.sz g.xs.length ws ∧ g.d.L g.xs ws ∧ AtC H1 l off cs ∧ Fm N h0 B Γ (Δ.eraseIdx k) H1 := by
  have S' : Fm N h0 B Γ (Δ.eraseIdx k) Hp := S.wk (fun _ h => h) (fun _ h => mem_erase h)
  obtain ⟨L, rfl, h2, h3, h4, h5⟩ := S
  obtain ⟨ws, q1, q2⟩ := h5 g (List.mem_of_getElem? hk)
  have key : ∀ (v : V) (c : C) (H1 : H), v.cells = [v] → (∀ s n e ds, sameArr l (off + j) (some (.arr s n e ds)) v = false) → layC true (L :: pts h0 B) v = some (c, H1) → AtC H1 l off cs → stO true 1 σ (L :: pts h0 B) (.ref l (off + j)) v = some (ptC H1 l off (cs.set j c)) := fun v c H1 hv hs hl ha1 => by
    obtain ⟨p, q, hn, hp⟩ := ha
    obtain ⟨p1, q1', hn1, hp1⟩ := ha1
    have hsm : sameArr l (off + j) (p ++ cs ++ q)[off + j]? v = false := by
      cases hx : (p ++ cs ++ q)[off + j]? with
      | none => rfl
      | some x =>
        cases x with
        | arr s n e ds => exact hs s n e ds
        | _ => rfl
    unfold stO
    simp only [hv, hn, hsm, Option.bind_some, layCs, hl]
    simp only [List.length_cons, List.length_nil, Bool.not_true, Bool.false_or, Nat.zero_add, bne_self_eq_false, Bool.false_eq_true, if_false, hn1, Option.bind_some]
    rw [if_pos (by simp; omega), set_take_drop _ _ _ (by simp; omega), ptC_eq hn1 hp1 (by simp)]
    congr 2
    rw [List.append_assoc, List.set_append_right _ _ (by omega), List.set_append_left _ _ (by omega), ← List.append_assoc]
    congr 3
    omega
  rcases q2 with ⟨e1, e2, e3⟩ | ⟨q2, d', hd', s, tl, hv, h6⟩ | ⟨_, _, _, hd⟩
  · refine ⟨.v g.v, ws, _, ?_, key _ _ _ ?_ ?_ ?_ ha, ⟨by rw [e1, e2]; simp, .inl ⟨e1, e2, ?_⟩⟩, q1, ha, S'⟩
    all_goals rcases e3 with e | e <;> rw [e]
    all_goals first
      | rfl
      | (intro s n e' ds; rfl)
      | (exact .inl rfl)
      | (exact .inr rfl)
  · have hr : rootC (L :: pts h0 B) ⟨h0.length, d', 0, s, []⟩ = some (.arr s g.xs.length g.d.sz (ws.map .v)) := by simp [rootC, pts_length, h6]
    have hs : setRoot (L :: pts h0 B) ⟨h0.length, d', 0, s, []⟩ .dead = L.set d' (.dead :: tl) :: pts h0 B := by simp [setRoot, pts_length, h6]
    have hlay : layC true (L :: pts h0 B) g.v = some (.arr s g.xs.length g.d.sz (ws.map .v), L.set d' (.dead :: tl) :: pts h0 B) := by
      rw [hv]; simp [layC, pts_length, hr, hs]
    have ha1 : AtC (L.set d' (.dead :: tl) :: pts h0 B) l off cs := by
      obtain ⟨p, q, hn, hp⟩ := ha
      refine ⟨p, q, ?_, hp⟩
      rw [← hs]
      have : (⟨h0.length, d', 0, s, []⟩ : Loc).key ≠ l.key := Ne.symm (hloc d' hd' s)
      have e := root_setRoot_ne (h := L :: pts h0 B) (l := ⟨h0.length, d', 0, s, []⟩) (l' := l) (c := .dead) this
      rw [← hn]
      simp only [nd, at_, e]
    refine ⟨_, ws, _, hlay, key _ _ _ (by rw [hv]; rfl) ?_ hlay ha1, ⟨q2, .inr ⟨s, rfl⟩⟩, q1, ha1, dead_ok S' (mem_one hf hd') (.dead :: tl)⟩
    intro s' n' e' ds
    rw [hv]
    simp [sameArr, Loc.hop]
  · exact (noLit_no hD hd).elim
theorem Fm.mvG (S : Fm N h0 B Γ Δ Hp) {i j k d0 : Nat} {s0 σ : Stamp} {cs : List C} {g : Gw} (hk : Δ[k]? = some g) (hD : noLit g.D = true) (hf : freeL g.D Γ (Δ.eraseIdx k) = true) (hi : Γ[i]? = some (d0, s0, cs)) (hf0 : (freeG (Γ.eraseIdx i) d0 && freeD (Δ.eraseIdx k) d0) = true) (hj : (cs[j]?).isSome = true) :
    ∃ c H', stO true 1 σ Hp (.ref ⟨h0.length, d0, 0, s0, []⟩ j) g.v = some H' ∧ SoC g.d g.xs c ∧ (∀ v, c = .v v → v = .p (.slice none 0 0) ∨ v = .fz [] 0 g.d.sz true) ∧ Fm N h0 B (Γ.set i (d0, s0, cs.set j c)) (Δ.eraseIdx k) H' := by
  have hlt : j < cs.length := by
    obtain ⟨y, hy⟩ := Option.isSome_iff_exists.1 hj
    exact (List.getElem?_eq_some_iff.1 hy).1
  obtain ⟨c, ws, H1, _, e1, o1, o2, a1, S1⟩ := mv_cell (σ := σ) S hk hD hf (fun d hd s he => by
    have := mem_one hf hd
    simp only [Bool.and_eq_true] at this
    have := freeG_ne this.1 (List.mem_of_getElem? hi)
    simp only [Loc.key, Prod.mk.injEq] at he
    exact this he.2.1) (S.atG hi) hlt
  rw [Nat.zero_add] at e1
  refine ⟨c, _, e1, SoC.own o1 o2, fun v hv => ?_, S1.setG hi hf0 (by simp)⟩
  obtain ⟨_, ⟨_, _, h | h⟩ | ⟨s, h⟩⟩ := o1 <;> rw [hv] at h <;> cases h <;> simp
theorem Fm.mvB (S : Fm N h0 B Γ Δ Hp) {i j k off : Nat} {l : Loc} {σ : Stamp} {cs : List C} {g : Gw} (hk : Δ[k]? = some g) (hD : noLit g.D = true) (hf : freeL g.D Γ (Δ.eraseIdx k) = true) (hi : B[i]? = some ⟨l, off, cs⟩) (hj : (cs[j]?).isSome = true) :
    ∃ c H', stO true 1 σ Hp (.ref l (off + j)) g.v = some H' ∧ SoC g.d g.xs c ∧ (∀ v, c = .v v → v = .p (.slice none 0 0) ∨ v = .fz [] 0 g.d.sz true) ∧ Fm N h0 (B.set i ⟨l, off, cs.set j c⟩) Γ (Δ.eraseIdx k) H' := by
  have hlt : j < cs.length := by
    obtain ⟨y, hy⟩ := Option.isSome_iff_exists.1 hj
    exact (List.getElem?_eq_some_iff.1 hy).1
  have hlow : l.lvl < h0.length := by
    obtain ⟨L, rfl, h2, h3, h4, h5⟩ := S
    have := (h3.at hi).lt
    rwa [pts_length] at this
  obtain ⟨c, ws, H1, _, e1, o1, o2, a1, S1⟩ := mv_cell (σ := σ) S hk hD hf (fun d hd s he => by
    simp only [Loc.key, Prod.mk.injEq] at he
    omega) (S.atB hi) hlt
  refine ⟨c, _, e1, SoC.own o1 o2, fun v hv => ?_, S1.setB hi (by simp)⟩
  obtain ⟨_, ⟨_, _, h | h⟩ | ⟨s, h⟩⟩ := o1 <;> rw [hv] at h <;> cases h <;> simp
end
end Go.Ev
namespace Go.Ev
/-- A cell, and what it is when it leaves. -/
def FrC (c : C) (y : V) : Prop := (c = .v y ∧ Still y) ∨ ∃ s n k ws, c = .arr s n k (ws.map .v) ∧ ws.length = n * k ∧ y = .fz ws n k false
def FrCs : List C → List V → Prop
  | [], [] => True
  | c :: cs, y :: ys => FrC c y ∧ FrCs cs ys
  | _, _ => False
theorem FrC.v {x : V} (h : Still x) : FrC (.v x) x := .inl ⟨rfl, h⟩
theorem SoC.fr {α : Type} {d : Dt α} {xs : List α} {c : C} (h : SoC d xs c) : ∃ y, FrC c y ∧ SlF d xs y := by
  rcases h with ⟨v, rfl, hv⟩ | ⟨s, ws, rfl, hl⟩
  · exact ⟨v, .inl ⟨rfl, hv.still⟩, hv⟩
  · have hlen := RL.length (fun h => d.len h) hl
    exact ⟨_, .inr ⟨s, _, _, ws, rfl, hlen, rfl⟩, ws, .fz hlen _, hl⟩
theorem FrC.still {c : C} {y : V} (h : FrC c y) : Still y := by
  rcases h with ⟨_, h⟩ | ⟨s, n, k, ws, _, _, rfl⟩
  · exact h
  · exact still_fz ..
theorem FrCs.len : ∀ {cs : List C} {ys : List V}, FrCs cs ys → ys.length = cs.length
  | [], [], _ => rfl
  | c :: cs, y :: ys, ⟨_, h⟩ => by simp [FrCs.len h]
  | [], _ :: _, h => by cases h
  | _ :: _, [], h => by cases h
theorem FrCs.stills : ∀ {cs : List C} {ys : List V}, FrCs cs ys → Stills ys
  | [], [], _ => stills_nil
  | c :: cs, y :: ys, ⟨h1, h⟩ => stills_cons h1.still (FrCs.stills h)
  | [], _ :: _, h => by cases h
  | _ :: _, [], h => by cases h
theorem lay_fr {H : Ev.H} {l : Loc} {pre post : List C} {c : C} {y : V} (hl : l.lvl = top H) (ha : AtC H l 0 (pre ++ c :: post)) (hf : FrC c y) : ∃ x, toV l pre.length c = some x ∧ layC false H x = some (.v y, ptC H l 0 (pre ++ .v y :: post)) := by
  have hj : (pre ++ c :: post)[pre.length]? = some c := by simp
  rcases hf with ⟨rfl, hs⟩ | ⟨s, n, k, ws, rfl, hlen, rfl⟩
  · exact ⟨y, rfl, by rw [ha.same]; exact hs.lay false H⟩
  · refine ⟨_, rfl, ?_⟩
    have h1 : (l.hop pre.length s).lvl = top H := hl
    have ha0 := ha
    obtain ⟨p, q, hn, hp⟩ := ha
    have hp0 : p = [] := List.length_eq_zero_iff.1 hp
    subst hp0
    rw [List.nil_append] at hn
    have hcell : ((pre ++ C.arr s n k (ws.map C.v) :: post) ++ q)[pre.length]? = some (.arr s n k (ws.map .v)) := by simp
    have h2 : at_ H (l.hop pre.length s) = some (.arr s n k (ws.map .v)) := by rw [at_hop, hn]; simp [C.node]
    have h3 : rng ws 0 (n * k) = some ws := by unfold rng; rw [if_pos (by omega)]; simp [← hlen]
    simp only [layC, h1, h2, Bool.false_eq_true, if_false, if_true, hop_last, true_and, List.length_map, hlen, plainCells_map, Option.bind_some, h3]
    rw [if_neg (by simp [Loc.hop]), setAt_hop hn hcell, ptC_eq (off := 0) (p := []) (q := q) (cs := pre ++ C.arr s n k (ws.map C.v) :: post) hn rfl (by simp)]
    simp
theorem top_pt {H : Ev.H} (l : Loc) (off : Nat) (cs : List C) : top (ptC H l off cs) = top H := by simp [top, ptC_length]
theorem frz_all {l : Loc} : ∀ {cs : List C} {ys : List V} {H : Ev.H} {pre : List C}, l.lvl = top H → AtC H l 0 (pre ++ cs) → FrCs cs ys →
    ∃ xs, toVs l pre.length cs = some xs ∧ frzCs H xs = some (ys, ptC H l 0 (pre ++ ys.map .v)) ∧ layCs false H xs = some (ys.map .v, ptC H l 0 (pre ++ ys.map .v))
  | [], [], H, pre, hl, ha, _ => ⟨[], rfl, by rw [show pre ++ [].map C.v = pre ++ [] from rfl, ha.same]; rfl, by rw [show pre ++ [].map C.v = pre ++ [] from rfl, ha.same]; rfl⟩
  | c :: cs, y :: ys, H, pre, hl, ha, ⟨h1, h2⟩ => by
    obtain ⟨x, e1, e2⟩ := lay_fr hl ha h1
    have ha2 : AtC (ptC H l 0 (pre ++ .v y :: cs)) l 0 ((pre ++ [.v y]) ++ cs) := by
      have := ha.put (cs' := pre ++ .v y :: cs) (by simp)
      simpa using this
    obtain ⟨xs, q1, q2, q3⟩ := frz_all (pre := pre ++ [.v y]) (by rw [top_pt]; exact hl) ha2 h2
    have hp : ptC (ptC H l 0 (pre ++ .v y :: cs)) l 0 (pre ++ [C.v y] ++ ys.map .v) = ptC H l 0 (pre ++ (y :: ys).map .v) := by
      rw [ha.put_put (by simp) (by have := h2.len; simp; omega)]
      simp
    refine ⟨x :: xs, ?_, ?_, ?_⟩
    · simp only [List.length_append, List.length_cons, List.length_nil] at q1
      simp only [toVs, e1, Option.bind_some, q1]
    · simp only [frzCs, e2, Option.bind_some, q2, Option.map_some]
      rw [hp]
    · simp only [layCs, e2, Option.bind_some, q3]
      rw [hp]; rfl
  | [], _ :: _, _, _, _, _, h => by cases h
  | _ :: _, [], _, _, _, _, h => by cases h
section
variable {N : Nat} {h0 Hp : H} {B : List Rt} {Γ : List (Nat × Stamp × List C)} {Δ : List Gw}
/-- A variable's struct leaves. -/
theorem Fm.frzV (S : Fm N h0 B Γ Δ Hp) {i d n : Nat} {s : Stamp} {cs : List C} {ys : List V} (hi : Γ[i]? = some (d, s, cs)) (hf : (freeG (Γ.eraseIdx i) d && freeD Δ d) = true) (hy : FrCs cs ys) (hn : ys.length = n) (_ : 0 < n) :
    ∃ xs H', xs.length = ys.length ∧ ldO true n Hp (.ref ⟨h0.length, d, 0, s, []⟩ 0) = some (.agg xs) ∧ (∀ frz τ, expF frz τ Hp (.agg xs) = some (.v (.agg ys), H')) ∧ layCs false Hp xs = some (ys.map .v, H') ∧ Fm N h0 B (Γ.set i (d, s, ys.map .v)) Δ H' := by
  have ha := S.atG hi
  have hl : (⟨h0.length, d, 0, s, []⟩ : Loc).lvl = top Hp := by simp [top, S.len]
  have hlen := hy.len
  obtain ⟨xs, e1, e2, e3⟩ := frz_all (pre := []) hl (by simpa using ha) hy
  refine ⟨xs, _, by rw [toVs_length e1, hlen], ?_, ?_, e3, by simpa using S.setG (cs' := ys.map .v) hi hf (by simp [hlen])⟩
  · have := ha.ldAgg (j := 0) (n := n) (agg := true) (xs := xs) (by omega) (by rw [List.drop_zero, List.take_of_length_le (by omega)]; exact e1)
    simpa [mkV] using this
  · intro frz τ
    cases frz <;> simp [expF, expC, e2]
end
end Go.Ev
namespace Go.Ev
theorem GrowS.to {D : List Nat} {L : Layer} {h : H} {v : V} {k n : Nat} {xs : List V} (ha : GrowS D L h.length v k n xs) {b d m : Nat} {σ : Stamp} {ys : List V} (hd : d < L.length) (hm : m ≠ 0) (hcl : ys.length = m * k) (hb : (n + m) * b ≤ 2 ^ 47) (hb2 : n + m < 2 ^ 61) :
    ∃ v' L', apTo k b σ d (L :: h) m (ys.map .v) v = some (v', L' :: h) ∧ GrowS (d :: D) L' h.length v' k (n + m) (xs ++ ys) ∧ L'.length = L.length ∧ ∀ j, j ∉ d :: D → L'[j]? = L[j]? := by
  rcases ha with ⟨rfl, rfl, rfl | rfl⟩ | ⟨h2, d', hd', s, tl, rfl, h3⟩ | ⟨rfl, h2, h3, _⟩
  · refine ⟨_, L.set d [.arr σ m k (ys.map .v)], ?_, .inr (.inl ⟨by simpa using hcl, d, List.mem_cons_self .., σ, [], by rw [Nat.zero_add], by simp [hd]⟩), by simp, fun j hj => ?_⟩
    · rw [apTo, if_pos ⟨by simpa using hb, by simpa using hb2⟩]; simp
    · rw [List.getElem?_set_ne (fun e => hj (by rw [← e]; exact List.mem_cons_self ..))]
  · refine ⟨_, L.set d [.arr σ (0 + m) k (ys.map .v)], ?_, .inr (.inl ⟨by simpa using hcl, d, List.mem_cons_self .., σ, [], rfl, by simp [hd]⟩), by simp, fun j hj => ?_⟩
    · rw [apTo, if_pos ⟨rfl, rfl, by simp, by simpa using hb, by simpa using hb2, by simp⟩]; simp
    · rw [List.getElem?_set_ne (fun e => hj (by rw [← e]; exact List.mem_cons_self ..))]
  · refine ⟨_, (L.set d' (.dead :: tl)).set d [.arr σ (n + m) k (xs.map .v ++ ys.map .v)], ?_, .inr (.inl ⟨by rw [List.length_append, h2, hcl, Nat.add_mul], d, List.mem_cons_self .., σ, [], rfl, by simp [hd]⟩), by simp, fun j hj => ?_⟩
    · rw [apTo, if_neg (by simp), nd_arr h3]
      simp only [Option.bind_some]
      rw [if_neg (by omega), if_pos ⟨trivial, by simpa using h2, hb, hb2⟩, setAt_root h3]
      simp
    · rw [List.getElem?_set_ne (fun e => hj (by rw [← e]; exact List.mem_cons_self ..)), List.getElem?_set_ne (fun e => hj (by rw [← e]; exact List.mem_cons_of_mem _ hd'))]
  · refine ⟨_, L.set d [.arr σ (n + m) k (xs.map .v ++ ys.map .v)], ?_, .inr (.inl ⟨by rw [List.length_append, h2, hcl, Nat.add_mul], d, List.mem_cons_self .., σ, [], rfl, by simp [hd]⟩), by simp, fun j hj => ?_⟩
    · rw [apTo, if_pos ⟨rfl, rfl, h2, hb, hb2, Still.leafs h3⟩]; simp
    · rw [List.getElem?_set_ne (fun e => hj (by rw [← e]; exact List.mem_cons_self ..))]
section
variable {N : Nat} {h0 Hp : H} {B : List Rt} {Γ : List (Nat × Stamp × List C)} {Δ : List Gw}
theorem take_app {α : Type} {z xs : List α} (h : xs.length = z.length) : z.take 0 ++ xs ++ z.drop (0 + xs.length) = xs := by rw [List.take_zero, List.nil_append, Nat.zero_add, h, List.drop_length, List.append_nil]
theorem bldS1 {P : Program} {t te e : Nat} {xs : List V} {z : List V} (h1 : telem P t = some te) (h2 : tzero P te = some z) (h3 : (z.length = e ∧ tsize P te = e ∧ e ≠ 0 ∧ e ≤ 2 ^ 24) ∧ True) (hx : xs.length = e) : buildSliceV P t 1 [(0, .agg xs)] = some (.fz xs 1 e true) := by
  obtain ⟨⟨a1, a2, a3, a4⟩, _⟩ := h3
  unfold buildSliceV
  simp only [h1, h2, Option.bind_some, a1, a2, fillV, Nat.zero_mul]
  have hr : rept 1 z = z := by simp [rept]
  rw [if_neg (by simp; omega), hr]
  simp only [V.cells, hx, a1, ne_eq, not_true_eq_false, false_or, Nat.zero_add]
  rw [if_neg (by omega)]
  simp [← a1]
/-- A struct whose cells own slices goes behind a list: it is frozen. -/
theorem Fm.appFrz {H : Ev.H} (S : Fm N h0 B Γ Δ Hp) {i d b e : Nat} {g : Gw} {σ : Stamp} {t : Bool} {x : g.α} {ws xs : List V} {zs : List g.α} (hl : layCs false H xs = some (ws.map .v, Hp)) (hi : Δ[i]? = some g) (hx : g.d.R x ws) (hlen : xs.length = ws.length) (hz : ap b g.xs [x] = some zs) (he : g.d.sz = e) (hk : e ≠ 0) (hd : d < N) (hf : freeL (d :: g.D) Γ (Δ.eraseIdx i) = true) :
    ∃ v H', apO false e b σ d H g.v (.fz xs 1 e t) = some (v, H') ∧ Fm N h0 B Γ (Δ.set i ⟨d :: g.D, v, g.d, zs⟩) H' := by
  subst he
  obtain ⟨⟨hb1, hb2⟩, rfl⟩ := ap_some hz
  obtain ⟨L, rfl, h2, h3, h4, h5⟩ := S
  obtain ⟨cs, q1, q2⟩ := h5 g (List.mem_of_getElem? hi)
  rw [← pts_length B] at q2
  have hlt := (List.getElem?_eq_some_iff.1 hi).1
  have hw := g.d.len hx
  obtain ⟨v', L', e1, e2, e3, e4⟩ := q2.to (b := b) (σ := σ) (d := d) (m := 1) (ys := ws) (by omega) (by omega) (by omega) hb1 hb2
  have hfr := List.all_eq_true.1 hf
  refine ⟨v', _, ?_, L', rfl, by omega, h3, fun e he => ?_, fun g' hg' => ?_⟩
  · unfold apO
    simp only [lenOf, cellsOf, Option.bind_some]
    rw [if_neg (by simp [hlen, hw, hk]), if_neg (by simp), hl]
    exact e1
  · rw [e4 _ fun hm => ?_]
    · exact h4 e he
    · have := hfr _ hm
      simp only [Bool.and_eq_true] at this
      exact freeG_ne this.1 he rfl
  · rcases mem_set hg' hlt with rfl | hg'
    · refine ⟨cs ++ ws, q1.append (RL.one hx), ?_⟩
      rw [← pts_length B, List.length_append]
      exact e2
    · exact (h5 g' (mem_erase hg')).frame fun x hx => e4 x fun hm => by
        have := hfr _ hm
        simp only [Bool.and_eq_true] at this
        exact freeD_ne this.2 hg' hx
end
end Go.Ev
namespace Go.Ev
section
variable {N : Nat} {h0 Hp : H} {B : List Rt} {Γ : List (Nat × Stamp × List C)} {Δ : List Gw}
/-- A struct whose cells own slices is stored: it is frozen. -/
theorem Fm.stFrz {H : Ev.H} (S : Fm N h0 B Γ Δ Hp) {i d j n : Nat} {s σ : Stamp} {cs cs0 : List C} {B0 : List Rt} {Γ0 : List (Nat × Stamp × List C)} {Δ0 : List Gw} {i0 : Nat} {xs ys : List V} (S0 : Fm N h0 B0 Γ0 Δ0 H) (hi0 : Γ0[i0]? = some (d, s, cs0)) (hl : layCs false H xs = some (ys.map .v, Hp)) (hi : Γ[i]? = some (d, s, cs)) (hf : (freeG (Γ.eraseIdx i) d && freeD Δ d) = true) (hx : xs.length = ys.length) (hn : ys.length = n) (hj : decide (j + n ≤ cs.length) = true) :
    ∃ H', stO false n σ H (.ref ⟨h0.length, d, 0, s, []⟩ j) (.agg xs) = some H' ∧ Fm N h0 B (Γ.set i (d, s, cs.take j ++ ys.map .v ++ cs.drop (j + n))) Δ H' := by
  have hj := of_decide_eq_true hj
  obtain ⟨p0, q0, hn0, hp0⟩ := S0.atG hi0
  have ha := S.atG hi
  have h00 : p0 = [] := List.length_eq_zero_iff.1 hp0
  subst h00
  obtain ⟨p, q, hn1, hp⟩ := ha
  have h01 : p = [] := List.length_eq_zero_iff.1 hp
  subst h01
  refine ⟨_, ?_, S.setG (cs' := cs.take j ++ ys.map .v ++ cs.drop (j + n)) hi hf (by simp; omega)⟩
  unfold stO
  have hsm : sameArr ⟨h0.length, d, 0, s, []⟩ j ([] ++ cs0 ++ q0)[j]? (.agg xs) = false := same_no (by simp)
  have hc : (V.agg xs).cells = xs := rfl
  simp only [hc, hx, hn, hn0, hsm, hl, Option.bind_some, hn1, List.length_map]
  simp only [Bool.not_true, Bool.false_or, bne_self_eq_false, Bool.false_eq_true, if_false]
  rw [if_pos (by simp; omega), ptC_eq (off := 0) hn1 rfl (by simp; omega)]
  simp only [List.nil_append]
  rw [List.take_append_of_le_length (by omega), List.drop_append_of_le_length (by omega)]
  simp
end
end Go.Ev
namespace Go.Ev
/-! ### '==' of structs -/
def andL : List Bool → Option Bool
  | [] => some true
  | b :: bs => (some b).bind fun r => if r = true then andL bs else some false
def andB : List Bool → Bool
  | [] => true
  | b :: bs => b && andB bs
theorem andL_ok : ∀ bs : List Bool, andL bs = some (andB bs)
  | [] => rfl
  | b :: bs => by cases b <;> simp [andL, andB, andL_ok bs]
theorem eqS_v {P : Program} {h : H} {t : TypeId} {xs ys : List V} {b : Bool} (hb : flatE P t xs ys = some b) : eqlV P h t (.agg xs) (.agg ys) = some b := by
  have hb0 := hb
  unfold flatE at hb
  split at hb
  · rename_i fs hu
    simp only [eqlV, hu, hb0]
  · rename_i n e hu
    simp only [eqlV, hu, hb0]
  · cases hb
theorem eqS_ok {P : Program} {h : H} {t : TypeId} {xs ys : List V} {bs : List Bool} (hb : flatE P t xs ys = andL bs) : binV P h .eql t (.agg xs) (.agg ys) = some (.p (.bool (andB bs))) := by
  show (eqlV P h t (.agg xs) (.agg ys)).map _ = _
  rw [eqS_v (hb.trans (andL_ok bs))]; rfl
theorem nqS_ok {P : Program} {h : H} {t : TypeId} {xs ys : List V} {bs : List Bool} (hb : flatE P t xs ys = andL bs) : binV P h .neq t (.agg xs) (.agg ys) = some (.p (.bool !(andB bs))) := by
  show (eqlV P h t (.agg xs) (.agg ys)).map _ = _
  rw [eqS_v (hb.trans (andL_ok bs))]; rfl
end Go.Ev
namespace Go.Ev
/-! ### Structs of slices that grew -/
theorem lc_nil {H : Ev.H} : layCs false H [] = some (([] : List V).map C.v, H) := rfl
theorem lc_pl {H H' : Ev.H} {x : V} {xs ys : List V} (hx : Still x) (t : layCs false H xs = some (ys.map C.v, H')) : layCs false H (x :: xs) = some ((x :: ys).map C.v, H') := by
  simp only [layCs, hx.lay, Option.bind_some, t, List.map_cons]
theorem lc_st {H H1 H' : Ev.H} {x y : V} {xs ys : List V} (hx : layC false H x = some (.v y, H1)) (t : layCs false H1 xs = some (ys.map C.v, H')) : layCs false H (x :: xs) = some ((y :: ys).map C.v, H') := by
  simp only [layCs, hx, Option.bind_some, t, List.map_cons]
theorem frz_of_lay : ∀ {xs ys : List V} {H H' : Ev.H}, layCs false H xs = some (ys.map C.v, H') → frzCs H xs = some (ys, H')
  | [], ys, H, H', h => by
    simp only [layCs, Option.some.injEq, Prod.mk.injEq] at h
    obtain ⟨h1, rfl⟩ := h
    have : ys = [] := by cases ys with | nil => rfl | cons y ys => cases h1
    subst this; rfl
  | x :: xs, ys, H, H', h => by
    simp only [layCs] at h
    obtain ⟨⟨c, H1⟩, h1, h2⟩ := Option.bind_eq_some_iff.1 h
    obtain ⟨⟨cs, H2⟩, h3, h4⟩ := Option.bind_eq_some_iff.1 h2
    simp only [Option.some.injEq, Prod.mk.injEq] at h4
    obtain ⟨h4, rfl⟩ := h4
    cases ys with
    | nil => cases h4
    | cons y ys =>
      simp only [List.map_cons, List.cons.injEq] at h4
      obtain ⟨rfl, rfl⟩ := h4
      simp only [frzCs, h1, Option.bind_some, frz_of_lay h3, Option.map_some]
theorem exp_of_lay {xs ys : List V} {H H' : Ev.H} (h : layCs false H xs = some (ys.map C.v, H')) (frz : Bool) (τ : Stamp) : expF frz τ H (.agg xs) = some (.v (.agg ys), H') := by
  have := frz_of_lay h
  cases frz <;> simp [expF, expC, this]
section
variable {N : Nat} {h0 Hp : H} {B : List Rt} {Γ : List (Nat × Stamp × List C)} {Δ : List Gw}
theorem Fm.cellsD (S : Fm N h0 B Γ Δ Hp) {i : Nat} {g : Gw} (hi : Δ[i]? = some g) : g.v.cells = [g.v] := by
  obtain ⟨L, rfl, h2, h3, h4, h5⟩ := S
  obtain ⟨cs, q1, q2⟩ := h5 g (List.mem_of_getElem? hi)
  rcases q2 with ⟨e1, e2, e3⟩ | ⟨q2, d', hd', s, tl, hv, h6⟩ | ⟨hv, q2, _⟩
  · rcases e3 with e | e <;> rw [e] <;> rfl
  · rw [hv]; rfl
  · rw [hv]; rfl
theorem Fm.layD (S : Fm N h0 B Γ Δ Hp) {i : Nat} {g : Gw} (hi : Δ[i]? = some g) (hf : freeL g.D Γ (Δ.eraseIdx i) = true) : ∃ y H', layC false Hp g.v = some (.v y, H') ∧ SlF g.d g.xs y ∧ Fm N h0 B Γ (Δ.eraseIdx i) H' := by
  have S' : Fm N h0 B Γ (Δ.eraseIdx i) Hp := S.wk (fun _ h => h) (fun _ h => mem_erase h)
  obtain ⟨L, rfl, h2, h3, h4, h5⟩ := S
  obtain ⟨cs, q1, q2⟩ := h5 g (List.mem_of_getElem? hi)
  rw [← pts_length B] at q2
  rcases q2 with ⟨e1, e2, e3⟩ | ⟨q2, d', hd', s, tl, hv, h6⟩ | ⟨hv, q2, _⟩
  · refine ⟨g.v, _, ?_, ⟨cs, ?_, q1⟩, S'⟩
    · rcases e3 with e | e <;> rw [e]
      · exact still_nilS.lay ..
      · exact (still_fz ..).lay ..
    · rw [e1, e2]
      rcases e3 with e | e <;> rw [e]
      · exact .nil _
      · exact .fz (by simp) _
  · refine ⟨.fz cs g.xs.length g.d.sz false, _, ?_, ⟨cs, .fz q2 _, q1⟩, dead_ok S' (mem_one hf hd') (.dead :: tl)⟩
    have h1 : at_ (L :: pts h0 B) ⟨(pts h0 B).length, d', 0, s, []⟩ = some (.arr s g.xs.length g.d.sz (cs.map .v)) := at_root h6 (by simp [C.node])
    have h7 := setAt_root (h := pts h0 B) (s := s) h6 .dead
    have h8 : rng cs 0 (g.xs.length * g.d.sz) = some cs := by unfold rng; rw [if_pos (by omega)]; simp [← q2]
    rw [hv]
    simp [layC, h1, h7, h8, plainCells_map, Loc.last, q2]
  · exact ⟨g.v, _, by rw [hv]; exact (still_fz ..).lay .., ⟨cs, by rw [hv]; exact .fz q2 _, q1⟩, S'⟩
end
end Go.Ev
namespace Go.Ev
/-! ### Arrays of numbers, bools -/
theorem range_getD {α : Type} (d : α) : ∀ (xs : List α), (List.range xs.length).map (fun i => xs.getD i d) = xs := fun xs => by
  apply List.ext_getElem
  · simp
  · intro i h1 h2; simp [List.getElem?_eq_getElem h2]
theorem dA_int {n : Nat} {k : IntKind} {xs : List Int} {us : List V} (h : (dA n (dI k)).R xs us) : us = (List.range n).map fun i => .p (.int k (xs.getD i 0)) := by
  obtain ⟨hn, hl⟩ := h
  have e := RL.ints hl
  subst hn
  rw [e]
  conv => lhs; rw [← range_getD 0 xs]
  rw [List.map_map]; rfl
theorem RL.bools : ∀ {xs : List Bool} {cs : List V}, dB.L xs cs → cs = xs.map fun n => .p (.bool n)
  | [], cs, h => h
  | x :: xs, cs, ⟨a, b, h1, h2, h3⟩ => by
    have e : a = [.p (.bool x)] := h2
    subst h1; subst e
    rw [RL.bools h3]; rfl
theorem dA_bool {n : Nat} {xs : List Bool} {us : List V} (h : (dA n dB).R xs us) : us = (List.range n).map fun i => .p (.bool (xs.getD i false)) := by
  obtain ⟨hn, hl⟩ := h
  have e := RL.bools hl
  subst hn
  rw [e]
  conv => lhs; rw [← range_getD false xs]
  rw [List.map_map]; rfl
theorem map_lit {α β : Type} {n : Nat} {xs : List α} (h : xs.length = n) (d : α) (f : α → β) : xs.map f = (List.range n).map fun i => f (xs.getD i d) := by
  subst h
  conv => lhs; rw [← range_getD d xs]
  rw [List.map_map]; rfl
theorem iA_ok {α : Type} {xs : List α} {n e : Nat} {l : Loc} {o : Nat} {i : Int} {x : α} (hx : ix xs i = some x) (hn : xs.length = n) : iA n e (.ref l o) i = some (.ref l (o + i.toNat * e)) := by
  obtain ⟨h0, hi, _⟩ := ix_some hx
  unfold iA
  simp only
  rw [if_pos ⟨h0, by omega⟩]
theorem iAV_ok {α : Type} {xs : List α} {ws : List V} {f : α → V} {n : Nat} {i : Int} {x : α} (hx : ix xs i = some x) (hw : ws = xs.map f) (hn : xs.length = n) : iAV n 1 false 1 (.agg ws) i = some (f x) := by
  obtain ⟨h0, hi, rfl⟩ := ix_some hx
  subst hw
  unfold iAV
  simp only
  rw [if_pos ⟨h0, by omega⟩]
  unfold Ev.rng
  rw [if_pos (by simp; omega), Nat.mul_one, Option.bind_some, List.drop_eq_getElem_cons (by simpa using hi)]
  simp [mkV]
section
variable {h : H} {l : Loc} {off j n : Nat} {cs : List C} {α : Type} {xs : List α} {f : α → V}
theorem AtC.ldIx (ha : AtC h l off cs) (hs : (cs.drop j).take n = xs.map fun z => .v (f z)) {i : Int} {x : α} (hx : ix xs i = some x) (hn : xs.length = n) : ldO false 1 h (.ref l (off + j + i.toNat * 1)) = some (f x) := by
  obtain ⟨h0, hi, rfl⟩ := ix_some hx
  rw [Nat.mul_one, Nat.add_assoc]
  refine ha.ld ?_
  have := congrArg (·[i.toNat]?) hs
  simp only [List.getElem?_take_of_lt (show i.toNat < n by omega), List.getElem?_drop, List.getElem?_map, List.getElem?_eq_getElem hi, Option.map_some] at this
  exact this
theorem take_set {α : Type} {cs : List α} {j n i : Nat} {x : α} (hi : i < n) (hl : j + n ≤ cs.length) : cs.set (j + i) x = cs.take j ++ ((cs.drop j).take n).set i x ++ cs.drop (j + n) := by
  have e : cs = cs.take j ++ (cs.drop j).take n ++ cs.drop (j + n) := by
    rw [List.append_assoc, ← List.drop_drop, List.take_append_drop, List.take_append_drop]
  conv => lhs; rw [e]
  rw [List.append_assoc, List.set_append_right _ _ (by simp; omega), List.set_append_left _ _ (by simp; omega), ← List.append_assoc]
  congr 3
  simp; omega
theorem slA_ok (ha : AtC h l off cs) (hs : (cs.drop j).take n = xs.map fun z => .v (f z)) {d : Dt α} (hd : d.L xs (xs.map f)) (hn : xs.length = n) (hp : 0 < n) (h1 : d.sz = 1) : slA n 1 h (.ref l (off + j)) none none none = some (.sl l (off + j) n n 1) ∧ SlH h d xs (.sl l (off + j) n n 1) := by
  have hlen : j + n ≤ cs.length := by
    have := congrArg List.length hs
    simp only [List.length_take, List.length_drop, List.length_map] at this
    omega
  obtain ⟨all, e1, e2⟩ := ha.rng hlen
  have hall := (rng_some e2).1
  constructor
  · simp only [slA, e1, Option.bind_some, Nat.mul_one]
    rw [if_neg (by omega)]
    simp [bI]
    omega
  · refine ⟨xs.map f, ?_, hd⟩
    rw [h1, hn]
    unfold Ev.rng at e2
    rw [if_pos hall] at e2
    refine .mk_sl e1 (by omega) ?_ (Nat.le_refl _)
    rw [Nat.mul_one, Option.some.inj e2, hs]
    have := toVs_plain l (off + j) (xs.map f)
    rw [List.map_map] at this
    exact this
end
section
variable {N : Nat} {h0 Hp : H} {B : List Rt} {Γ : List (Nat × Stamp × List C)} {Δ : List Gw}
theorem Fm.stIxG (S : Fm N h0 B Γ Δ Hp) {i d j n : Nat} {s σ : Stamp} {own : Bool} {cs : List C} {α : Type} {xs zs : List α} {f : α → V} {q : Int} {y : α} (hi : Γ[i]? = some (d, s, cs)) (hf : (freeG (Γ.eraseIdx i) d && freeD Δ d) = true) (hst : ∀ a, Still (f a))
    (hs : (cs.drop j).take n = xs.map fun z => .v (f z)) (hz : stx xs q y = some zs) (hn : xs.length = n) (dflt : α) :
    ∃ H', stO own 1 σ Hp (.ref ⟨h0.length, d, 0, s, []⟩ (j + q.toNat * 1)) (f y) = some H' ∧ Fm N h0 B (Γ.set i (d, s, cs.take j ++ (List.range n).map (fun i => .v (f (zs.getD i dflt))) ++ cs.drop (j + n))) Δ H' := by
  obtain ⟨⟨q0, q1⟩, rfl⟩ := stx_some hz
  have hlen : j + n ≤ cs.length := by
    have := congrArg List.length hs
    simp only [List.length_take, List.length_drop, List.length_map] at this
    by_cases h0 : n = 0
    · subst h0; omega
    · omega
  have e := (S.atG hi).st (own := own) (σ := σ) (hst y) (j := j + q.toNat) (by omega)
  rw [Nat.zero_add] at e
  rw [Nat.mul_one]
  refine ⟨_, e, ?_⟩
  have := S.setG (cs' := cs.set (j + q.toNat) (.v (f y))) hi hf (by simp)
  rw [take_set (n := n) (by omega) hlen, hs] at this
  rw [take_set (n := n) (by omega) hlen, hs]
  have e2 : (xs.map fun z => C.v (f z)).set q.toNat (.v (f y)) = (List.range n).map (fun i => .v (f ((xs.set q.toNat y).getD i dflt))) := by
    rw [← map_lit (xs := xs.set q.toNat y) (by simp [hn]) dflt (fun z => C.v (f z)), List.map_set]
  rw [e2] at this ⊢
  exact this
theorem Fm.stIxB (S : Fm N h0 B Γ Δ Hp) {i off j n : Nat} {l : Loc} {σ : Stamp} {own : Bool} {cs : List C} {α : Type} {xs zs : List α} {f : α → V} {q : Int} {y : α} (hi : B[i]? = some ⟨l, off, cs⟩) (hst : ∀ a, Still (f a))
    (hs : (cs.drop j).take n = xs.map fun z => .v (f z)) (hz : stx xs q y = some zs) (hn : xs.length = n) (dflt : α) :
    ∃ H', stO own 1 σ Hp (.ref l (off + j + q.toNat * 1)) (f y) = some H' ∧ Fm N h0 (B.set i ⟨l, off, cs.take j ++ (List.range n).map (fun i => .v (f (zs.getD i dflt))) ++ cs.drop (j + n)⟩) Γ Δ H' := by
  obtain ⟨⟨q0, q1⟩, rfl⟩ := stx_some hz
  have hlen : j + n ≤ cs.length := by
    have := congrArg List.length hs
    simp only [List.length_take, List.length_drop, List.length_map] at this
    by_cases h0 : n = 0
    · subst h0; omega
    · omega
  have e := (S.atB hi).st (own := own) (σ := σ) (hst y) (j := j + q.toNat) (by simp; omega)
  rw [Nat.mul_one, Nat.add_assoc]
  refine ⟨_, e, ?_⟩
  have := S.setB (cs := cs.set (j + q.toNat) (.v (f y))) hi (by simp)
  simp only at this
  rw [take_set (n := n) (by omega) hlen, hs] at this
  rw [take_set (n := n) (by omega) hlen, hs]
  have e2 : (xs.map fun z => C.v (f z)).set q.toNat (.v (f y)) = (List.range n).map (fun i => .v (f ((xs.set q.toNat y).getD i dflt))) := by
    rw [← map_lit (xs := xs.set q.toNat y) (by simp [hn]) dflt (fun z => C.v (f z)), List.map_set]
  rw [e2] at this ⊢
  exact this
end
end Go.Ev
/- From a law's arguments to the data that the lifted functions take. -/
namespace Go.Ev
theorem rl_val {t : DT} {α : Type} {d : Dt α} (f : t.D → α) (hc : ∀ x, d.R (f x) (t.cells x)) : ∀ l : List t.D, d.L (l.map f) (l.flatMap t.cells)
  | [] => RL.nil
  | x :: l => by
    rw [List.map_cons, List.flatMap_cons]
    exact RL.cons (hc x) (rl_val f hc l)
theorem slF_val {b : Nat} {t : DT} {α : Type} {d : Dt α} (f : t.D → α) (hc : ∀ x, d.R (f x) (t.cells x)) (hz : d.sz = t.size) (x : Option (List t.D)) : SlF d ((x.getD []).map f) ((DT.slice b t).val x) := by
  refine ⟨(x.getD []).flatMap t.cells, ?_, rl_val f hc _⟩
  rw [hz, List.length_map]
  exact fun h => isSl_val x h
theorem slF_ints {b : Nat} {k : IntKind} (x : Option (List Int)) : SlF (dI k) (x.getD []) ((DT.slice b (.int k)).val x) := by
  have := slF_val (b := b) (t := .int k) (d := dI k) (fun x => x) (fun x => rfl) rfl x
  rwa [List.map_id'] at this
/-! ### Arguments that are frozen as they go -/
theorem frzA_still {x : V} (hx : Still x) (hr : ∀ l o, x ≠ .ref l o) (hz : ∀ cs n e t, x = .fz cs n e t → Stills cs) (h : H) : frzA h x = some (x, h) := by
  unfold frzA
  split
  · exact absurd rfl (hr _ _)
  · have := hx.lay false h; simp [layC] at this
  · rw [frzCs_still h (hz _ _ _ _ rfl)]; rfl
  · rw [hx.lay false h]; rfl
theorem frzA_int {k : IntKind} {n : Int} {h : H} : frzA h (.p (.int k n)) = some (.p (.int k n), h) := frzA_still (still_int _ _) (fun _ _ => by simp) (fun _ _ _ _ => by simp) h
theorem frzA_bool {b : Bool} {h : H} : frzA h (.p (.bool b)) = some (.p (.bool b), h) := frzA_still (still_bool _) (fun _ _ => by simp) (fun _ _ _ _ => by simp) h
theorem frzA_str {b : ByteArray} {h : H} : frzA h (.p (.string b)) = some (.p (.string b), h) := frzA_still (still_str _) (fun _ _ => by simp) (fun _ _ _ _ => by simp) h
theorem SlH.fzs {α : Type} {d : Dt α} {xs : List α} {v : V} {h : H} (hx : SlH h d xs v) : ∀ cs n e t, v = .fz cs n e t → Stills cs := by
  intro cs n e t he
  obtain ⟨cs', h1, h2⟩ := hx
  have := h1.cells
  subst he
  simp only [cellsOf, Option.some.injEq] at this
  rw [this]
  exact RL.stills h2
theorem frzA_F {α : Type} {d : Dt α} {xs : List α} {v : V} (hx : SlF d xs v) {h : H} : frzA h v = some (v, h) := by
  refine frzA_still hx.still (fun l o he => ?_) (hx.h []).fzs h
  obtain ⟨cs, h1, _⟩ := hx
  have := (h1 []).sl
  subst he
  simp [isSl] at this
theorem frzA_D {α : Type} {d : Dt α} {xs : List α} {h h' : H} {v y : V} (hv : SlH h d xs v) (e : layC false h v = some (.v y, h')) : frzA h v = some (y, h') := by
  have hs : isSl v = true := by obtain ⟨cs, h1, _⟩ := hv; exact h1.sl
  unfold frzA
  split
  · simp [isSl] at hs
  · simp [isSl] at hs
  · rw [frzCs_still h (hv.fzs _ _ _ _ rfl)]
    simp only [layC, Option.some.injEq, Prod.mk.injEq, C.v.injEq] at e
    obtain ⟨rfl, rfl⟩ := e
    rfl
  · rw [e]; rfl
theorem frzAs_nil {h : H} : frzAs h [] = some ([], h) := rfl
theorem frzAs_cons {h h1 h2 : H} {x y : V} {xs ys : List V} (a : frzA h x = some (y, h1)) (b : frzAs h1 xs = some (ys, h2)) : frzAs h (x :: xs) = some (y :: ys, h2) := by
  simp only [frzAs, a, Option.bind_some, b, Option.map_some]
theorem callFO_eq {rec : CallF} {f : FuncId} {σ : Stamp} {args args' : List V} {H H' : Go.Ev.H} {d : Option Nat} (e : frzAs H args = some (args', H')) : callFO rec f σ args H d = callO rec f σ args' H' d := by
  unfold callFO callO; rw [e]; rfl
theorem Fm.layF {N : Nat} {h0 Hp : H} {B : List Rt} {Γ : List (Nat × Stamp × List C)} {Δ : List Gw} (S : Fm N h0 B Γ Δ Hp) {i : Nat} {g : Gw} (hi : Δ[i]? = some g) (hf : freeL g.D Γ (Δ.eraseIdx i) = true) : ∃ y H', frzA Hp g.v = some (y, H') ∧ SlF g.d g.xs y ∧ Fm N h0 B Γ (Δ.eraseIdx i) H' := by
  have hs := (S.sl hi)
  obtain ⟨y, H', e, hy, S'⟩ := S.layD hi hf
  exact ⟨y, H', frzA_D hs e, hy, S'⟩
theorem Fm.mkF {N : Nat} {h0 Hp : H} {B : List Rt} {Γ : List (Nat × Stamp × List C)} {Δ : List Gw} (S : Fm N h0 B Γ Δ Hp) {α : Type} {dt : Dt α} {d b e : Nat} {z : α} {zv : List V} {n : Int} {σ : Stamp} {zs : List α} (hz : Ev.mk b z n = some zs) (hR : dt.R z zv) (he : dt.sz = e) (hk : e ≠ 0) (hd : d < N) (hf : (freeG Γ d && freeD Δ d) = true) :
    ∃ y H', mkFO e b zv σ d Hp n n = some (y, H') ∧ SlF dt zs y ∧ Fm N h0 B Γ Δ H' := by
  obtain ⟨v, H1, e1, S1⟩ := S.mk (σ := σ) hz hR he hk hd hf
  have hfl : freeL [d] Γ Δ = true := by simpa [freeL] using hf
  obtain ⟨y, H2, e2, hy, S2⟩ := S1.layF (i := 0) rfl (by simpa using hfl)
  refine ⟨y, H2, ?_, hy, by simpa using S2⟩
  unfold mkFO
  rw [e1]
  exact e2
/-- So many noughts. -/
def zB (n : Int) : Option (List Int) := if 0 ≤ n ∧ n < 2 ^ 40 then some (List.replicate n.toNat 0) else none
theorem bytesS_zeros (n : Nat) : bytesS (zerosB n) = List.replicate n 0 := by
  unfold bytesS zerosB
  simp
theorem Fm.appZ {N : Nat} {h0 Hp : H} {B : List Rt} {Γ : List (Nat × Stamp × List C)} {Δ : List Gw} (S : Fm N h0 B Γ Δ Hp) {i d : Nat} {D : List Nat} {v0 : V} {xs : List Int} {own : Bool} {σ : Stamp} {n : Int} {ys zs : List Int} (hi : Δ[i]? = some ⟨D, v0, dI .u8, xs⟩) (hn : zB n = some ys) (hz : ap 1 xs ys = some zs) (hd : d < N) (hf : freeL (d :: D) Γ (Δ.eraseIdx i) = true) :
    ∃ v H', apZ own 1 1 σ d Hp v0 n = some (v, H') ∧ Fm N h0 B Γ (Δ.set i ⟨d :: D, v, dI .u8, zs⟩) H' := by
  unfold zB at hn
  split at hn
  · rename_i hc
    cases hn
    rw [← bytesS_zeros] at hz
    obtain ⟨v, H', e, S'⟩ := S.app (own := own) (σ := σ) (e := 1) hi (ysS Hp (zerosB n.toNat)) hz rfl (by decide) hd hf
    refine ⟨v, H', ?_, S'⟩
    have hl : (lenOf v0).getD 0 < 2 ^ 60 := by
      obtain ⟨cs, h1, _⟩ := (S.sl hi)
      have h2 : lenOf v0 = some xs.length := h1.ys.len
      have := (ap_some hz).1.1
      rw [h2]
      show xs.length < 2 ^ 60
      omega
    unfold apZ
    rw [if_pos ⟨hc.1, hc.2, hl⟩]
    exact e
  · cases hn
/-! ### A part of an element is written -/
def StN (x : V) (nv : List V) : Prop := ∀ (own : Bool) (σ : Stamp) (h : H) (l : Loc) (cs : List C) (o : Nat), nd h l = some cs → o + nv.length ≤ cs.length → stO own nv.length σ h (.ref l o) x = some (setNd h l (cs.take o ++ nv.map .v ++ cs.drop (o + nv.length)))
theorem stN_one {x : V} (hx : Still x) : StN x [x] := fun _ _ _ _ _ _ hn ho => by
  simp only [List.length_cons, List.length_nil, Nat.zero_add] at ho ⊢
  rw [stO_still hx hn (by omega)]
  congr 2
  rw [List.map_cons, List.map_nil, set_take_drop _ _ _ (by omega)]
theorem stN_agg {xs : List V} (hx : Stills xs) : StN (.agg xs) xs := fun _ _ _ _ _ _ hn ho => stO_agg hx hn ho
theorem GrowS.setN {D : List Nat} {L : Layer} {h : H} {v : V} {k n : Nat} {xs nv : List V} (ha : GrowS D L h.length v k n xs) (hD : noLit D = true) {own : Bool} {σ : Stamp} {j : Nat} {x : V} (hj : j + nv.length ≤ xs.length) (hp : 0 < nv.length) (hx : StN x nv) :
    ∃ L', stO own nv.length σ (L :: h) (adr v j) x = some (L' :: h) ∧ GrowS D L' h.length v k n (xs.take j ++ nv ++ xs.drop (j + nv.length)) ∧ L'.length = L.length ∧ ∀ j, j ∉ D → L'[j]? = L[j]? := by
  rcases ha with ⟨rfl, rfl, _⟩ | ⟨h2, d', hd', s, tl, rfl, h3⟩ | ⟨_, _, _, hd⟩
  · simp only [List.length_nil] at hj; omega
  · have hlt := (List.getElem?_eq_some_iff.1 h3).1
    have hlen : (xs.take j ++ nv ++ xs.drop (j + nv.length)).length = n * k := by
      rw [List.length_append, List.length_append, List.length_take, List.length_drop]; omega
    refine ⟨L.set d' (.arr s n k ((xs.take j ++ nv ++ xs.drop (j + nv.length)).map .v) :: tl), ?_, .inr (.inl ⟨hlen, d', hd', s, tl, rfl, by simp [hlt]⟩), by simp, fun j hj => ?_⟩
    · rw [adr, Nat.zero_add, hx own σ _ _ _ _ (nd_arr h3) (by simpa using hj), setNd_arr h3]
      simp [List.map_take, List.map_drop]
    · rw [List.getElem?_set_ne (fun e => hj (by rw [← e]; exact hd'))]
  · exact (noLit_no hD hd).elim
theorem Fm.setE {N : Nat} {h0 Hp : H} {B : List Rt} {Γ : List (Nat × Stamp × List C)} {Δ : List Gw} (S : Fm N h0 B Γ Δ Hp) {i off : Nat} {g : Gw} {own : Bool} {σ : Stamp} {k : Int} {old x : g.α} {nv : List V} {xv : V} {zs : List g.α} {n e : Nat}
    (hi : Δ[i]? = some g) (ho : ix g.xs k = some old) (hz : stx g.xs k x = some zs) (he : g.d.sz = e) (hn : nv.length = n) (hp : 0 < n) (hoff : off + n ≤ e) (hst : StN xv nv) (hx : ∀ ws, g.d.R old ws → g.d.R x (ws.take off ++ nv ++ ws.drop (off + n))) (hD : noLit g.D = true) (hf : freeL g.D Γ (Δ.eraseIdx i) = true) :
    ∃ H', stO own n σ Hp (adr g.v (k.toNat * e + off)) xv = some H' ∧ Fm N h0 B Γ (Δ.set i ⟨g.D, g.v, g.d, zs⟩) H' := by
  subst he; subst hn
  obtain ⟨⟨hk0, hk1⟩, rfl⟩ := stx_some hz
  obtain ⟨L, rfl, h2, h3, h4, h5⟩ := S
  obtain ⟨cs, q1, q2⟩ := h5 g (List.mem_of_getElem? hi)
  rw [← pts_length B] at q2
  have hlt := (List.getElem?_eq_some_iff.1 hi).1
  have hcl := RL.length (fun h => g.d.len h) q1
  obtain ⟨_, hix, hold⟩ := ix_some ho
  obtain ⟨ws, hR, hw⟩ := RL.get (fun h => g.d.len h) q1 hix
  rw [hold] at hR
  have hwl := g.d.len hR
  have hin : k.toNat * g.d.sz + g.d.sz ≤ cs.length := by
    have := Nat.mul_le_mul_right g.d.sz (Nat.succ_le_of_lt hix)
    rw [Nat.succ_mul] at this; omega
  obtain ⟨L', e1, e2, e3, e4⟩ := q2.setN hD (own := own) (σ := σ) (j := k.toNat * g.d.sz + off) (x := xv) (nv := nv) (by omega) hp hst
  have hfr := List.all_eq_true.1 hf
  refine ⟨_, e1, L', rfl, by omega, h3, fun e he => by
    rw [e4 _ fun hm => ?_]
    · exact h4 e he
    · have := hfr _ hm
      simp only [Bool.and_eq_true] at this
      exact freeG_ne this.1 he rfl, fun g' hg' => ?_⟩
  rcases mem_set hg' hlt with rfl | hg'
  · refine ⟨_, ?_, by rw [← pts_length B]; simpa using e2⟩
    have := q1.set (k := g.d.sz) (fun h => g.d.len h) (i := k.toNat) (y := x) hix (hx ws hR)
    have hsplit : cs = cs.take (k.toNat * g.d.sz) ++ (ws ++ cs.drop (k.toNat * g.d.sz + g.d.sz)) := by
      rw [← hw, ← List.drop_drop, List.take_append_drop, List.take_append_drop]
    have hA : (cs.take (k.toNat * g.d.sz)).length = k.toNat * g.d.sz := by rw [List.length_take]; omega
    generalize cs.take (k.toNat * g.d.sz) = A at hsplit hA this
    generalize cs.drop (k.toNat * g.d.sz + g.d.sz) = Bc at hsplit this
    rw [hsplit]
    rw [List.take_append, List.take_append, List.drop_append, List.drop_append, hA, hwl]
    rw [List.take_of_length_le (l := A) (by omega), List.drop_of_length_le (l := A) (by omega)]
    have t1 : k.toNat * g.d.sz + off - k.toNat * g.d.sz = off := by omega
    have t2 : k.toNat * g.d.sz + off + nv.length - k.toNat * g.d.sz = off + nv.length := by omega
    have t3 : off - g.d.sz = 0 := by omega
    have t4 : off + nv.length - g.d.sz = 0 := by omega
    rw [t1, t2, t3, t4, List.take_zero, List.drop_zero, List.append_nil, List.nil_append]
    simp only [List.append_assoc] at this ⊢
    exact this
  · exact (h5 g' (mem_erase hg')).frame fun x hx => e4 x fun hm => by
      have := hfr _ hm
      simp only [Bool.and_eq_true] at this
      exact freeD_ne this.2 hg' hx
/-- The whole of an element, seen or not. -/
theorem Fm.setA {N : Nat} {h0 Hp : H} {B : List Rt} {Γ : List (Nat × Stamp × List C)} {Δ : List Gw} (S : Fm N h0 B Γ Δ Hp) {i : Nat} {g : Gw} {own : Bool} {σ : Stamp} {k : Int} {x : g.α} {nv : List V} {xv : V} {zs : List g.α} {e : Nat}
    (hi : Δ[i]? = some g) (hz : stx g.xs k x = some zs) (he : g.d.sz = e) (hp : 0 < e) (hst : StN xv nv) (hx : g.d.R x nv) (hD : noLit g.D = true) (hf : freeL g.D Γ (Δ.eraseIdx i) = true) :
    ∃ H', stO own e σ Hp (adr g.v (k.toNat * e)) xv = some H' ∧ Fm N h0 B Γ (Δ.set i ⟨g.D, g.v, g.d, zs⟩) H' := by
  obtain ⟨⟨hk0, hk1⟩, _⟩ := stx_some hz
  have hlt : k.toNat < g.xs.length := by omega
  have ho : ix g.xs k = some g.xs[k.toNat] := by unfold ix; rw [if_pos hk0]; simp [hlt]
  have hl := g.d.len hx
  exact S.setE (off := 0) (own := own) (σ := σ) hi ho hz he (hl.trans he) hp (by omega) hst (fun ws hw => by
    have := g.d.len hw
    rw [List.take_zero, List.nil_append, Nat.zero_add, List.drop_of_length_le (by omega), List.append_nil]
    exact hx) hD hf
end Go.Ev
/- A slice of a frame below that is appended to: it goes, and a new one comes. -/
namespace Go.Ev
/-- A slice that the frame below holds in slots of its own. -/
def OwnA {α : Type} (D : List Nat) (h : H) (dt : Dt α) (xs : List α) (v : V) : Prop := ∃ cs L h1, h = L :: h1 ∧ dt.L xs cs ∧ GrowS D L h1.length v dt.sz xs.length cs
/-- What lay in these slots may be gone, all else stands. -/
def KillA (D : List Nat) (h h' : H) : Prop := ∃ L L' h1, h = L :: h1 ∧ h' = L' :: h1 ∧ L'.length = L.length ∧ ∀ j, j ∉ D → L'[j]? = L[j]?
theorem OwnA.h {α : Type} {D : List Nat} {h : H} {dt : Dt α} {xs : List α} {v : V} (ho : OwnA D h dt xs v) : SlH h dt xs v := by
  obtain ⟨cs, L, h1, rfl, hl, hg⟩ := ho
  exact ⟨cs, hg.sl, hl⟩
theorem OwnA.refl {α : Type} {D : List Nat} {h : H} {dt : Dt α} {xs : List α} {v : V} (ho : OwnA D h dt xs v) : KillA D h h := by
  obtain ⟨cs, L, h1, rfl, _, _⟩ := ho
  exact ⟨L, L, h1, rfl, rfl, rfl, fun _ _ => rfl⟩
theorem GrowS.appUp {D : List Nat} {L U : Layer} {h : H} {v : V} {k n : Nat} {xs : List V} (ha : GrowS D L h.length v k n xs) {own : Bool} {b d m : Nat} {σ : Stamp} {y : V} {ys : List V} (hd : d < U.length) (hy : Ys (U :: L :: h) y k m ys) (hs : Stills ys) (hk : k ≠ 0) (hm : m ≠ 0) (hb : (n + m) * b ≤ 2 ^ 47) (hb2 : n + m < 2 ^ 61) :
    ∃ v' U' L', apO own k b σ d (U :: L :: h) v y = some (v', U' :: L' :: h) ∧ GrowS [d] U' (h.length + 1) v' k (n + m) (xs ++ ys) ∧ U'.length = U.length ∧ L'.length = L.length ∧ ∀ j, j ∉ D → L'[j]? = L[j]? := by
  have hcl := hy.clen
  have base : ∀ x, apO own k b σ d (U :: L :: h) x y = apTo k b σ d (U :: L :: h) m (ys.map .v) x := fun x => by
    unfold apO
    rw [hy.len, hy.cells]
    simp only [Option.bind_some]
    rw [if_neg (by simp [hcl, hk]), if_neg hm, layCs_still own _ hs]
    rfl
  have nl : newLoc (U :: L :: h) d σ = ⟨h.length + 1, d, 0, σ, []⟩ := by simp [newLoc, top]
  rcases ha with ⟨rfl, rfl, rfl | rfl⟩ | ⟨h2, d', hd', s, tl, rfl, h3⟩ | ⟨rfl, h2, h3, _⟩
  · refine ⟨_, U.set d [.arr σ m k (ys.map .v)], L, ?_, .inr (.inl ⟨by simpa using hcl, d, List.mem_cons_self .., σ, [], by rw [Nat.zero_add], by simp [hd]⟩), by simp, rfl, fun j hj => rfl⟩
    rw [base, apTo, if_pos ⟨by simpa using hb, by simpa using hb2⟩, nl]; rfl
  · refine ⟨_, U.set d [.arr σ (0 + m) k (ys.map .v)], L, ?_, .inr (.inl ⟨by simpa using hcl, d, List.mem_cons_self .., σ, [], rfl, by simp [hd]⟩), by simp, rfl, fun j hj => rfl⟩
    rw [base, apTo, if_pos ⟨rfl, rfl, by simp, by simpa using hb, by simpa using hb2, by simp⟩, nl]; rfl
  · have hnd : nd (U :: L :: h) ⟨h.length, d', 0, s, []⟩ = some (xs.map .v) := by
      have : nd (L :: h) ⟨h.length, d', 0, s, []⟩ = some (xs.map .v) := nd_arr h3
      simp only [nd, at_, rootC] at this ⊢
      rw [if_neg (by simp)]
      exact this
    have hset : setAt (U :: L :: h) ⟨h.length, d', 0, s, []⟩ .dead = U :: L.set d' (.dead :: tl) :: h := by
      have h2 : rootC (U :: L :: h) ⟨h.length, d', 0, s, []⟩ = some (.arr s n k (xs.map .v)) := by simp [rootC, h3]
      simp [setAt, h2, repl, setRoot, h3]
    refine ⟨_, U.set d [.arr σ (n + m) k (xs.map .v ++ ys.map .v)], L.set d' (.dead :: tl), ?_, .inr (.inl ⟨by rw [List.length_append, h2, hcl, Nat.add_mul], d, List.mem_cons_self .., σ, [], rfl, by simp [hd]⟩), by simp, by simp, fun j hj => ?_⟩
    · rw [base, apTo, if_neg (by simp), hnd]
      simp only [Option.bind_some]
      rw [if_neg (by omega), if_pos ⟨trivial, by simpa using h2, hb, hb2⟩, hset, nl]
      rfl
    · rw [List.getElem?_set_ne (fun e => hj (by rw [← e]; exact hd'))]
  · refine ⟨_, U.set d [.arr σ (n + m) k (xs.map .v ++ ys.map .v)], L, ?_, .inr (.inl ⟨by rw [List.length_append, h2, hcl, Nat.add_mul], d, List.mem_cons_self .., σ, [], rfl, by simp [hd]⟩), by simp, rfl, fun j hj => rfl⟩
    rw [base, apTo, if_pos ⟨rfl, rfl, h2, hb, hb2, Still.leafs h3⟩, nl]; rfl
/-- The callee's side. -/
theorem Fm.appA {N : Nat} {h Hp : H} (S : Fm N h [] [] [] Hp) {α : Type} {dt : Dt α} {D : List Nat} {d b e : Nat} {x : V} {xs ys zs : List α} {own : Bool} {σ : Stamp} {y : V} (ho : OwnA D h dt xs x) (hy : YsH Hp dt ys y) (hz : ap b xs ys = some zs) (he : dt.sz = e) (hk : e ≠ 0) (hm : ys.length ≠ 0) (hd : d < N) :
    ∃ v h' H', apO own e b σ d Hp x y = some (v, H') ∧ KillA D h h' ∧ Fm N h' [] [] [⟨[d], v, dt, zs⟩] H' := by
  subst he
  obtain ⟨⟨hb1, hb2⟩, rfl⟩ := ap_some hz
  obtain ⟨cs, L, h1, rfl, hl, hg⟩ := ho
  obtain ⟨U, rfl, h2, h3, h4, h5⟩ := S
  obtain ⟨ds, r1, r2⟩ := hy
  obtain ⟨v', U', L', e1, e2, e3, e4, e5⟩ := hg.appUp (U := U) (own := own) (σ := σ) (d := d) (by omega) r1 (RL.stills r2) hk hm hb1 hb2
  refine ⟨v', L' :: h1, _, e1, ⟨L, L', h1, rfl, rfl, e4, e5⟩, U', rfl, by omega, trivial, by simp, fun g hg' => ?_⟩
  rcases List.mem_cons.1 hg' with rfl | hg'
  · exact ⟨cs ++ ds, hl.append r2, by simpa using e2⟩
  · cases hg'
/-- The caller's. -/
theorem Fm.ownA {N : Nat} {h0 Hp : H} {B : List Rt} {Γ : List (Nat × Stamp × List C)} {Δ : List Gw} (S : Fm N h0 B Γ Δ Hp) {i : Nat} {g : Gw} (hi : Δ[i]? = some g) : OwnA g.D Hp g.d g.xs g.v := by
  obtain ⟨L, rfl, h2, h3, h4, h5⟩ := S
  obtain ⟨cs, q1, q2⟩ := h5 g (List.mem_of_getElem? hi)
  exact ⟨cs, L, _, rfl, q1, by rw [pts_length]; exact q2⟩
theorem Fm.killA {N : Nat} {h0 Hp Hp' : H} {B : List Rt} {Γ : List (Nat × Stamp × List C)} {Δ : List Gw} (S : Fm N h0 B Γ Δ Hp) {i : Nat} {g : Gw} (_ : Δ[i]? = some g) (hf : freeL g.D Γ (Δ.eraseIdx i) = true) (hk : KillA g.D Hp Hp') : Fm N h0 B Γ (Δ.eraseIdx i) Hp' := by
  obtain ⟨L, rfl, h2, h3, h4, h5⟩ := S
  obtain ⟨L0, L', h1, e1, rfl, e3, e4⟩ := hk
  simp only [List.cons.injEq] at e1
  obtain ⟨rfl, rfl⟩ := e1
  have hfr := List.all_eq_true.1 hf
  refine ⟨L', rfl, by omega, h3, fun e he => ?_, fun g' hg' => ?_⟩
  · rw [e4 _ fun hm => ?_]
    · exact h4 e he
    · have := hfr _ hm
      simp only [Bool.and_eq_true] at this
      exact freeG_ne this.1 he rfl
  · exact (h5 g' (mem_erase hg')).frame fun x hx => e4 x fun hm => by
      have := hfr _ hm
      simp only [Bool.and_eq_true] at this
      exact freeD_ne this.2 hg' hx
theorem frzCs_nil {h : H} : frzCs h [] = some ([], h) := rfl
theorem frzCs_cons {h h1 h2 : H} {x y : V} {xs ys : List V} (a : layC false h x = some (.v y, h1)) (b : frzCs h1 xs = some (ys, h2)) : frzCs h (x :: xs) = some (y :: ys, h2) := by
  simp only [frzCs, a, Option.bind_some, b, Option.map_some]
theorem frzA_fz {h h' : H} {xs ys : List V} {n k : Nat} {t : Bool} (e : frzCs h xs = some (ys, h')) : frzA h (.fz xs n k t) = some (.fz ys n k t, h') := by
  simp only [frzA, e, Option.map_some]
theorem frzA_agg {h : H} {xs : List V} (hx : Stills xs) : frzA h (.agg xs) = some (.agg xs, h) := by simp only [frzA, frzCs_still h hx, Option.map_some]
theorem frzA_aggL {h h' : H} {xs ys : List V} (e : frzCs h xs = some (ys, h')) : frzA h (.agg xs) = some (.agg ys, h') := by simp only [frzA, e, Option.map_some]
end Go.Ev
/- The structs that may be plain values, printed by lfty.py. -/
namespace Go.Ev
set_option linter.unusedVariables false
structure T_struct_msg_string_addr_uintptr where
  msg : ByteArray
  addr : Int
def T_struct_msg_string_addr_uintptr.tp (x : T_struct_msg_string_addr_uintptr) : (ByteArray × (Int × Unit)) := (x.msg, (x.addr, ()))
def dT_struct_msg_string_addr_uintptr : Dt T_struct_msg_string_addr_uintptr := (dP dS (dP (dI .u64) dU)).via T_struct_msg_string_addr_uintptr.tp
theorem dT_struct_msg_string_addr_uintptr.inv {x : T_struct_msg_string_addr_uintptr} {vs : List V} (h : dT_struct_msg_string_addr_uintptr.R x vs) : vs = [.p (.string x.msg), .p (.int .u64 x.addr)] := by
  obtain ⟨u0, w0, e0, h0, u1, w1, e1, h1, hend⟩ := h
  obtain rfl : u0 = [.p (.string x.msg)] := h0
  obtain rfl : u1 = [.p (.int .u64 x.addr)] := h1
  obtain rfl := (show _ = [] from hend)
  subst e1
  subst e0
  rfl
theorem dT_struct_msg_string_addr_uintptr.mk {y_msg : ByteArray} {y_addr : Int}  : dT_struct_msg_string_addr_uintptr.R (⟨y_msg, y_addr⟩ : T_struct_msg_string_addr_uintptr) [.p (.string y_msg), .p (.int .u64 y_addr)] := ⟨[.p (.string y_msg)], [.p (.int .u64 y_addr)], rfl, rfl, ⟨[.p (.int .u64 y_addr)], [], rfl, rfl, rfl⟩⟩
structure T_struct_L_int_At_int where
  f_L : (List Int)
  f_At : Int
def T_struct_L_int_At_int.tp (x : T_struct_L_int_At_int) : ((List Int) × (Int × Unit)) := (x.f_L, (x.f_At, ()))
def dT_struct_L_int_At_int : Dt T_struct_L_int_At_int := (dP (dSl (dI .i64)) (dP (dI .i64) dU)).via T_struct_L_int_At_int.tp
theorem dT_struct_L_int_At_int.inv {x : T_struct_L_int_At_int} {vs : List V} (h : dT_struct_L_int_At_int.R x vs) : ∃ v0, vs = [v0, .p (.int .i64 x.f_At)] ∧ SlF (dI .i64) x.f_L v0 := by
  obtain ⟨u0, w0, e0, h0, u1, w1, e1, h1, hend⟩ := h
  obtain ⟨v0, rfl, s0⟩ := h0
  obtain rfl : u1 = [.p (.int .i64 x.f_At)] := h1
  obtain rfl := (show _ = [] from hend)
  subst e1
  subst e0
  exact ⟨v0, rfl, s0⟩
theorem dT_struct_L_int_At_int.mk {y_f_L : (List Int)} {y_f_At : Int} {v0 : V} (s0 : SlF (dI .i64) y_f_L v0) : dT_struct_L_int_At_int.R (⟨y_f_L, y_f_At⟩ : T_struct_L_int_At_int) [v0, .p (.int .i64 y_f_At)] := ⟨[v0], [.p (.int .i64 y_f_At)], rfl, ⟨v0, rfl, s0⟩, ⟨[.p (.int .i64 y_f_At)], [], rfl, rfl, rfl⟩⟩
structure T_limelightkeep_Tape where
  f_L : (List Int)
  f_At : Int
def T_limelightkeep_Tape.tp (x : T_limelightkeep_Tape) : ((List Int) × (Int × Unit)) := (x.f_L, (x.f_At, ()))
def dT_limelightkeep_Tape : Dt T_limelightkeep_Tape := (dP (dSl (dI .i64)) (dP (dI .i64) dU)).via T_limelightkeep_Tape.tp
theorem dT_limelightkeep_Tape.inv {x : T_limelightkeep_Tape} {vs : List V} (h : dT_limelightkeep_Tape.R x vs) : ∃ v0, vs = [v0, .p (.int .i64 x.f_At)] ∧ SlF (dI .i64) x.f_L v0 := by
  obtain ⟨u0, w0, e0, h0, u1, w1, e1, h1, hend⟩ := h
  obtain ⟨v0, rfl, s0⟩ := h0
  obtain rfl : u1 = [.p (.int .i64 x.f_At)] := h1
  obtain rfl := (show _ = [] from hend)
  subst e1
  subst e0
  exact ⟨v0, rfl, s0⟩
theorem dT_limelightkeep_Tape.mk {y_f_L : (List Int)} {y_f_At : Int} {v0 : V} (s0 : SlF (dI .i64) y_f_L v0) : dT_limelightkeep_Tape.R (⟨y_f_L, y_f_At⟩ : T_limelightkeep_Tape) [v0, .p (.int .i64 y_f_At)] := ⟨[v0], [.p (.int .i64 y_f_At)], rfl, ⟨v0, rfl, s0⟩, ⟨[.p (.int .i64 y_f_At)], [], rfl, rfl, rfl⟩⟩
structure T_struct_ID_int_Data_uint8 where
  ID : Int
  Data : (List Int)
def T_struct_ID_int_Data_uint8.tp (x : T_struct_ID_int_Data_uint8) : (Int × ((List Int) × Unit)) := (x.ID, (x.Data, ()))
def dT_struct_ID_int_Data_uint8 : Dt T_struct_ID_int_Data_uint8 := (dP (dI .i64) (dP (dSl (dI .u8)) dU)).via T_struct_ID_int_Data_uint8.tp
theorem dT_struct_ID_int_Data_uint8.inv {x : T_struct_ID_int_Data_uint8} {vs : List V} (h : dT_struct_ID_int_Data_uint8.R x vs) : ∃ v1, vs = [.p (.int .i64 x.ID), v1] ∧ SlF (dI .u8) x.Data v1 := by
  obtain ⟨u0, w0, e0, h0, u1, w1, e1, h1, hend⟩ := h
  obtain rfl : u0 = [.p (.int .i64 x.ID)] := h0
  obtain ⟨v1, rfl, s1⟩ := h1
  obtain rfl := (show _ = [] from hend)
  subst e1
  subst e0
  exact ⟨v1, rfl, s1⟩
theorem dT_struct_ID_int_Data_uint8.mk {y_ID : Int} {y_Data : (List Int)} {v1 : V} (s1 : SlF (dI .u8) y_Data v1) : dT_struct_ID_int_Data_uint8.R (⟨y_ID, y_Data⟩ : T_struct_ID_int_Data_uint8) [.p (.int .i64 y_ID), v1] := ⟨[.p (.int .i64 y_ID)], [v1], rfl, rfl, ⟨[v1], [], rfl, ⟨v1, rfl, s1⟩, rfl⟩⟩
structure T_api_Elem where
  ID : Int
  Data : (List Int)
def T_api_Elem.tp (x : T_api_Elem) : (Int × ((List Int) × Unit)) := (x.ID, (x.Data, ()))
def dT_api_Elem : Dt T_api_Elem := (dP (dI .i64) (dP (dSl (dI .u8)) dU)).via T_api_Elem.tp
theorem dT_api_Elem.inv {x : T_api_Elem} {vs : List V} (h : dT_api_Elem.R x vs) : ∃ v1, vs = [.p (.int .i64 x.ID), v1] ∧ SlF (dI .u8) x.Data v1 := by
  obtain ⟨u0, w0, e0, h0, u1, w1, e1, h1, hend⟩ := h
  obtain rfl : u0 = [.p (.int .i64 x.ID)] := h0
  obtain ⟨v1, rfl, s1⟩ := h1
  obtain rfl := (show _ = [] from hend)
  subst e1
  subst e0
  exact ⟨v1, rfl, s1⟩
theorem dT_api_Elem.mk {y_ID : Int} {y_Data : (List Int)} {v1 : V} (s1 : SlF (dI .u8) y_Data v1) : dT_api_Elem.R (⟨y_ID, y_Data⟩ : T_api_Elem) [.p (.int .i64 y_ID), v1] := ⟨[.p (.int .i64 y_ID)], [v1], rfl, rfl, ⟨[v1], [], rfl, ⟨v1, rfl, s1⟩, rfl⟩⟩
structure T_struct_Marker_bool_Type_int_Seq_uint16_Time_uint32_Ssrc_uint32_Csrc_uint32_Profile_uint16_Ext_uint8_Payload_uint8 where
  Marker : Bool
  f_Type : Int
  Seq : Int
  Time : Int
  Ssrc : Int
  Csrc : (List Int)
  Profile : Int
  Ext : (List Int)
  Payload : (List Int)
def T_struct_Marker_bool_Type_int_Seq_uint16_Time_uint32_Ssrc_uint32_Csrc_uint32_Profile_uint16_Ext_uint8_Payload_uint8.tp (x : T_struct_Marker_bool_Type_int_Seq_uint16_Time_uint32_Ssrc_uint32_Csrc_uint32_Profile_uint16_Ext_uint8_Payload_uint8) : (Bool × (Int × (Int × (Int × (Int × ((List Int) × (Int × ((List Int) × ((List Int) × Unit))))))))) := (x.Marker, (x.f_Type, (x.Seq, (x.Time, (x.Ssrc, (x.Csrc, (x.Profile, (x.Ext, (x.Payload, ())))))))))
def dT_struct_Marker_bool_Type_int_Seq_uint16_Time_uint32_Ssrc_uint32_Csrc_uint32_Profile_uint16_Ext_uint8_Payload_uint8 : Dt T_struct_Marker_bool_Type_int_Seq_uint16_Time_uint32_Ssrc_uint32_Csrc_uint32_Profile_uint16_Ext_uint8_Payload_uint8 := (dP dB (dP (dI .i64) (dP (dI .u16) (dP (dI .u32) (dP (dI .u32) (dP (dSl (dI .u32)) (dP (dI .u16) (dP (dSl (dI .u8)) (dP (dSl (dI .u8)) dU))))))))).via T_struct_Marker_bool_Type_int_Seq_uint16_Time_uint32_Ssrc_uint32_Csrc_uint32_Profile_uint16_Ext_uint8_Payload_uint8.tp
theorem dT_struct_Marker_bool_Type_int_Seq_uint16_Time_uint32_Ssrc_uint32_Csrc_uint32_Profile_uint16_Ext_uint8_Payload_uint8.inv {x : T_struct_Marker_bool_Type_int_Seq_uint16_Time_uint32_Ssrc_uint32_Csrc_uint32_Profile_uint16_Ext_uint8_Payload_uint8} {vs : List V} (h : dT_struct_Marker_bool_Type_int_Seq_uint16_Time_uint32_Ssrc_uint32_Csrc_uint32_Profile_uint16_Ext_uint8_Payload_uint8.R x vs) : ∃ v5 v7 v8, vs = [.p (.bool x.Marker), .p (.int .i64 x.f_Type), .p (.int .u16 x.Seq), .p (.int .u32 x.Time), .p (.int .u32 x.Ssrc), v5, .p (.int .u16 x.Profile), v7, v8] ∧ SlF (dI .u32) x.Csrc v5 ∧ SlF (dI .u8) x.Ext v7 ∧ SlF (dI .u8) x.Payload v8 := by
  obtain ⟨u0, w0, e0, h0, u1, w1, e1, h1, u2, w2, e2, h2, u3, w3, e3, h3, u4, w4, e4, h4, u5, w5, e5, h5, u6, w6, e6, h6, u7, w7, e7, h7, u8, w8, e8, h8, hend⟩ := h
  obtain rfl : u0 = [.p (.bool x.Marker)] := h0
  obtain rfl : u1 = [.p (.int .i64 x.f_Type)] := h1
  obtain rfl : u2 = [.p (.int .u16 x.Seq)] := h2
  obtain rfl : u3 = [.p (.int .u32 x.Time)] := h3
  obtain rfl : u4 = [.p (.int .u32 x.Ssrc)] := h4
  obtain ⟨v5, rfl, s5⟩ := h5
  obtain rfl : u6 = [.p (.int .u16 x.Profile)] := h6
  obtain ⟨v7, rfl, s7⟩ := h7
  obtain ⟨v8, rfl, s8⟩ := h8
  obtain rfl := (show _ = [] from hend)
  subst e8
  subst e7
  subst e6
  subst e5
  subst e4
  subst e3
  subst e2
  subst e1
  subst e0
  exact ⟨v5, v7, v8, rfl, s5, s7, s8⟩
theorem dT_struct_Marker_bool_Type_int_Seq_uint16_Time_uint32_Ssrc_uint32_Csrc_uint32_Profile_uint16_Ext_uint8_Payload_uint8.mk {y_Marker : Bool} {y_f_Type : Int} {y_Seq : Int} {y_Time : Int} {y_Ssrc : Int} {y_Csrc : (List Int)} {y_Profile : Int} {y_Ext : (List Int)} {y_Payload : (List Int)} {v5 : V} {v7 : V} {v8 : V} (s5 : SlF (dI .u32) y_Csrc v5) (s7 : SlF (dI .u8) y_Ext v7) (s8 : SlF (dI .u8) y_Payload v8) : dT_struct_Marker_bool_Type_int_Seq_uint16_Time_uint32_Ssrc_uint32_Csrc_uint32_Profile_uint16_Ext_uint8_Payload_uint8.R (⟨y_Marker, y_f_Type, y_Seq, y_Time, y_Ssrc, y_Csrc, y_Profile, y_Ext, y_Payload⟩ : T_struct_Marker_bool_Type_int_Seq_uint16_Time_uint32_Ssrc_uint32_Csrc_uint32_Profile_uint16_Ext_uint8_Payload_uint8) [.p (.bool y_Marker), .p (.int .i64 y_f_Type), .p (.int .u16 y_Seq), .p (.int .u32 y_Time), .p (.int .u32 y_Ssrc), v5, .p (.int .u16 y_Profile), v7, v8] := ⟨[.p (.bool y_Marker)], [.p (.int .i64 y_f_Type), .p (.int .u16 y_Seq), .p (.int .u32 y_Time), .p (.int .u32 y_Ssrc), v5, .p (.int .u16 y_Profile), v7, v8], rfl, rfl, ⟨[.p (.int .i64 y_f_Type)], [.p (.int .u16 y_Seq), .p (.int .u32 y_Time), .p (.int .u32 y_Ssrc), v5, .p (.int .u16 y_Profile), v7, v8], rfl, rfl, ⟨[.p (.int .u16 y_Seq)], [.p (.int .u32 y_Time), .p (.int .u32 y_Ssrc), v5, .p (.int .u16 y_Profile), v7, v8], rfl, rfl, ⟨[.p (.int .u32 y_Time)], [.p (.int .u32 y_Ssrc), v5, .p (.int .u16 y_Profile), v7, v8], rfl, rfl, ⟨[.p (.int .u32 y_Ssrc)], [v5, .p (.int .u16 y_Profile), v7, v8], rfl, rfl, ⟨[v5], [.p (.int .u16 y_Profile), v7, v8], rfl, ⟨v5, rfl, s5⟩, ⟨[.p (.int .u16 y_Profile)], [v7, v8], rfl, rfl, ⟨[v7], [v8], rfl, ⟨v7, rfl, s7⟩, ⟨[v8], [], rfl, ⟨v8, rfl, s8⟩, rfl⟩⟩⟩⟩⟩⟩⟩⟩⟩
structure T_api_Rtp where
  Marker : Bool
  f_Type : Int
  Seq : Int
  Time : Int
  Ssrc : Int
  Csrc : (List Int)
  Profile : Int
  Ext : (List Int)
  Payload : (List Int)
def T_api_Rtp.tp (x : T_api_Rtp) : (Bool × (Int × (Int × (Int × (Int × ((List Int) × (Int × ((List Int) × ((List Int) × Unit))))))))) := (x.Marker, (x.f_Type, (x.Seq, (x.Time, (x.Ssrc, (x.Csrc, (x.Profile, (x.Ext, (x.Payload, ())))))))))
def dT_api_Rtp : Dt T_api_Rtp := (dP dB (dP (dI .i64) (dP (dI .u16) (dP (dI .u32) (dP (dI .u32) (dP (dSl (dI .u32)) (dP (dI .u16) (dP (dSl (dI .u8)) (dP (dSl (dI .u8)) dU))))))))).via T_api_Rtp.tp
theorem dT_api_Rtp.inv {x : T_api_Rtp} {vs : List V} (h : dT_api_Rtp.R x vs) : ∃ v5 v7 v8, vs = [.p (.bool x.Marker), .p (.int .i64 x.f_Type), .p (.int .u16 x.Seq), .p (.int .u32 x.Time), .p (.int .u32 x.Ssrc), v5, .p (.int .u16 x.Profile), v7, v8] ∧ SlF (dI .u32) x.Csrc v5 ∧ SlF (dI .u8) x.Ext v7 ∧ SlF (dI .u8) x.Payload v8 := by
  obtain ⟨u0, w0, e0, h0, u1, w1, e1, h1, u2, w2, e2, h2, u3, w3, e3, h3, u4, w4, e4, h4, u5, w5, e5, h5, u6, w6, e6, h6, u7, w7, e7, h7, u8, w8, e8, h8, hend⟩ := h
  obtain rfl : u0 = [.p (.bool x.Marker)] := h0
  obtain rfl : u1 = [.p (.int .i64 x.f_Type)] := h1
  obtain rfl : u2 = [.p (.int .u16 x.Seq)] := h2
  obtain rfl : u3 = [.p (.int .u32 x.Time)] := h3
  obtain rfl : u4 = [.p (.int .u32 x.Ssrc)] := h4
  obtain ⟨v5, rfl, s5⟩ := h5
  obtain rfl : u6 = [.p (.int .u16 x.Profile)] := h6
  obtain ⟨v7, rfl, s7⟩ := h7
  obtain ⟨v8, rfl, s8⟩ := h8
  obtain rfl := (show _ = [] from hend)
  subst e8
  subst e7
  subst e6
  subst e5
  subst e4
  subst e3
  subst e2
  subst e1
  subst e0
  exact ⟨v5, v7, v8, rfl, s5, s7, s8⟩
theorem dT_api_Rtp.mk {y_Marker : Bool} {y_f_Type : Int} {y_Seq : Int} {y_Time : Int} {y_Ssrc : Int} {y_Csrc : (List Int)} {y_Profile : Int} {y_Ext : (List Int)} {y_Payload : (List Int)} {v5 : V} {v7 : V} {v8 : V} (s5 : SlF (dI .u32) y_Csrc v5) (s7 : SlF (dI .u8) y_Ext v7) (s8 : SlF (dI .u8) y_Payload v8) : dT_api_Rtp.R (⟨y_Marker, y_f_Type, y_Seq, y_Time, y_Ssrc, y_Csrc, y_Profile, y_Ext, y_Payload⟩ : T_api_Rtp) [.p (.bool y_Marker), .p (.int .i64 y_f_Type), .p (.int .u16 y_Seq), .p (.int .u32 y_Time), .p (.int .u32 y_Ssrc), v5, .p (.int .u16 y_Profile), v7, v8] := ⟨[.p (.bool y_Marker)], [.p (.int .i64 y_f_Type), .p (.int .u16 y_Seq), .p (.int .u32 y_Time), .p (.int .u32 y_Ssrc), v5, .p (.int .u16 y_Profile), v7, v8], rfl, rfl, ⟨[.p (.int .i64 y_f_Type)], [.p (.int .u16 y_Seq), .p (.int .u32 y_Time), .p (.int .u32 y_Ssrc), v5, .p (.int .u16 y_Profile), v7, v8], rfl, rfl, ⟨[.p (.int .u16 y_Seq)], [.p (.int .u32 y_Time), .p (.int .u32 y_Ssrc), v5, .p (.int .u16 y_Profile), v7, v8], rfl, rfl, ⟨[.p (.int .u32 y_Time)], [.p (.int .u32 y_Ssrc), v5, .p (.int .u16 y_Profile), v7, v8], rfl, rfl, ⟨[.p (.int .u32 y_Ssrc)], [v5, .p (.int .u16 y_Profile), v7, v8], rfl, rfl, ⟨[v5], [.p (.int .u16 y_Profile), v7, v8], rfl, ⟨v5, rfl, s5⟩, ⟨[.p (.int .u16 y_Profile)], [v7, v8], rfl, rfl, ⟨[v7], [v8], rfl, ⟨v7, rfl, s7⟩, ⟨[v8], [], rfl, ⟨v8, rfl, s8⟩, rfl⟩⟩⟩⟩⟩⟩⟩⟩⟩
structure T_api_Layer where
  Rid : ByteArray
  Ssrc : Int
  Height : Int
def T_api_Layer.tp (x : T_api_Layer) : (ByteArray × (Int × (Int × Unit))) := (x.Rid, (x.Ssrc, (x.Height, ())))
def dT_api_Layer : Dt T_api_Layer := (dP dS (dP (dI .u32) (dP (dI .i64) dU))).via T_api_Layer.tp
theorem dT_api_Layer.inv {x : T_api_Layer} {vs : List V} (h : dT_api_Layer.R x vs) : vs = [.p (.string x.Rid), .p (.int .u32 x.Ssrc), .p (.int .i64 x.Height)] := by
  obtain ⟨u0, w0, e0, h0, u1, w1, e1, h1, u2, w2, e2, h2, hend⟩ := h
  obtain rfl : u0 = [.p (.string x.Rid)] := h0
  obtain rfl : u1 = [.p (.int .u32 x.Ssrc)] := h1
  obtain rfl : u2 = [.p (.int .i64 x.Height)] := h2
  obtain rfl := (show _ = [] from hend)
  subst e2
  subst e1
  subst e0
  rfl
theorem dT_api_Layer.mk {y_Rid : ByteArray} {y_Ssrc : Int} {y_Height : Int}  : dT_api_Layer.R (⟨y_Rid, y_Ssrc, y_Height⟩ : T_api_Layer) [.p (.string y_Rid), .p (.int .u32 y_Ssrc), .p (.int .i64 y_Height)] := ⟨[.p (.string y_Rid)], [.p (.int .u32 y_Ssrc), .p (.int .i64 y_Height)], rfl, rfl, ⟨[.p (.int .u32 y_Ssrc)], [.p (.int .i64 y_Height)], rfl, rfl, ⟨[.p (.int .i64 y_Height)], [], rfl, rfl, rfl⟩⟩⟩
structure T_struct_Kind_int_Cap_int64_Layers_api_Layer_Peer_int_Height_int_Class_int_Layer_int_Code_int where
  Kind : Int
  Cap : Int
  Layers : (List T_api_Layer)
  Peer : Int
  Height : Int
  Class : Int
  Layer : Int
  Code : Int
def T_struct_Kind_int_Cap_int64_Layers_api_Layer_Peer_int_Height_int_Class_int_Layer_int_Code_int.tp (x : T_struct_Kind_int_Cap_int64_Layers_api_Layer_Peer_int_Height_int_Class_int_Layer_int_Code_int) : (Int × (Int × ((List T_api_Layer) × (Int × (Int × (Int × (Int × (Int × Unit)))))))) := (x.Kind, (x.Cap, (x.Layers, (x.Peer, (x.Height, (x.Class, (x.Layer, (x.Code, ()))))))))
def dT_struct_Kind_int_Cap_int64_Layers_api_Layer_Peer_int_Height_int_Class_int_Layer_int_Code_int : Dt T_struct_Kind_int_Cap_int64_Layers_api_Layer_Peer_int_Height_int_Class_int_Layer_int_Code_int := (dP (dI .i64) (dP (dI .i64) (dP (dSl dT_api_Layer) (dP (dI .i64) (dP (dI .i64) (dP (dI .i64) (dP (dI .i64) (dP (dI .i64) dU)))))))).via T_struct_Kind_int_Cap_int64_Layers_api_Layer_Peer_int_Height_int_Class_int_Layer_int_Code_int.tp
theorem dT_struct_Kind_int_Cap_int64_Layers_api_Layer_Peer_int_Height_int_Class_int_Layer_int_Code_int.inv {x : T_struct_Kind_int_Cap_int64_Layers_api_Layer_Peer_int_Height_int_Class_int_Layer_int_Code_int} {vs : List V} (h : dT_struct_Kind_int_Cap_int64_Layers_api_Layer_Peer_int_Height_int_Class_int_Layer_int_Code_int.R x vs) : ∃ v2, vs = [.p (.int .i64 x.Kind), .p (.int .i64 x.Cap), v2, .p (.int .i64 x.Peer), .p (.int .i64 x.Height), .p (.int .i64 x.Class), .p (.int .i64 x.Layer), .p (.int .i64 x.Code)] ∧ SlF dT_api_Layer x.Layers v2 := by
  obtain ⟨u0, w0, e0, h0, u1, w1, e1, h1, u2, w2, e2, h2, u3, w3, e3, h3, u4, w4, e4, h4, u5, w5, e5, h5, u6, w6, e6, h6, u7, w7, e7, h7, hend⟩ := h
  obtain rfl : u0 = [.p (.int .i64 x.Kind)] := h0
  obtain rfl : u1 = [.p (.int .i64 x.Cap)] := h1
  obtain ⟨v2, rfl, s2⟩ := h2
  obtain rfl : u3 = [.p (.int .i64 x.Peer)] := h3
  obtain rfl : u4 = [.p (.int .i64 x.Height)] := h4
  obtain rfl : u5 = [.p (.int .i64 x.Class)] := h5
  obtain rfl : u6 = [.p (.int .i64 x.Layer)] := h6
  obtain rfl : u7 = [.p (.int .i64 x.Code)] := h7
  obtain rfl := (show _ = [] from hend)
  subst e7
  subst e6
  subst e5
  subst e4
  subst e3
  subst e2
  subst e1
  subst e0
  exact ⟨v2, rfl, s2⟩
theorem dT_struct_Kind_int_Cap_int64_Layers_api_Layer_Peer_int_Height_int_Class_int_Layer_int_Code_int.mk {y_Kind : Int} {y_Cap : Int} {y_Layers : (List T_api_Layer)} {y_Peer : Int} {y_Height : Int} {y_Class : Int} {y_Layer : Int} {y_Code : Int} {v2 : V} (s2 : SlF dT_api_Layer y_Layers v2) : dT_struct_Kind_int_Cap_int64_Layers_api_Layer_Peer_int_Height_int_Class_int_Layer_int_Code_int.R (⟨y_Kind, y_Cap, y_Layers, y_Peer, y_Height, y_Class, y_Layer, y_Code⟩ : T_struct_Kind_int_Cap_int64_Layers_api_Layer_Peer_int_Height_int_Class_int_Layer_int_Code_int) [.p (.int .i64 y_Kind), .p (.int .i64 y_Cap), v2, .p (.int .i64 y_Peer), .p (.int .i64 y_Height), .p (.int .i64 y_Class), .p (.int .i64 y_Layer), .p (.int .i64 y_Code)] := ⟨[.p (.int .i64 y_Kind)], [.p (.int .i64 y_Cap), v2, .p (.int .i64 y_Peer), .p (.int .i64 y_Height), .p (.int .i64 y_Class), .p (.int .i64 y_Layer), .p (.int .i64 y_Code)], rfl, rfl, ⟨[.p (.int .i64 y_Cap)], [v2, .p (.int .i64 y_Peer), .p (.int .i64 y_Height), .p (.int .i64 y_Class), .p (.int .i64 y_Layer), .p (.int .i64 y_Code)], rfl, rfl, ⟨[v2], [.p (.int .i64 y_Peer), .p (.int .i64 y_Height), .p (.int .i64 y_Class), .p (.int .i64 y_Layer), .p (.int .i64 y_Code)], rfl, ⟨v2, rfl, s2⟩, ⟨[.p (.int .i64 y_Peer)], [.p (.int .i64 y_Height), .p (.int .i64 y_Class), .p (.int .i64 y_Layer), .p (.int .i64 y_Code)], rfl, rfl, ⟨[.p (.int .i64 y_Height)], [.p (.int .i64 y_Class), .p (.int .i64 y_Layer), .p (.int .i64 y_Code)], rfl, rfl, ⟨[.p (.int .i64 y_Class)], [.p (.int .i64 y_Layer), .p (.int .i64 y_Code)], rfl, rfl, ⟨[.p (.int .i64 y_Layer)], [.p (.int .i64 y_Code)], rfl, rfl, ⟨[.p (.int .i64 y_Code)], [], rfl, rfl, rfl⟩⟩⟩⟩⟩⟩⟩⟩
structure T_api_Ctl where
  Kind : Int
  Cap : Int
  Layers : (List T_api_Layer)
  Peer : Int
  Height : Int
  Class : Int
  Layer : Int
  Code : Int
def T_api_Ctl.tp (x : T_api_Ctl) : (Int × (Int × ((List T_api_Layer) × (Int × (Int × (Int × (Int × (Int × Unit)))))))) := (x.Kind, (x.Cap, (x.Layers, (x.Peer, (x.Height, (x.Class, (x.Layer, (x.Code, ()))))))))
def dT_api_Ctl : Dt T_api_Ctl := (dP (dI .i64) (dP (dI .i64) (dP (dSl dT_api_Layer) (dP (dI .i64) (dP (dI .i64) (dP (dI .i64) (dP (dI .i64) (dP (dI .i64) dU)))))))).via T_api_Ctl.tp
theorem dT_api_Ctl.inv {x : T_api_Ctl} {vs : List V} (h : dT_api_Ctl.R x vs) : ∃ v2, vs = [.p (.int .i64 x.Kind), .p (.int .i64 x.Cap), v2, .p (.int .i64 x.Peer), .p (.int .i64 x.Height), .p (.int .i64 x.Class), .p (.int .i64 x.Layer), .p (.int .i64 x.Code)] ∧ SlF dT_api_Layer x.Layers v2 := by
  obtain ⟨u0, w0, e0, h0, u1, w1, e1, h1, u2, w2, e2, h2, u3, w3, e3, h3, u4, w4, e4, h4, u5, w5, e5, h5, u6, w6, e6, h6, u7, w7, e7, h7, hend⟩ := h
  obtain rfl : u0 = [.p (.int .i64 x.Kind)] := h0
  obtain rfl : u1 = [.p (.int .i64 x.Cap)] := h1
  obtain ⟨v2, rfl, s2⟩ := h2
  obtain rfl : u3 = [.p (.int .i64 x.Peer)] := h3
  obtain rfl : u4 = [.p (.int .i64 x.Height)] := h4
  obtain rfl : u5 = [.p (.int .i64 x.Class)] := h5
  obtain rfl : u6 = [.p (.int .i64 x.Layer)] := h6
  obtain rfl : u7 = [.p (.int .i64 x.Code)] := h7
  obtain rfl := (show _ = [] from hend)
  subst e7
  subst e6
  subst e5
  subst e4
  subst e3
  subst e2
  subst e1
  subst e0
  exact ⟨v2, rfl, s2⟩
theorem dT_api_Ctl.mk {y_Kind : Int} {y_Cap : Int} {y_Layers : (List T_api_Layer)} {y_Peer : Int} {y_Height : Int} {y_Class : Int} {y_Layer : Int} {y_Code : Int} {v2 : V} (s2 : SlF dT_api_Layer y_Layers v2) : dT_api_Ctl.R (⟨y_Kind, y_Cap, y_Layers, y_Peer, y_Height, y_Class, y_Layer, y_Code⟩ : T_api_Ctl) [.p (.int .i64 y_Kind), .p (.int .i64 y_Cap), v2, .p (.int .i64 y_Peer), .p (.int .i64 y_Height), .p (.int .i64 y_Class), .p (.int .i64 y_Layer), .p (.int .i64 y_Code)] := ⟨[.p (.int .i64 y_Kind)], [.p (.int .i64 y_Cap), v2, .p (.int .i64 y_Peer), .p (.int .i64 y_Height), .p (.int .i64 y_Class), .p (.int .i64 y_Layer), .p (.int .i64 y_Code)], rfl, rfl, ⟨[.p (.int .i64 y_Cap)], [v2, .p (.int .i64 y_Peer), .p (.int .i64 y_Height), .p (.int .i64 y_Class), .p (.int .i64 y_Layer), .p (.int .i64 y_Code)], rfl, rfl, ⟨[v2], [.p (.int .i64 y_Peer), .p (.int .i64 y_Height), .p (.int .i64 y_Class), .p (.int .i64 y_Layer), .p (.int .i64 y_Code)], rfl, ⟨v2, rfl, s2⟩, ⟨[.p (.int .i64 y_Peer)], [.p (.int .i64 y_Height), .p (.int .i64 y_Class), .p (.int .i64 y_Layer), .p (.int .i64 y_Code)], rfl, rfl, ⟨[.p (.int .i64 y_Height)], [.p (.int .i64 y_Class), .p (.int .i64 y_Layer), .p (.int .i64 y_Code)], rfl, rfl, ⟨[.p (.int .i64 y_Class)], [.p (.int .i64 y_Layer), .p (.int .i64 y_Code)], rfl, rfl, ⟨[.p (.int .i64 y_Layer)], [.p (.int .i64 y_Code)], rfl, rfl, ⟨[.p (.int .i64 y_Code)], [], rfl, rfl, rfl⟩⟩⟩⟩⟩⟩⟩⟩
structure T_struct_Rid_string_Ssrc_uint32_Height_int where
  Rid : ByteArray
  Ssrc : Int
  Height : Int
def T_struct_Rid_string_Ssrc_uint32_Height_int.tp (x : T_struct_Rid_string_Ssrc_uint32_Height_int) : (ByteArray × (Int × (Int × Unit))) := (x.Rid, (x.Ssrc, (x.Height, ())))
def dT_struct_Rid_string_Ssrc_uint32_Height_int : Dt T_struct_Rid_string_Ssrc_uint32_Height_int := (dP dS (dP (dI .u32) (dP (dI .i64) dU))).via T_struct_Rid_string_Ssrc_uint32_Height_int.tp
theorem dT_struct_Rid_string_Ssrc_uint32_Height_int.inv {x : T_struct_Rid_string_Ssrc_uint32_Height_int} {vs : List V} (h : dT_struct_Rid_string_Ssrc_uint32_Height_int.R x vs) : vs = [.p (.string x.Rid), .p (.int .u32 x.Ssrc), .p (.int .i64 x.Height)] := by
  obtain ⟨u0, w0, e0, h0, u1, w1, e1, h1, u2, w2, e2, h2, hend⟩ := h
  obtain rfl : u0 = [.p (.string x.Rid)] := h0
  obtain rfl : u1 = [.p (.int .u32 x.Ssrc)] := h1
  obtain rfl : u2 = [.p (.int .i64 x.Height)] := h2
  obtain rfl := (show _ = [] from hend)
  subst e2
  subst e1
  subst e0
  rfl
theorem dT_struct_Rid_string_Ssrc_uint32_Height_int.mk {y_Rid : ByteArray} {y_Ssrc : Int} {y_Height : Int}  : dT_struct_Rid_string_Ssrc_uint32_Height_int.R (⟨y_Rid, y_Ssrc, y_Height⟩ : T_struct_Rid_string_Ssrc_uint32_Height_int) [.p (.string y_Rid), .p (.int .u32 y_Ssrc), .p (.int .i64 y_Height)] := ⟨[.p (.string y_Rid)], [.p (.int .u32 y_Ssrc), .p (.int .i64 y_Height)], rfl, rfl, ⟨[.p (.int .u32 y_Ssrc)], [.p (.int .i64 y_Height)], rfl, rfl, ⟨[.p (.int .i64 y_Height)], [], rfl, rfl, rfl⟩⟩⟩
structure T_struct_Kind_int_I_int_Size_int_Seq_uint16_Key_bool_Us_int64 where
  Kind : Int
  I : Int
  Size : Int
  Seq : Int
  Key : Bool
  Us : Int
def T_struct_Kind_int_I_int_Size_int_Seq_uint16_Key_bool_Us_int64.tp (x : T_struct_Kind_int_I_int_Size_int_Seq_uint16_Key_bool_Us_int64) : (Int × (Int × (Int × (Int × (Bool × (Int × Unit)))))) := (x.Kind, (x.I, (x.Size, (x.Seq, (x.Key, (x.Us, ()))))))
def dT_struct_Kind_int_I_int_Size_int_Seq_uint16_Key_bool_Us_int64 : Dt T_struct_Kind_int_I_int_Size_int_Seq_uint16_Key_bool_Us_int64 := (dP (dI .i64) (dP (dI .i64) (dP (dI .i64) (dP (dI .u16) (dP dB (dP (dI .i64) dU)))))).via T_struct_Kind_int_I_int_Size_int_Seq_uint16_Key_bool_Us_int64.tp
theorem dT_struct_Kind_int_I_int_Size_int_Seq_uint16_Key_bool_Us_int64.inv {x : T_struct_Kind_int_I_int_Size_int_Seq_uint16_Key_bool_Us_int64} {vs : List V} (h : dT_struct_Kind_int_I_int_Size_int_Seq_uint16_Key_bool_Us_int64.R x vs) : vs = [.p (.int .i64 x.Kind), .p (.int .i64 x.I), .p (.int .i64 x.Size), .p (.int .u16 x.Seq), .p (.bool x.Key), .p (.int .i64 x.Us)] := by
  obtain ⟨u0, w0, e0, h0, u1, w1, e1, h1, u2, w2, e2, h2, u3, w3, e3, h3, u4, w4, e4, h4, u5, w5, e5, h5, hend⟩ := h
  obtain rfl : u0 = [.p (.int .i64 x.Kind)] := h0
  obtain rfl : u1 = [.p (.int .i64 x.I)] := h1
  obtain rfl : u2 = [.p (.int .i64 x.Size)] := h2
  obtain rfl : u3 = [.p (.int .u16 x.Seq)] := h3
  obtain rfl : u4 = [.p (.bool x.Key)] := h4
  obtain rfl : u5 = [.p (.int .i64 x.Us)] := h5
  obtain rfl := (show _ = [] from hend)
  subst e5
  subst e4
  subst e3
  subst e2
  subst e1
  subst e0
  rfl
theorem dT_struct_Kind_int_I_int_Size_int_Seq_uint16_Key_bool_Us_int64.mk {y_Kind : Int} {y_I : Int} {y_Size : Int} {y_Seq : Int} {y_Key : Bool} {y_Us : Int}  : dT_struct_Kind_int_I_int_Size_int_Seq_uint16_Key_bool_Us_int64.R (⟨y_Kind, y_I, y_Size, y_Seq, y_Key, y_Us⟩ : T_struct_Kind_int_I_int_Size_int_Seq_uint16_Key_bool_Us_int64) [.p (.int .i64 y_Kind), .p (.int .i64 y_I), .p (.int .i64 y_Size), .p (.int .u16 y_Seq), .p (.bool y_Key), .p (.int .i64 y_Us)] := ⟨[.p (.int .i64 y_Kind)], [.p (.int .i64 y_I), .p (.int .i64 y_Size), .p (.int .u16 y_Seq), .p (.bool y_Key), .p (.int .i64 y_Us)], rfl, rfl, ⟨[.p (.int .i64 y_I)], [.p (.int .i64 y_Size), .p (.int .u16 y_Seq), .p (.bool y_Key), .p (.int .i64 y_Us)], rfl, rfl, ⟨[.p (.int .i64 y_Size)], [.p (.int .u16 y_Seq), .p (.bool y_Key), .p (.int .i64 y_Us)], rfl, rfl, ⟨[.p (.int .u16 y_Seq)], [.p (.bool y_Key), .p (.int .i64 y_Us)], rfl, rfl, ⟨[.p (.bool y_Key)], [.p (.int .i64 y_Us)], rfl, rfl, ⟨[.p (.int .i64 y_Us)], [], rfl, rfl, rfl⟩⟩⟩⟩⟩⟩
structure T_limelightlaw17_Ask where
  Kind : Int
  I : Int
  Size : Int
  Seq : Int
  Key : Bool
  Us : Int
def T_limelightlaw17_Ask.tp (x : T_limelightlaw17_Ask) : (Int × (Int × (Int × (Int × (Bool × (Int × Unit)))))) := (x.Kind, (x.I, (x.Size, (x.Seq, (x.Key, (x.Us, ()))))))
def dT_limelightlaw17_Ask : Dt T_limelightlaw17_Ask := (dP (dI .i64) (dP (dI .i64) (dP (dI .i64) (dP (dI .u16) (dP dB (dP (dI .i64) dU)))))).via T_limelightlaw17_Ask.tp
theorem dT_limelightlaw17_Ask.inv {x : T_limelightlaw17_Ask} {vs : List V} (h : dT_limelightlaw17_Ask.R x vs) : vs = [.p (.int .i64 x.Kind), .p (.int .i64 x.I), .p (.int .i64 x.Size), .p (.int .u16 x.Seq), .p (.bool x.Key), .p (.int .i64 x.Us)] := by
  obtain ⟨u0, w0, e0, h0, u1, w1, e1, h1, u2, w2, e2, h2, u3, w3, e3, h3, u4, w4, e4, h4, u5, w5, e5, h5, hend⟩ := h
  obtain rfl : u0 = [.p (.int .i64 x.Kind)] := h0
  obtain rfl : u1 = [.p (.int .i64 x.I)] := h1
  obtain rfl : u2 = [.p (.int .i64 x.Size)] := h2
  obtain rfl : u3 = [.p (.int .u16 x.Seq)] := h3
  obtain rfl : u4 = [.p (.bool x.Key)] := h4
  obtain rfl : u5 = [.p (.int .i64 x.Us)] := h5
  obtain rfl := (show _ = [] from hend)
  subst e5
  subst e4
  subst e3
  subst e2
  subst e1
  subst e0
  rfl
theorem dT_limelightlaw17_Ask.mk {y_Kind : Int} {y_I : Int} {y_Size : Int} {y_Seq : Int} {y_Key : Bool} {y_Us : Int}  : dT_limelightlaw17_Ask.R (⟨y_Kind, y_I, y_Size, y_Seq, y_Key, y_Us⟩ : T_limelightlaw17_Ask) [.p (.int .i64 y_Kind), .p (.int .i64 y_I), .p (.int .i64 y_Size), .p (.int .u16 y_Seq), .p (.bool y_Key), .p (.int .i64 y_Us)] := ⟨[.p (.int .i64 y_Kind)], [.p (.int .i64 y_I), .p (.int .i64 y_Size), .p (.int .u16 y_Seq), .p (.bool y_Key), .p (.int .i64 y_Us)], rfl, rfl, ⟨[.p (.int .i64 y_I)], [.p (.int .i64 y_Size), .p (.int .u16 y_Seq), .p (.bool y_Key), .p (.int .i64 y_Us)], rfl, rfl, ⟨[.p (.int .i64 y_Size)], [.p (.int .u16 y_Seq), .p (.bool y_Key), .p (.int .i64 y_Us)], rfl, rfl, ⟨[.p (.int .u16 y_Seq)], [.p (.bool y_Key), .p (.int .i64 y_Us)], rfl, rfl, ⟨[.p (.bool y_Key)], [.p (.int .i64 y_Us)], rfl, rfl, ⟨[.p (.int .i64 y_Us)], [], rfl, rfl, rfl⟩⟩⟩⟩⟩⟩
structure T_struct_name_int_size_int_n_int64 where
  name : Int
  size : Int
  n : Int
def T_struct_name_int_size_int_n_int64.tp (x : T_struct_name_int_size_int_n_int64) : (Int × (Int × (Int × Unit))) := (x.name, (x.size, (x.n, ())))
def dT_struct_name_int_size_int_n_int64 : Dt T_struct_name_int_size_int_n_int64 := (dP (dI .i64) (dP (dI .i64) (dP (dI .i64) dU))).via T_struct_name_int_size_int_n_int64.tp
theorem dT_struct_name_int_size_int_n_int64.inv {x : T_struct_name_int_size_int_n_int64} {vs : List V} (h : dT_struct_name_int_size_int_n_int64.R x vs) : vs = [.p (.int .i64 x.name), .p (.int .i64 x.size), .p (.int .i64 x.n)] := by
  obtain ⟨u0, w0, e0, h0, u1, w1, e1, h1, u2, w2, e2, h2, hend⟩ := h
  obtain rfl : u0 = [.p (.int .i64 x.name)] := h0
  obtain rfl : u1 = [.p (.int .i64 x.size)] := h1
  obtain rfl : u2 = [.p (.int .i64 x.n)] := h2
  obtain rfl := (show _ = [] from hend)
  subst e2
  subst e1
  subst e0
  rfl
theorem dT_struct_name_int_size_int_n_int64.mk {y_name : Int} {y_size : Int} {y_n : Int}  : dT_struct_name_int_size_int_n_int64.R (⟨y_name, y_size, y_n⟩ : T_struct_name_int_size_int_n_int64) [.p (.int .i64 y_name), .p (.int .i64 y_size), .p (.int .i64 y_n)] := ⟨[.p (.int .i64 y_name)], [.p (.int .i64 y_size), .p (.int .i64 y_n)], rfl, rfl, ⟨[.p (.int .i64 y_size)], [.p (.int .i64 y_n)], rfl, rfl, ⟨[.p (.int .i64 y_n)], [], rfl, rfl, rfl⟩⟩⟩
structure T_struct_first_int64_last_int64_count_int64_mask_uint64 where
  first : Int
  last : Int
  count : Int
  mask : Int
def T_struct_first_int64_last_int64_count_int64_mask_uint64.tp (x : T_struct_first_int64_last_int64_count_int64_mask_uint64) : (Int × (Int × (Int × (Int × Unit)))) := (x.first, (x.last, (x.count, (x.mask, ()))))
def dT_struct_first_int64_last_int64_count_int64_mask_uint64 : Dt T_struct_first_int64_last_int64_count_int64_mask_uint64 := (dP (dI .i64) (dP (dI .i64) (dP (dI .i64) (dP (dI .u64) dU)))).via T_struct_first_int64_last_int64_count_int64_mask_uint64.tp
theorem dT_struct_first_int64_last_int64_count_int64_mask_uint64.inv {x : T_struct_first_int64_last_int64_count_int64_mask_uint64} {vs : List V} (h : dT_struct_first_int64_last_int64_count_int64_mask_uint64.R x vs) : vs = [.p (.int .i64 x.first), .p (.int .i64 x.last), .p (.int .i64 x.count), .p (.int .u64 x.mask)] := by
  obtain ⟨u0, w0, e0, h0, u1, w1, e1, h1, u2, w2, e2, h2, u3, w3, e3, h3, hend⟩ := h
  obtain rfl : u0 = [.p (.int .i64 x.first)] := h0
  obtain rfl : u1 = [.p (.int .i64 x.last)] := h1
  obtain rfl : u2 = [.p (.int .i64 x.count)] := h2
  obtain rfl : u3 = [.p (.int .u64 x.mask)] := h3
  obtain rfl := (show _ = [] from hend)
  subst e3
  subst e2
  subst e1
  subst e0
  rfl
theorem dT_struct_first_int64_last_int64_count_int64_mask_uint64.mk {y_first : Int} {y_last : Int} {y_count : Int} {y_mask : Int}  : dT_struct_first_int64_last_int64_count_int64_mask_uint64.R (⟨y_first, y_last, y_count, y_mask⟩ : T_struct_first_int64_last_int64_count_int64_mask_uint64) [.p (.int .i64 y_first), .p (.int .i64 y_last), .p (.int .i64 y_count), .p (.int .u64 y_mask)] := ⟨[.p (.int .i64 y_first)], [.p (.int .i64 y_last), .p (.int .i64 y_count), .p (.int .u64 y_mask)], rfl, rfl, ⟨[.p (.int .i64 y_last)], [.p (.int .i64 y_count), .p (.int .u64 y_mask)], rfl, rfl, ⟨[.p (.int .i64 y_count)], [.p (.int .u64 y_mask)], rfl, rfl, ⟨[.p (.int .u64 y_mask)], [], rfl, rfl, rfl⟩⟩⟩⟩
structure T_seq_Seen where
  first : Int
  last : Int
  count : Int
  mask : Int
def T_seq_Seen.tp (x : T_seq_Seen) : (Int × (Int × (Int × (Int × Unit)))) := (x.first, (x.last, (x.count, (x.mask, ()))))
def dT_seq_Seen : Dt T_seq_Seen := (dP (dI .i64) (dP (dI .i64) (dP (dI .i64) (dP (dI .u64) dU)))).via T_seq_Seen.tp
theorem dT_seq_Seen.inv {x : T_seq_Seen} {vs : List V} (h : dT_seq_Seen.R x vs) : vs = [.p (.int .i64 x.first), .p (.int .i64 x.last), .p (.int .i64 x.count), .p (.int .u64 x.mask)] := by
  obtain ⟨u0, w0, e0, h0, u1, w1, e1, h1, u2, w2, e2, h2, u3, w3, e3, h3, hend⟩ := h
  obtain rfl : u0 = [.p (.int .i64 x.first)] := h0
  obtain rfl : u1 = [.p (.int .i64 x.last)] := h1
  obtain rfl : u2 = [.p (.int .i64 x.count)] := h2
  obtain rfl : u3 = [.p (.int .u64 x.mask)] := h3
  obtain rfl := (show _ = [] from hend)
  subst e3
  subst e2
  subst e1
  subst e0
  rfl
theorem dT_seq_Seen.mk {y_first : Int} {y_last : Int} {y_count : Int} {y_mask : Int}  : dT_seq_Seen.R (⟨y_first, y_last, y_count, y_mask⟩ : T_seq_Seen) [.p (.int .i64 y_first), .p (.int .i64 y_last), .p (.int .i64 y_count), .p (.int .u64 y_mask)] := ⟨[.p (.int .i64 y_first)], [.p (.int .i64 y_last), .p (.int .i64 y_count), .p (.int .u64 y_mask)], rfl, rfl, ⟨[.p (.int .i64 y_last)], [.p (.int .i64 y_count), .p (.int .u64 y_mask)], rfl, rfl, ⟨[.p (.int .i64 y_count)], [.p (.int .u64 y_mask)], rfl, rfl, ⟨[.p (.int .u64 y_mask)], [], rfl, rfl, rfl⟩⟩⟩⟩
structure T_struct_First_int64_Last_int64_Mask_uint64_Had_int64 where
  First : Int
  Last : Int
  Mask : Int
  Had : Int
def T_struct_First_int64_Last_int64_Mask_uint64_Had_int64.tp (x : T_struct_First_int64_Last_int64_Mask_uint64_Had_int64) : (Int × (Int × (Int × (Int × Unit)))) := (x.First, (x.Last, (x.Mask, (x.Had, ()))))
def dT_struct_First_int64_Last_int64_Mask_uint64_Had_int64 : Dt T_struct_First_int64_Last_int64_Mask_uint64_Had_int64 := (dP (dI .i64) (dP (dI .i64) (dP (dI .u64) (dP (dI .i64) dU)))).via T_struct_First_int64_Last_int64_Mask_uint64_Had_int64.tp
theorem dT_struct_First_int64_Last_int64_Mask_uint64_Had_int64.inv {x : T_struct_First_int64_Last_int64_Mask_uint64_Had_int64} {vs : List V} (h : dT_struct_First_int64_Last_int64_Mask_uint64_Had_int64.R x vs) : vs = [.p (.int .i64 x.First), .p (.int .i64 x.Last), .p (.int .u64 x.Mask), .p (.int .i64 x.Had)] := by
  obtain ⟨u0, w0, e0, h0, u1, w1, e1, h1, u2, w2, e2, h2, u3, w3, e3, h3, hend⟩ := h
  obtain rfl : u0 = [.p (.int .i64 x.First)] := h0
  obtain rfl : u1 = [.p (.int .i64 x.Last)] := h1
  obtain rfl : u2 = [.p (.int .u64 x.Mask)] := h2
  obtain rfl : u3 = [.p (.int .i64 x.Had)] := h3
  obtain rfl := (show _ = [] from hend)
  subst e3
  subst e2
  subst e1
  subst e0
  rfl
theorem dT_struct_First_int64_Last_int64_Mask_uint64_Had_int64.mk {y_First : Int} {y_Last : Int} {y_Mask : Int} {y_Had : Int}  : dT_struct_First_int64_Last_int64_Mask_uint64_Had_int64.R (⟨y_First, y_Last, y_Mask, y_Had⟩ : T_struct_First_int64_Last_int64_Mask_uint64_Had_int64) [.p (.int .i64 y_First), .p (.int .i64 y_Last), .p (.int .u64 y_Mask), .p (.int .i64 y_Had)] := ⟨[.p (.int .i64 y_First)], [.p (.int .i64 y_Last), .p (.int .u64 y_Mask), .p (.int .i64 y_Had)], rfl, rfl, ⟨[.p (.int .i64 y_Last)], [.p (.int .u64 y_Mask), .p (.int .i64 y_Had)], rfl, rfl, ⟨[.p (.int .u64 y_Mask)], [.p (.int .i64 y_Had)], rfl, rfl, ⟨[.p (.int .i64 y_Had)], [], rfl, rfl, rfl⟩⟩⟩⟩
structure T_limelightref15_Seen where
  First : Int
  Last : Int
  Mask : Int
  Had : Int
def T_limelightref15_Seen.tp (x : T_limelightref15_Seen) : (Int × (Int × (Int × (Int × Unit)))) := (x.First, (x.Last, (x.Mask, (x.Had, ()))))
def dT_limelightref15_Seen : Dt T_limelightref15_Seen := (dP (dI .i64) (dP (dI .i64) (dP (dI .u64) (dP (dI .i64) dU)))).via T_limelightref15_Seen.tp
theorem dT_limelightref15_Seen.inv {x : T_limelightref15_Seen} {vs : List V} (h : dT_limelightref15_Seen.R x vs) : vs = [.p (.int .i64 x.First), .p (.int .i64 x.Last), .p (.int .u64 x.Mask), .p (.int .i64 x.Had)] := by
  obtain ⟨u0, w0, e0, h0, u1, w1, e1, h1, u2, w2, e2, h2, u3, w3, e3, h3, hend⟩ := h
  obtain rfl : u0 = [.p (.int .i64 x.First)] := h0
  obtain rfl : u1 = [.p (.int .i64 x.Last)] := h1
  obtain rfl : u2 = [.p (.int .u64 x.Mask)] := h2
  obtain rfl : u3 = [.p (.int .i64 x.Had)] := h3
  obtain rfl := (show _ = [] from hend)
  subst e3
  subst e2
  subst e1
  subst e0
  rfl
theorem dT_limelightref15_Seen.mk {y_First : Int} {y_Last : Int} {y_Mask : Int} {y_Had : Int}  : dT_limelightref15_Seen.R (⟨y_First, y_Last, y_Mask, y_Had⟩ : T_limelightref15_Seen) [.p (.int .i64 y_First), .p (.int .i64 y_Last), .p (.int .u64 y_Mask), .p (.int .i64 y_Had)] := ⟨[.p (.int .i64 y_First)], [.p (.int .i64 y_Last), .p (.int .u64 y_Mask), .p (.int .i64 y_Had)], rfl, rfl, ⟨[.p (.int .i64 y_Last)], [.p (.int .u64 y_Mask), .p (.int .i64 y_Had)], rfl, rfl, ⟨[.p (.int .u64 y_Mask)], [.p (.int .i64 y_Had)], rfl, rfl, ⟨[.p (.int .i64 y_Had)], [], rfl, rfl, rfl⟩⟩⟩⟩
end Go.Ev
/- Functions that are told from outside: of plain values a plain value. And strings that are gone through rune by rune. -/
namespace Go.Ev
open Go.RowKit (Below)
set_option linter.unusedVariables false

theorem SimN.below {ι : Inj} {B : Nat} {w w' : World} {ns : Nodes} (h : SimN ι B w.heap ns) (hb : Below w.heap.size w w') : SimN ι B w'.heap ns := by
  refine ⟨h.nodup, fun s cs hm p hp => ?_, h.inj, fun b f hf => ?_, h.apart, h.nwb⟩
  · obtain ⟨a1, c1, e1, a2, a3⟩ := h.lie s cs hm p hp
    exact ⟨a1, c1, e1, by rw [hb.block _ (Array.getElem?_eq_some_iff.1 a2).1]; exact a2, a3⟩
  · obtain ⟨c, e, fr, k1, k2⟩ := h.frz b f hf
    exact ⟨c, e, fr, by rw [hb.block _ (Array.getElem?_eq_some_iff.1 k1).1]; exact k1, k2⟩
def plainX (t : FuncId → List V → Option Value) : CallF := fun f _ args h => (t f args).map fun v => ([.v (.p v)], h)
theorem plainX_ok {G : Cfg} {t : FuncId → List V → Option Value}
    (ht : ∀ f args v, t f args = some v → ∃ us : List Value, args = us.map .p ∧ (∃ fn, G.P.funcs[f]? = some fn ∧ (fn.name == "runtime.NumGoroutine") = false ∧ fn.body.isNone = false) ∧
      ∀ w, Calls G.P f us.toArray w fun e w' => e = .returned v ∧ Below w.heap.size w w') (B : Nat) : CallOk G B (plainX t) := by
  intro f σ args h cs h' hev ι w us hS hargs hf hB
  simp only [plainX, Option.map_eq_some_iff, Prod.mk.injEq] at hev
  obtain ⟨v, hv, rfl, rfl⟩ := hev
  obtain ⟨us0, rfl, hfn, hc⟩ := ht f args v hv
  have e : us = us0.toArray := by
    apply Array.ext'
    refine List.ext_getElem? fun i => ?_
    simp only
    by_cases hi : i < us0.length
    · have h1 : (us0.map V.p)[i]? = some (.p us0[i]) := by simp [hi]
      obtain ⟨u, hu, r⟩ := hargs.get h1
      cases r
      rw [hu]; simp [hi]
    · have := hargs.length
      simp only [List.length_map] at this
      rw [List.getElem?_eq_none (by omega), List.getElem?_eq_none (by omega)]
  subst e
  refine ⟨hfn, (hc w).mono fun e w' he => ?_⟩
  obtain ⟨rfl, hb⟩ := he
  exact ⟨v, ι, rfl, hS.below hb, ⟨fun h d => .p v⟩, .refl _, .refl _ _ _, hb.mono hB⟩

/-! ### Runes -/
theorem Below.setIter {w : World} {k : Nat} {o : Obj} {B : Nat} (hk : B ≤ k) : Below B w { w with heap := w.heap.setIfInBounds k o } := by
  refine ⟨rfl, rfl, rfl, by simp, fun i hi => ?_⟩
  simp only
  rw [Array.getElem?_setIfInBounds_ne (by omega)]
def itAt (w : World) (k : Nat) (s : ByteArray) (pos : Nat) : World := { w with heap := w.heap.setIfInBounds k (.stringIter s pos) }
theorem itAt_heap {w : World} {k : Nat} {s : ByteArray} {pos p : Nat} (h : w.heap[k]? = some (.stringIter s p)) : (itAt w k s pos).heap[k]? = some (.stringIter s pos) := by
  have := (Array.getElem?_eq_some_iff.1 h).1
  simp [itAt, this]
theorem run_next_at {P : Program} {w : World} {k : Nat} {s : ByteArray} {pos : Nat} (hk : w.heap[k]? = some (.stringIter s pos)) (ty : TypeId) (h : pos < s.size) :
    (Instr.next (.pointer (some ⟨k, 0, none⟩)) true ty).run P w = .ok (.tuple #[.bool true, .int .i64 pos, .int .i32 (Utf8.decode s pos).1]) (itAt w k s (pos + (Utf8.decode s pos).2)) := by
  simp only [Instr.next, getObj, setObj, Sem.run_bind, Sem.run, hk, Result.andThen, h, if_true]
  simp [goInt, itAt]
theorem run_next_over {P : Program} {w : World} {k : Nat} {s : ByteArray} {pos : Nat} (hk : w.heap[k]? = some (.stringIter s pos)) (ty : TypeId) (h : ¬ pos < s.size) :
    (Instr.next (.pointer (some ⟨k, 0, none⟩)) true ty).run P w = .ok (.tuple #[.bool false]) w := by
  simp [Instr.next, getObj, Sem.run, hk, h]
theorem dec_pos (s : ByteArray) (pos : Nat) (h : pos < s.size) : 1 ≤ (Utf8.decode s pos).2 := by
  by_cases ha : (s[pos]'h).toNat < 128
  · rw [decode_ascii s pos h ha]
    exact Nat.le_refl _
  · exact (decode_high s pos h (by omega)).2
/-- The runes of a text from a byte on. -/
def runesF (s : ByteArray) : Nat → Nat → List Int
  | 0, _ => []
  | n + 1, pos => if pos < s.size then ((Utf8.decode s pos).1 : Int) :: runesF s n (pos + (Utf8.decode s pos).2) else []
theorem runesF_stable (s : ByteArray) : ∀ (n m pos : Nat), s.size - pos ≤ n → s.size - pos ≤ m → runesF s n pos = runesF s m pos
  | 0, 0, _, _, _ => rfl
  | 0, m + 1, pos, h, _ => by
    have : ¬ pos < s.size := by omega
    simp [runesF, this]
  | n + 1, 0, pos, _, h => by
    have : ¬ pos < s.size := by omega
    simp [runesF, this]
  | n + 1, m + 1, pos, h1, h2 => by
    simp only [runesF]
    split
    · rename_i hp
      have := dec_pos s pos hp
      rw [runesF_stable s n m _ (by omega) (by omega)]
    · rfl
def runes (s : ByteArray) (pos : Nat) : List Int := runesF s s.size pos
theorem runes_cons {s : ByteArray} {pos : Nat} (h : pos < s.size) : runes s pos = ((Utf8.decode s pos).1 : Int) :: runes s (pos + (Utf8.decode s pos).2) := by
  have hw := dec_pos s pos h
  unfold runes
  rw [runesF_stable s s.size (s.size + 1) pos (by omega) (by omega)]
  simp [runesF, h]
theorem runes_end {s : ByteArray} {pos : Nat} (h : ¬ pos < s.size) : runes s pos = [] := by
  unfold runes
  cases hs : s.size with
  | zero => rfl
  | succ n => simp only [runesF]; rw [if_neg h]
end Go.Ev
/- Functions that go through a text rune by rune; printed by ridx.py. -/
namespace Go.RidX
open Go.Ev (runes runes_cons runes_end run_next_at run_next_over itAt itAt_heap dec_pos V)
open Go.Proofs Go.Proofs.Ytigkdihkmihmmaa
open Go.RowKit (Below wrap64 Hid)
set_option maxRecDepth 1000000
set_option maxHeartbeats 2000000
set_option linter.unusedSimpArgs false
set_option linter.unusedVariables false
def isRid (r : Int) : Bool := (decide (r ≥ 97) && decide (r ≤ 122)) || (decide (r ≥ 65) && decide (r ≤ 90)) || (decide (r ≥ 48) && decide (r ≤ 57)) || (r == 45) || (r == 95)
theorem wrap_succ (n : Int) : wrap64 (wrap64 n + 1) = wrap64 (n + 1) := by
  simp only [wrap64]
  omega
def rightB (s : ByteArray) : Bool := (runes s 0).all isRid && (decide (1 ≤ wrap64 (runes s 0).length) && decide (wrap64 (runes s 0).length ≤ 8))
def countN (s : ByteArray) : Int := wrap64 (runes s 0).length
theorem rid_one (c : Int) (w : World) : Calls Try.prog 103 #[.int .i32 c] w fun e w' => e = .returned (.bool (isRid c)) ∧ w' = w := by
  go_enter Try.func103, Try.ntmps103
  go_wp2
  all_goals
    go_ret
    refine ⟨?_, rfl⟩
    simp only [Ending.returned.injEq, Value.bool.injEq, isRid]
    simp [*]
    try grind
theorem rid_Right (s : ByteArray) (w : World) : Calls Try.prog 64 #[.string s] w fun e w' => e = .returned (.bool (rightB s)) ∧ Below w.heap.size w w' := by
  go_enter Try.func64, Try.ntmps64
  go_wp2
  go_loopw [3] (fun n wr => ∃ (pos : Nat) (pre : List Int) (c : Int), wr.heap[w.heap.size]? = some (.stringIter s pos) ∧ Below w.heap.size w wr ∧ n = .int .i64 c ∧ c = wrap64 (pre.length : Int) ∧ pre.all isRid = true ∧ runes s 0 = pre ++ runes s pos) (fun _ wr => s.size - wr.iterPos w.heap.size)
  case atStart => exact ⟨0, [], 0, by simp [World.iter_heap], (Below.refl _ w).alloc (Nat.le_refl _) _, rfl, by simp [wrap64], rfl, rfl⟩
  case round =>
    obtain ⟨pos, pre, c, hk, hb, rfl, hc, hall, hrs⟩ := hrel
    by_cases hp : pos < s.size
    · have hnx : ∀ ty, (Instr.next (.pointer (some ⟨w.heap.size, 0, none⟩)) true ty).run Try.prog wr = _ := fun ty => run_next_at hk ty hp
      have hk1 := itAt_heap (pos := pos + (Utf8.decode s pos).2) hk
      have hb1 : Below w.heap.size w (itAt wr w.heap.size s (pos + (Utf8.decode s pos).2)) := hb.trans (Go.Ev.Below.setIter (Nat.le_refl _))
      have hwd := dec_pos s pos hp
      have hmu : wr.iterPos w.heap.size = pos := by simp [World.iterPos, hk]
      have hmu2 : (itAt wr w.heap.size s (pos + (Utf8.decode s pos).2)).iterPos w.heap.size = pos + (Utf8.decode s pos).2 := by simp [World.iterPos, hk1]
      rw [runes_cons hp] at hrs
      have k1 : ∀ {b : Bool}, isRid ↑(Utf8.decode s pos).fst = b → b = false → (runes s 0).all isRid = false := fun e1 e2 => by
        rw [hrs, List.all_append, List.all_cons, e1, e2]
        simp
      have k2 : ∀ {b : Bool}, isRid ↑(Utf8.decode s pos).fst = b → b = true → (pre ++ [((Utf8.decode s pos).1 : Int)]).all isRid = true := fun e1 e2 => by
        rw [List.all_append, List.all_cons, e1, e2, hall]
        rfl
      have k3 : Hid (wrap64 (c + 1) = wrap64 ((pre ++ [((Utf8.decode s pos).1 : Int)]).length : Int)) := by
        unfold Hid
        rw [hc, wrap_succ, List.length_append]; rfl
      have k4 : Hid (runes s 0 = (pre ++ [((Utf8.decode s pos).1 : Int)]) ++ runes s (pos + (Utf8.decode s pos).2)) := by unfold Hid; rw [hrs]; simp
      clear hrs hall hc
      go_wp2_with (go_at_call 103; refine (rid_one _ _).mono ?_; rintro e W2 ⟨rfl, rfl⟩)
      · rename_i hone
        have k5 : rightB s = false := by unfold rightB; rw [k1 rfl (by simpa using hone)]; rfl
        clear hone k1 k2 k3 k4
        go_ret
        rw [k5]
        exact ⟨rfl, hb1⟩
      · rename_i hone
        have k5 := k2 rfl (by simpa using hone)
        clear hone k1 k2
        go_roundw
        case rel => exact ⟨_, pre ++ [((Utf8.decode s pos).1 : Int)], _, hk1, hb1, rfl, k3.out, k5, k4.out⟩
        case measure =>
          rw [hmu, hmu2]
          omega
    · have hnx : ∀ ty, (Instr.next (.pointer (some ⟨w.heap.size, 0, none⟩)) true ty).run Try.prog wr = _ := fun ty => run_next_over hk ty hp
      rw [runes_end hp, List.append_nil] at hrs
      have k1 : ∀ {b : Bool}, decide (c ≤ 8) = b → 1 ≤ c → rightB s = b := fun e1 e2 => by
        unfold rightB
        rw [hrs, hall, ← hc, e1]; simp [e2]
      have k2 : c < 1 → rightB s = false := fun e2 => by
        unfold rightB
        rw [hrs, hall, ← hc]; simp; omega
      clear hrs hall hc
      go_wp2
      · rename_i h1
        have k5 := k1 rfl h1
        go_ret
        rw [k5]
        exact ⟨rfl, hb⟩
      · rename_i h1
        have k5 := k2 (by omega)
        go_ret
        exact ⟨rfl, hb⟩
theorem ref_Count (s : ByteArray) (w : World) : Calls Try.prog 105 #[.string s] w fun e w' => e = .returned (.int .i64 (countN s)) ∧ Below w.heap.size w w' := by
  go_enter Try.func105, Try.ntmps105
  go_wp2
  go_loopw [3] (fun n wr => ∃ (pos : Nat) (pre : List Int) (c : Int), wr.heap[w.heap.size]? = some (.stringIter s pos) ∧ Below w.heap.size w wr ∧ n = .int .i64 c ∧ c = wrap64 (pre.length : Int) ∧ runes s 0 = pre ++ runes s pos) (fun _ wr => s.size - wr.iterPos w.heap.size)
  case atStart => exact ⟨0, [], 0, by simp [World.iter_heap], (Below.refl _ w).alloc (Nat.le_refl _) _, rfl, by simp [wrap64], rfl⟩
  case round =>
    obtain ⟨pos, pre, c, hk, hb, rfl, hc, hrs⟩ := hrel
    by_cases hp : pos < s.size
    · have hnx : ∀ ty, (Instr.next (.pointer (some ⟨w.heap.size, 0, none⟩)) true ty).run Try.prog wr = _ := fun ty => run_next_at hk ty hp
      have hk1 := itAt_heap (pos := pos + (Utf8.decode s pos).2) hk
      have hb1 : Below w.heap.size w (itAt wr w.heap.size s (pos + (Utf8.decode s pos).2)) := hb.trans (Go.Ev.Below.setIter (Nat.le_refl _))
      have hwd := dec_pos s pos hp
      have hmu : wr.iterPos w.heap.size = pos := by simp [World.iterPos, hk]
      have hmu2 : (itAt wr w.heap.size s (pos + (Utf8.decode s pos).2)).iterPos w.heap.size = pos + (Utf8.decode s pos).2 := by simp [World.iterPos, hk1]
      rw [runes_cons hp] at hrs
      have k3 : Hid (wrap64 (c + 1) = wrap64 ((pre ++ [((Utf8.decode s pos).1 : Int)]).length : Int)) := by
        unfold Hid
        rw [hc, wrap_succ, List.length_append]; rfl
      have k4 : Hid (runes s 0 = (pre ++ [((Utf8.decode s pos).1 : Int)]) ++ runes s (pos + (Utf8.decode s pos).2)) := by unfold Hid; rw [hrs]; simp
      clear hrs hc
      go_wp2
      go_roundw
      case rel => exact ⟨_, pre ++ [((Utf8.decode s pos).1 : Int)], _, hk1, hb1, rfl, k3.out, k4.out⟩
      case measure =>
        rw [hmu, hmu2]
        omega
    · have hnx : ∀ ty, (Instr.next (.pointer (some ⟨w.heap.size, 0, none⟩)) true ty).run Try.prog wr = _ := fun ty => run_next_over hk ty hp
      rw [runes_end hp, List.append_nil] at hrs
      have k1 : Hid (countN s = c) := by unfold Hid countN; rw [hrs, hc]
      clear hrs hc
      go_wp2
      go_ret
      rw [k1.out]
      exact ⟨rfl, hb⟩
theorem ref_Count' (s : ByteArray) (w : World) {n : Int} (hn : countN s = n) : Calls Try.prog 105 #[.string s] w fun e w' => e = .returned (.int .i64 n) ∧ Below w.heap.size w w' := by
  subst hn; exact ref_Count s w
theorem ref_letter (c : Int) (w : World) : Calls Try.prog 104 #[.int .i32 c] w fun e w' => e = .returned (.bool (isRid c)) ∧ w' = w := by
  go_enter Try.func104, Try.ntmps104
  go_wp2
  all_goals
    go_ret
    refine ⟨?_, rfl⟩
    simp only [Ending.returned.injEq, Value.bool.injEq, isRid]
    simp [*]
    try grind
theorem ref_Rid (s : ByteArray) (w : World) : Calls Try.prog 65 #[.string s] w fun e w' => e = .returned (.bool (rightB s)) ∧ Below w.heap.size w w' := by
  go_enter Try.func65, Try.ntmps65
  go_wp2
  go_loopw [] (fun  wr => ∃ (pos : Nat) (pre : List Int), wr.heap[w.heap.size]? = some (.stringIter s pos) ∧ Below w.heap.size w wr ∧ pre.all isRid = true ∧ runes s 0 = pre ++ runes s pos) (fun  wr => s.size - wr.iterPos w.heap.size)
  case atStart => exact ⟨0, [], by simp [World.iter_heap], (Below.refl _ w).alloc (Nat.le_refl _) _, rfl, rfl⟩
  case round =>
    obtain ⟨pos, pre, hk, hb, hall, hrs⟩ := hrel
    by_cases hp : pos < s.size
    · have hnx : ∀ ty, (Instr.next (.pointer (some ⟨w.heap.size, 0, none⟩)) true ty).run Try.prog wr = _ := fun ty => run_next_at hk ty hp
      have hk1 := itAt_heap (pos := pos + (Utf8.decode s pos).2) hk
      have hb1 : Below w.heap.size w (itAt wr w.heap.size s (pos + (Utf8.decode s pos).2)) := hb.trans (Go.Ev.Below.setIter (Nat.le_refl _))
      have hwd := dec_pos s pos hp
      have hmu : wr.iterPos w.heap.size = pos := by simp [World.iterPos, hk]
      have hmu2 : (itAt wr w.heap.size s (pos + (Utf8.decode s pos).2)).iterPos w.heap.size = pos + (Utf8.decode s pos).2 := by simp [World.iterPos, hk1]
      rw [runes_cons hp] at hrs
      have k1 : ∀ {b : Bool}, isRid ↑(Utf8.decode s pos).fst = b → b = false → (runes s 0).all isRid = false := fun e1 e2 => by
        rw [hrs, List.all_append, List.all_cons, e1, e2]
        simp
      have k2 : ∀ {b : Bool}, isRid ↑(Utf8.decode s pos).fst = b → b = true → (pre ++ [((Utf8.decode s pos).1 : Int)]).all isRid = true := fun e1 e2 => by
        rw [List.all_append, List.all_cons, e1, e2, hall]
        rfl
      have k4 : Hid (runes s 0 = (pre ++ [((Utf8.decode s pos).1 : Int)]) ++ runes s (pos + (Utf8.decode s pos).2)) := by unfold Hid; rw [hrs]; simp
      clear hrs hall
      go_wp2_with (go_at_call 104; refine (ref_letter _ _).mono ?_; rintro e W2 ⟨rfl, rfl⟩)
      · rename_i hone
        have k5 : rightB s = false := by unfold rightB; rw [k1 rfl (by simpa using hone)]; rfl
        clear hone k1 k2 k4
        go_ret
        rw [k5]
        exact ⟨rfl, hb1⟩
      · rename_i hone
        have k5 := k2 rfl (by simpa using hone)
        clear hone k1 k2
        go_roundw
        case rel => exact ⟨_, pre ++ [((Utf8.decode s pos).1 : Int)], hk1, hb1, k5, k4.out⟩
        case measure =>
          rw [hmu, hmu2]
          omega
    · have hnx : ∀ ty, (Instr.next (.pointer (some ⟨w.heap.size, 0, none⟩)) true ty).run Try.prog wr = _ := fun ty => run_next_over hk ty hp
      rw [runes_end hp, List.append_nil] at hrs
      obtain ⟨n, hn⟩ : ∃ n, countN s = n := ⟨_, rfl⟩
      have k1 : ∀ {b : Bool}, decide (n ≤ 8) = b → 1 ≤ n → rightB s = b := fun e1 e2 => by
        unfold rightB
        rw [hrs, hall, ← hrs, show wrap64 ((runes s 0).length : Int) = n from hn, e1]; simp [e2]
      have k2 : n < 1 → rightB s = false := fun e2 => by
        unfold rightB
        rw [hrs, hall, ← hrs, show wrap64 ((runes s 0).length : Int) = n from hn]; simp; omega
      have hn' : Hid (countN s = n) := hn
      clear hrs hall hn
      go_wp2_with (go_at_call 105; refine (ref_Count' _ _ hn'.out).mono ?_; rintro e W2 ⟨rfl, hB⟩)
      · rename_i hB0 h1
        have k5 := k1 rfl h1
        go_ret
        rw [k5]
        exact ⟨rfl, hb.trans ((hB0.mono hb.size).trans (hB.mono (Nat.le_trans hb.size hB0.size)))⟩
      · rename_i h1
        have k5 := k2 (by omega)
        go_ret
        exact ⟨rfl, hb.trans (hB.mono hb.size)⟩
def lowR (r : Int) : Int := if 65 ≤ r ∧ r ≤ 90 then r + 32 else r
def foldS (l : List Int) : ByteArray := l.foldl (fun a r => a ++ Utf8.encode (lowR r)) ByteArray.empty
theorem foldS_snoc (l : List Int) (r : Int) : foldS (l ++ [r]) = foldS l ++ Utf8.encode (lowR r) := by simp [foldS]
theorem enc_le (r : Int) : (Utf8.encode r).size ≤ 4 := by
  simp only [Utf8.encode]
  generalize (if Utf8.valid r = true then r.toNat else Utf8.runeError) = c
  split
  · simp [ByteArray.size]
  · split
    · simp [ByteArray.size]
    · split <;> simp [ByteArray.size]
theorem dec_le4 (s : ByteArray) (pos : Nat) : (Utf8.decode s pos).2 ≤ 4 := by
  simp only [Utf8.decode]
  repeat' split
  all_goals simp
def foldB (s : ByteArray) : ByteArray := foldS (runes s 0)
theorem ref_Fold (s : ByteArray) (hs : s.size < 2 ^ 40) (w : World) : Calls Try.prog 119 #[.string s] w fun e w' => e = .returned (.string (foldB s)) ∧ Below w.heap.size w w' := by
  go_enter Try.func119, Try.ntmps119
  go_wp2
  go_loopw [3] (fun n wr => ∃ (pos : Nat) (pre : List Int) (c : ByteArray), wr.heap[w.heap.size]? = some (.stringIter s pos) ∧ Below w.heap.size w wr ∧ n = .string c ∧ c = foldS pre ∧ c.size ≤ 4 * pre.length ∧ pre.length ≤ pos ∧ pos ≤ s.size + 3 ∧ runes s 0 = pre ++ runes s pos) (fun _ wr => s.size - wr.iterPos w.heap.size)
  case atStart => exact ⟨0, [], ByteArray.empty, by simp [World.iter_heap], (Below.refl _ w).alloc (Nat.le_refl _) _, rfl, rfl, by simp, by simp, by simp, rfl⟩
  case round =>
    obtain ⟨pos, pre, c, hk, hb, rfl, hc, hsz, hpl, hps, hrs⟩ := hrel
    by_cases hp : pos < s.size
    · have hnx : ∀ ty, (Instr.next (.pointer (some ⟨w.heap.size, 0, none⟩)) true ty).run Try.prog wr = _ := fun ty => run_next_at hk ty hp
      have hk1 := itAt_heap (pos := pos + (Utf8.decode s pos).2) hk
      have hb1 : Below w.heap.size w (itAt wr w.heap.size s (pos + (Utf8.decode s pos).2)) := hb.trans (Go.Ev.Below.setIter (Nat.le_refl _))
      have hwd := dec_pos s pos hp
      have hmu : wr.iterPos w.heap.size = pos := by simp [World.iterPos, hk]
      have hmu2 : (itAt wr w.heap.size s (pos + (Utf8.decode s pos).2)).iterPos w.heap.size = pos + (Utf8.decode s pos).2 := by simp [World.iterPos, hk1]
      rw [runes_cons hp] at hrs
      have hw4 := dec_le4 s pos
      obtain ⟨r, hr⟩ : ∃ r : Int, r = ((Utf8.decode s pos).1 : Int) := ⟨_, rfl⟩
      rw [← hr] at hnx hrs
      have k4 : Hid (runes s 0 = (pre ++ [r]) ++ runes s (pos + (Utf8.decode s pos).2)) := by unfold Hid; rw [hrs]; simp
      have k5 : ∀ {x : Int}, 9223372036854775807 < c.size + (Utf8.encode x).size → False := fun {x} h => by
        have := enc_le x; omega
      have k7 : ∀ {x : Int}, x = lowR r → Hid (c ++ Utf8.encode x = foldS (pre ++ [r]) ∧ (c ++ Utf8.encode x).size ≤ 4 * (pre ++ [r]).length) := fun {x} e => by
        have := enc_le x
        refine ⟨by rw [foldS_snoc, ← hc, e], ?_⟩
        rw [ByteArray.size_append, List.length_append]
        simp only [List.length_cons, List.length_nil]
        omega
      have k8 : (pre ++ [r]).length ≤ pos + (Utf8.decode s pos).2 := by rw [List.length_append]; simp only [List.length_cons, List.length_nil]; omega
      have k9 : pos + (Utf8.decode s pos).2 ≤ s.size + 3 := by omega
      clear hrs hc hr
      go_wp2
      · exact (k5 (by assumption)).elim
      · have k6 := k7 (x := r - 65 + 97) (by unfold lowR; rw [if_pos ⟨by assumption, by assumption⟩]; omega)
        go_roundw
        case rel => exact ⟨_, pre ++ [r], _, hk1, hb1, rfl, k6.out.1, k6.out.2, k8, k9, k4.out⟩
        case measure =>
          rw [hmu, hmu2]
          omega
      · exact (k5 (by assumption)).elim
      · rename_i h1 h2 _
        have k6 := k7 (x := r) (by unfold lowR; rw [if_neg (by omega)])
        go_roundw
        case rel => exact ⟨_, pre ++ [r], _, hk1, hb1, rfl, k6.out.1, k6.out.2, k8, k9, k4.out⟩
        case measure =>
          rw [hmu, hmu2]
          omega
      · exact (k5 (by assumption)).elim
      · rename_i h1 _
        have k6 := k7 (x := r) (by unfold lowR; rw [if_neg (by omega)])
        go_roundw
        case rel => exact ⟨_, pre ++ [r], _, hk1, hb1, rfl, k6.out.1, k6.out.2, k8, k9, k4.out⟩
        case measure =>
          rw [hmu, hmu2]
          omega
    · have hnx : ∀ ty, (Instr.next (.pointer (some ⟨w.heap.size, 0, none⟩)) true ty).run Try.prog wr = _ := fun ty => run_next_over hk ty hp
      rw [runes_end hp, List.append_nil] at hrs
      have k1 : Hid (foldB s = c) := by unfold Hid foldB; rw [hrs, hc]
      clear hrs hc
      go_wp2
      go_ret
      rw [k1.out]
      exact ⟨rfl, hb⟩
theorem app1 {P : Program} {ops : Array Oper} {rest : List Oper} {o : Oper} {a : Act} {Q : Exit → Act → World → Prop} {w1 : World} (hgd : o.guard = none) (s x : Operand) (t : TypeId)
    (ho : o.op = .call { callee := .builtin .append, args := #[s, x], argTypes := #[t, t] }) (base : Nat) (e : TypeId) (i : TypeInfo) (ht : P.underlying t = some (.slice e)) (hi : P.info? e = some i) (hz : i.zero = some (.int .i32 0))
    (hsize : i.size = 1) (hby : i.bytes = 4) {v : Value} (n : Nat) (xs : List Value) (hs : a.eval s = v) (hown : w1.ownsRow base e 1 v n xs) {r : Int} {e' : TypeId}
    (hx : a.eval x = .slice (some ⟨w1.heap.size, 0, none⟩) 1 1) (hn : n < 2 ^ 44) (hbase : base ≤ w1.heap.size)
    (h : ∀ v' w', w'.ownsRow base e 1 v' (n + 1) (xs ++ [.int .i32 r]) → (w1.alloc (.cells #[.int .i32 r] e')).grownBy w' v.ownBlock → wpList P ops Q rest (a.put o.dst v') w') : wpList P ops Q (o :: rest) a (w1.alloc (.cells #[.int .i32 r] e')) := by
  refine wpList_append_own _ hgd s x t ho base e i (.int .i32 0) 1 4 ht hi hz hsize hby rfl (by decide) v n xs hs (hown.alloc _) ⟨w1.heap.size, 0, none⟩ 1 1 [.int .i32 r] hx rfl ?_ ?_ (by unfold maxLen; omega) (by omega) ?_ fun v' w' h1 h2 _ => h v' w' h1 h2
  · intro j u hj; match j, hj with | 0, hj => simp at hj; subst hj; simp [Addr.add]
  · intro u hu; simp at hu; subst hu; rfl
  · exact Nat.le_trans hbase (by show _ ≤ (w1.heap.push _).size; rw [Array.size_push]; omega)
theorem ownsRow_it {w : World} {base e k : Nat} {v : Value} {n : Nat} {xs : List Value} {s : ByteArray} {pos : Nat} (h : w.ownsRow base e 1 v n xs) (hk : k < base) : (itAt w k s pos).ownsRow base e 1 v n xs := by
  obtain ⟨h1, h2 | ⟨g, cap, cur, h2, h3, h4, h5⟩⟩ := h
  · exact ⟨h1, .inl h2⟩
  · refine ⟨h1, .inr ⟨g, cap, cur, h2, h3, ?_, h5⟩⟩
    simp only [itAt]
    rw [Array.getElem?_setIfInBounds_ne (by omega)]; exact h4
theorem fold_conv {P : Program} {w : World} {base e src dst : Nat} {v : Value} {n : Nat} {ns : List Int} (h : w.ownsRow base e 1 v n (ns.map (Value.int .i32))) (hs : P.underlying src = some (.slice e)) (he : P.underlying e = some (.int .i32)) (hd : P.underlying dst = some .string) :
    (convert src dst v).run P w = .ok (.string (runesBytes ns)) w := by
  have h0 := h
  obtain ⟨h1, ⟨rfl, rfl⟩ | ⟨g, cap, cur, rfl, h3, h4, h5, h6, h7, h8⟩⟩ := h
  · have : ns = [] := by simpa using h1
    subst this
    exact run_convert_runes_nil w src dst e 0 0 hs he hd
  · have hl : n = ns.length := by simpa using h1.symm
    subst hl
    have := run_convert_runes (P := P) w src dst e ⟨g, 0, none⟩ ns.length cap ns (Nat.le_refl _) hs he hd (fun j hj => h0.cells (g := g) rfl j _ (by simp [List.getD, List.getElem?_eq_getElem hj]))
    rw [List.take_of_length_le (Nat.le_refl _)] at this
    exact this
theorem foldS_bytes (l : List Int) : runesBytes (l.map lowR) = foldS l := by
  unfold runesBytes foldS; rw [List.foldl_map]
theorem fold_step {w W1 w' : World} {s : ByteArray} {pos e : Nat} {v : Value} {n : Nat} {xs : List Value} {o : Obj} (hk1 : W1.heap[w.heap.size]? = some (.stringIter s pos)) (hb1 : Below w.heap.size w W1) (how1 : W1.ownsRow (w.heap.size + 1) e 1 v n xs)
    (hg : (W1.alloc o).grownBy w' v.ownBlock) : w'.heap[w.heap.size]? = some (.stringIter s pos) ∧ Below w.heap.size w w' := by
  have hlt := (Array.getElem?_eq_some_iff.1 hk1).1
  have hsz : (W1.alloc o).heap.size = W1.heap.size + 1 := by show (W1.heap.push o).size = _; simp
  refine ⟨?_, (hb1.alloc hb1.size o).grown hg (by have := hb1.size; omega) fun k hk => ?_⟩
  · rw [hg.block _ (by omega) (fun e => by have := (how1.lt _ e.symm).1; omega), Below.heap_alloc _ _ _ hlt]
    exact hk1
  · have := (how1.lt _ hk).1; omega
theorem map_snoc (pre : List Int) (r x : Int) (h : x = lowR r) : (pre.map lowR).map (Value.int .i32) ++ [Value.int .i32 x] = ((pre ++ [r]).map lowR).map (Value.int .i32) := by
  subst h; simp
theorem rid_Fold (s : ByteArray) (hs : s.size < 2 ^ 40) (w : World) : Calls Try.prog 109 #[.string s] w fun e w' => e = .returned (.string (foldB s)) ∧ Below w.heap.size w w' := by
  obtain ⟨i0, hi, hz0, hz1, hz2⟩ := info_parts (show (Try.prog.info? 21).map (fun i => (i.zero, i.size, i.bytes)) = some (some (.int .i32 0), 1, 4) from by kernel_rfl)
  go_enter Try.func109, Try.ntmps109
  go_wp2
  go_loopw [3] (fun v wr => ∃ (pos : Nat) (pre : List Int), wr.heap[w.heap.size]? = some (.stringIter s pos) ∧ Below w.heap.size w wr ∧ wr.ownsRow (w.heap.size + 1) 21 1 v pre.length ((pre.map lowR).map (Value.int .i32)) ∧ pre.length ≤ pos ∧ pos ≤ s.size + 3 ∧ runes s 0 = pre ++ runes s pos) (fun _ wr => s.size - wr.iterPos w.heap.size)
  case atStart => exact ⟨0, [], by simp [World.iter_heap], (Below.refl _ w).alloc (Nat.le_refl _) _, World.ownsRow_nil .., by simp, by simp, rfl⟩
  case round =>
    obtain ⟨pos, pre, hk, hb, how, hpl, hps, hrs⟩ := hrel
    by_cases hp : pos < s.size
    · have hnx : ∀ ty, (Instr.next (.pointer (some ⟨w.heap.size, 0, none⟩)) true ty).run Try.prog wr = _ := fun ty => run_next_at hk ty hp
      have hk1 := itAt_heap (pos := pos + (Utf8.decode s pos).2) hk
      have hb1 : Below w.heap.size w (itAt wr w.heap.size s (pos + (Utf8.decode s pos).2)) := hb.trans (Go.Ev.Below.setIter (Nat.le_refl _))
      have how1 := ownsRow_it (s := s) (pos := pos + (Utf8.decode s pos).2) how (Nat.lt_succ_self _)
      have hwd := dec_pos s pos hp
      have hmu : wr.iterPos w.heap.size = pos := by simp [World.iterPos, hk]
      rw [runes_cons hp] at hrs
      have hw4 := dec_le4 s pos
      obtain ⟨r, hr⟩ : ∃ r : Int, r = ((Utf8.decode s pos).1 : Int) := ⟨_, rfl⟩
      rw [← hr] at hnx hrs
      have k4 : Hid (runes s 0 = (pre ++ [r]) ++ runes s (pos + (Utf8.decode s pos).2)) := by unfold Hid; rw [hrs]; simp
      have k8 : (pre ++ [r]).length ≤ pos + (Utf8.decode s pos).2 := by rw [List.length_append]; simp only [List.length_cons, List.length_nil]; omega
      have k9 : pos + (Utf8.decode s pos).2 ≤ s.size + 3 := by omega
      have hn44 : pre.length < 2 ^ 44 := by omega
      have hW1 : w.heap.size + 1 ≤ (itAt wr w.heap.size s (pos + (Utf8.decode s pos).2)).heap.size := (Array.getElem?_eq_some_iff.1 hk1).1
      clear hrs hr how hk hb
      generalize itAt wr w.heap.size s (pos + (Utf8.decode s pos).2) = W1 at hnx hk1 hb1 how1 hW1
      go_wp2_with (first | (at_builtin; refine app1 rfl (.tmp 19) (.tmp 21) 176 rfl (w.heap.size + 1) 21 i0 Try.underlying176 hi hz0 hz1 hz2 pre.length _ rfl how1 rfl hn44 hW1 ?_) | go_in)
      · have e1 : r + 32 = lowR r := by unfold lowR; rw [if_pos ⟨by assumption, by assumption⟩]
        intro v' w' hown hgrow
        obtain ⟨hk2, hb2⟩ := fold_step hk1 hb1 how1 hgrow
        have hmu3 : w'.iterPos w.heap.size = pos + (Utf8.decode s pos).2 := by simp [World.iterPos, hk2]
        have hown2 : w'.ownsRow (w.heap.size + 1) 21 1 v' (pre ++ [r]).length (((pre ++ [r]).map lowR).map (Value.int .i32)) := by
          rw [← map_snoc pre r _ e1, List.length_append]
          simpa using hown
        clear hown hgrow hk1 hb1 how1 e1
        go_wp2
        go_roundw
        case rel => exact ⟨_, pre ++ [r], hk2, hb2, hown2, k8, k9, k4.out⟩
        case measure =>
          rw [hmu, hmu3]
          omega
      · rename_i h1 h2
        have e1 : r = lowR r := by unfold lowR; rw [if_neg (by omega)]
        intro v' w' hown hgrow
        obtain ⟨hk2, hb2⟩ := fold_step hk1 hb1 how1 hgrow
        have hmu3 : w'.iterPos w.heap.size = pos + (Utf8.decode s pos).2 := by simp [World.iterPos, hk2]
        have hown2 : w'.ownsRow (w.heap.size + 1) 21 1 v' (pre ++ [r]).length (((pre ++ [r]).map lowR).map (Value.int .i32)) := by
          rw [← map_snoc pre r _ e1, List.length_append]
          simpa using hown
        clear hown hgrow hk1 hb1 how1 e1
        go_wp2
        go_roundw
        case rel => exact ⟨_, pre ++ [r], hk2, hb2, hown2, k8, k9, k4.out⟩
        case measure =>
          rw [hmu, hmu3]
          omega
      · rename_i h1
        have e1 : r = lowR r := by unfold lowR; rw [if_neg (by omega)]
        intro v' w' hown hgrow
        obtain ⟨hk2, hb2⟩ := fold_step hk1 hb1 how1 hgrow
        have hmu3 : w'.iterPos w.heap.size = pos + (Utf8.decode s pos).2 := by simp [World.iterPos, hk2]
        have hown2 : w'.ownsRow (w.heap.size + 1) 21 1 v' (pre ++ [r]).length (((pre ++ [r]).map lowR).map (Value.int .i32)) := by
          rw [← map_snoc pre r _ e1, List.length_append]
          simpa using hown
        clear hown hgrow hk1 hb1 how1 e1
        go_wp2
        go_roundw
        case rel => exact ⟨_, pre ++ [r], hk2, hb2, hown2, k8, k9, k4.out⟩
        case measure =>
          rw [hmu, hmu3]
          omega
    · have hnx : ∀ ty, (Instr.next (.pointer (some ⟨w.heap.size, 0, none⟩)) true ty).run Try.prog wr = _ := fun ty => run_next_over hk ty hp
      rw [runes_end hp, List.append_nil] at hrs
      have hcv := fold_conv (P := Try.prog) (src := 176) (dst := 9) how Try.underlying176 Try.underlying21 Try.underlying9
      rw [foldS_bytes, ← hrs, show foldS (runes s 0) = foldB s from rfl] at hcv
      clear hrs how
      go_wp2
      go_ret
      exact ⟨rfl, hb⟩
end Go.RidX
/- The seat's program, as the printed equations speak of it. -/
namespace Go.Ev
open Go.Proofs
/-- The struct types whose slice fields own their arrays. -/
def ownT : TypeId → Bool := fun t => [].contains t
/-- The functions whose results are frozen. -/
def frzF : FuncId → Bool := fun f => [22, 23, 25, 29, 35, 53, 55, 59, 90, 91, 15, 37].contains f
/-- The functions whose arguments are frozen, the types of slices that are frozen as they are made. -/
def frzIn : FuncId → Bool := fun f => [19].contains f
def frzMk : TypeId → Bool := fun t => [].contains t
noncomputable def G : Cfg := ⟨Try.prog, ownT, frzF, frzIn, frzMk⟩
/-- What is told from outside. -/
noncomputable def XT (f : FuncId) (args : List V) : Option Value :=
  if f = 64 then (match args with | [.p (.string s)] => some (.bool (RidX.rightB s)) | _ => none) else
  if f = 105 then (match args with | [.p (.string s)] => some (.int .i64 (RidX.countN s)) | _ => none) else
  if f = 65 then (match args with | [.p (.string s)] => some (.bool (RidX.rightB s)) | _ => none) else
  if f = 119 then (match args with | [.p (.string s)] => if s.size < 2 ^ 40 then some (.string (RidX.foldB s)) else none | _ => none) else
  if f = 109 then (match args with | [.p (.string s)] => if s.size < 2 ^ 40 then some (.string (RidX.foldB s)) else none | _ => none) else
  none
noncomputable def X0 : CallF := plainX XT
theorem x_ok (B : Nat) : CallOk G B X0 := plainX_ok (fun f args v h => by
  unfold XT at h
  split at h
  · rename_i hf; subst hf
    split at h
    · rename_i s; cases h
      exact ⟨[.string s], rfl, ⟨Try.f64, Try.func64, by kernel_rfl, by kernel_rfl⟩, fun w => RidX.rid_Right s w⟩
    · cases h
  split at h
  · rename_i hf; subst hf
    split at h
    · rename_i s; cases h
      exact ⟨[.string s], rfl, ⟨Try.f105, Try.func105, by kernel_rfl, by kernel_rfl⟩, fun w => RidX.ref_Count s w⟩
    · cases h
  split at h
  · rename_i hf; subst hf
    split at h
    · rename_i s; cases h
      exact ⟨[.string s], rfl, ⟨Try.f65, Try.func65, by kernel_rfl, by kernel_rfl⟩, fun w => RidX.ref_Rid s w⟩
    · cases h
  split at h
  · rename_i hf; subst hf
    split at h
    · rename_i s; split at h
      · rename_i hs; cases h
        exact ⟨[.string s], rfl, ⟨Try.f119, Try.func119, by kernel_rfl, by kernel_rfl⟩, fun w => RidX.ref_Fold s hs w⟩
      · cases h
    · cases h
  split at h
  · rename_i hf; subst hf
    split at h
    · rename_i s; split at h
      · rename_i hs; cases h
        exact ⟨[.string s], rfl, ⟨Try.f109, Try.func109, by kernel_rfl, by kernel_rfl⟩, fun w => RidX.rid_Fold s hs w⟩
      · cases h
    · cases h
  cases h) B
theorem mixed : G.P.follows .mixedOrders = true := by kernel_rfl
end Go.Ev
/- Equations, printed by tracer2.py. -/
namespace Go.Ev
open Go.Proofs
set_option linter.unusedVariables false
set_option maxRecDepth 100000
-- 23 limelight/ext.Read
noncomputable def ext_Read_c0 : Code := (codeAt (bodyOf Try.f23) [1, 1, 1, 0, 1, 0, 0])
def ext_Read_l0 : Lv := ⟨64, 48, [(0, 64)]⟩
noncomputable def ext_Read_k0 (rec : CallF) (loop : LoopV) (σ : Stamp) : Exit → Env → H → Option (List C × H) := (kBlock 0 (kSeq G rec loop (codeAt (bodyOf Try.f23) [1, 1, 1, 1]) ⟨48, 48, []⟩ (1 :: 1 :: 1 :: 0 :: σ) (finC G true Try.f23 (1 :: σ))))
theorem ext_Read_entry (rec : CallF) (loop : LoopV) (σ : Stamp) (x0 : Int) (x1 : V) (h : H) : cvBody G rec loop 23 σ [(.p (.int .u16 x0)), x1] h =
 (bif x0 != 48862 then (some (x0 != 4096)) else (some false)).bind fun b1 =>
 bif b1 then (
 fin true σ (List.replicate 65 [] :: h) [(.p (.slice .none 0 0)), (.p (.int .i64 1))])
 else (
 (loop ext_Read_c0 ext_Read_l0 (1 :: 0 :: 1 :: 1 :: 1 :: 0 :: σ) (envL [(0, (.p (.int .u16 x0))), (1, x1), (6, (.p (.slice .none 0 0))), (7, (.p (.int .i64 0)))]) (List.replicate 65 [] :: h)).bind fun r2 => ext_Read_k0 rec loop σ r2.1 r2.2.1 r2.2.2) := by kernel_rfl
theorem ext_Read_r0 (rec : CallF) (loop : LoopV) (σ : Stamp) (x0 : Int) (x1 : V) (x6 : V) (x7 : Int) (h : H) : cvRound G rec loop ext_Read_c0 ext_Read_l0 σ (envL [(0, (.p (.int .u16 x0))), (1, x1), (6, x6), (7, (.p (.int .i64 x7)))]) h =
 (lenO x1).bind fun t3 =>
 (castI .i64 t3).bind fun n4 =>
 bif decide (x7 < n4) then (
 (iS 1 x1 x7).bind fun t5 =>
 (ldO false 1 h t5).bind fun t6 =>
 (castI .u8 t6).bind fun n7 =>
 bif n7 == 0 then (
 loop ext_Read_c0 ext_Read_l0 (1 :: σ) (envL [(0, (.p (.int .u16 x0))), (1, x1), (6, x6), (7, (.p (.int .i64 (IntKind.wrap .i64 (x7 + 1)))))]) h)
 else (
 (callO rec 58 (3 :: 0 :: 1 :: 1 :: 0 :: σ) [(.p (.int .u16 x0)), x1, (.p (.int .i64 x7))] h (some 35)).bind fun q8 =>
 (extV q8.1 0).bind fun t9 =>
 (castI .i64 t9).bind fun n10 =>
 (extV q8.1 1).bind fun t11 =>
 (castI .i64 t11).bind fun n12 =>
 (extV q8.1 2).bind fun t13 =>
 (castI .i64 t13).bind fun n14 =>
 (extV q8.1 3).bind fun t15 =>
 (asB t15).bind fun b16 =>
 bif !b16 then (
 some ((.exit 0), (envL [(6, x6)]), q8.2))
 else (
 (callO rec 59 (3 :: 0 :: 1 :: 1 :: 1 :: 1 :: 0 :: σ) [x1, (.p (.int .i64 n14)), (.p (.int .i64 n12))] q8.2 (some 46)).bind fun q17 =>
 (extV q17.1 0).bind fun t18 =>
 (extV q17.1 1).bind fun t19 =>
 (asB t19).bind fun b20 =>
 bif !b20 then (
 some (.ret, (envL [(4, (.p (.slice .none 0 0))), (5, (.p (.int .i64 13)))]), q17.2))
 else (
 (buildV Try.prog 38 [(0, (.p (.int .i64 n10))), (1, t18)]).bind fun t21 =>
 (buildSliceV Try.prog 27 1 [(0, t21)]).bind fun t22 =>
 (apO false 2 32 (5 :: 0 :: 1 :: 1 :: 1 :: 1 :: 1 :: 1 :: 0 :: σ) 56 q17.2 x6 t22).bind fun q23 =>
 loop ext_Read_c0 ext_Read_l0 (1 :: σ) (envL [(0, (.p (.int .u16 x0))), (1, x1), (6, q23.1), (7, (.p (.int .i64 (IntKind.wrap .i64 (n14 + n12)))))]) q23.2))))
 else (
 some ((.exit 0), (envL [(6, x6)]), h)) := by kernel_rfl
theorem ext_Read_a0_0 (rec : CallF) (loop : LoopV) (σ : Stamp) (x6 : V) (h : H) : ext_Read_k0 rec loop σ (.exit 0) (envL [(6, x6)]) h =
 (lenO x6).bind fun t24 =>
 (castI .i64 t24).bind fun n25 =>
 bif decide (n25 > 8) then (
 fin true σ h [(.p (.slice .none 0 0)), (.p (.int .i64 3))])
 else (
 (callO rec 60 (1 :: 0 :: 1 :: 1 :: 1 :: 1 :: 1 :: 0 :: σ) [x6] h (some 64)).bind fun q26 =>
 fin true σ q26.2 [q26.1, (.p (.int .i64 0))]) := by kernel_rfl
theorem ext_Read_a0_ret (rec : CallF) (loop : LoopV) (σ : Stamp) (x4 : V) (x5 : Int) (h : H) : ext_Read_k0 rec loop σ .ret (envL [(4, x4), (5, (.p (.int .i64 x5)))]) h =
 fin true σ h [x4, (.p (.int .i64 x5))] := by kernel_rfl
end Go.Ev
/- Equations, printed by tracer2.py. -/
namespace Go.Ev
open Go.Proofs
set_option linter.unusedVariables false
set_option maxRecDepth 100000
-- 60 slices.Clip[[]limelight/api.Elem,limelight/api.Elem]
theorem slices_Clip_Lapi_Elem_api_Elem_entry (rec : CallF) (loop : LoopV) (σ : Stamp) (x0 : V) (h : H) : cvBody G rec loop 60 σ [x0] h =
 (lenO x0).bind fun t1 =>
 (castI .i64 t1).bind fun n2 =>
 (lenO x0).bind fun t3 =>
 (castI .i64 t3).bind fun n4 =>
 (slS 2 x0 none (some n2) (some n4)).bind fun t5 =>
 fin false σ (List.replicate 9 [] :: h) [t5] := by kernel_rfl
end Go.Ev
/- Equations, printed by tracer2.py. -/
namespace Go.Ev
open Go.Proofs
set_option linter.unusedVariables false
set_option maxRecDepth 100000
-- 58 limelight/ext.next
theorem ext_next_entry (rec : CallF) (loop : LoopV) (σ : Stamp) (x0 : Int) (x1 : V) (x2 : Int) (h : H) : cvBody G rec loop 58 σ [(.p (.int .u16 x0)), x1, (.p (.int .i64 x2))] h =
 bif x0 == 48862 then (
 (iS 1 x1 x2).bind fun t1 =>
 (ldO false 1 (List.replicate 63 [] :: h) t1).bind fun t2 =>
 (castI .u8 t2).bind fun n3 =>
 (iS 1 x1 x2).bind fun t4 =>
 (ldO false 1 (List.replicate 63 [] :: h) t4).bind fun t5 =>
 (castI .u8 t5).bind fun n6 =>
 (bif (Int.fdiv (IntKind.wrap .i64 n3) (2 ^ 4)) != 0 then (some ((Int.fdiv (IntKind.wrap .i64 n3) (2 ^ 4)) != 15)) else (some false)).bind fun b7 =>
 fin false σ (List.replicate 63 [] :: h) [(.p (.int .i64 (Int.fdiv (IntKind.wrap .i64 n3) (2 ^ 4)))), (.p (.int .i64 (IntKind.wrap .i64 ((IntKind.wrap .i64 (intBits .and .u8 n6 15)) + 1)))), (.p (.int .i64 (IntKind.wrap .i64 (x2 + 1)))), (.p (.bool b7))])
 else (
 (lenO x1).bind fun t8 =>
 (castI .i64 t8).bind fun n9 =>
 bif decide ((IntKind.wrap .i64 (x2 + 1)) ≥ n9) then (
 (iS 1 x1 x2).bind fun t10 =>
 (ldO false 1 (List.replicate 63 [] :: h) t10).bind fun t11 =>
 (castI .u8 t11).bind fun n12 =>
 (lenO x1).bind fun t13 =>
 (castI .i64 t13).bind fun n14 =>
 fin false σ (List.replicate 63 [] :: h) [(.p (.int .i64 (IntKind.wrap .i64 n12))), (.p (.int .i64 n14)), (.p (.int .i64 (IntKind.wrap .i64 (x2 + 1)))), (.p (.bool true))])
 else (
 (iS 1 x1 x2).bind fun t15 =>
 (ldO false 1 (List.replicate 63 [] :: h) t15).bind fun t16 =>
 (castI .u8 t16).bind fun n17 =>
 (iS 1 x1 (IntKind.wrap .i64 (x2 + 1))).bind fun t18 =>
 (ldO false 1 (List.replicate 63 [] :: h) t18).bind fun t19 =>
 (castI .u8 t19).bind fun n20 =>
 fin false σ (List.replicate 63 [] :: h) [(.p (.int .i64 (IntKind.wrap .i64 n17))), (.p (.int .i64 (IntKind.wrap .i64 n20))), (.p (.int .i64 (IntKind.wrap .i64 (x2 + 2)))), (.p (.bool true))])) := by kernel_rfl
end Go.Ev
/- Lifted by lift.py: ext_next as a plain function. -/
namespace Go.Ev
open Go.Proofs
set_option linter.unusedVariables false
set_option linter.unusedSimpArgs false
set_option maxRecDepth 100000
def p_ext_next (x0 : Int) (x1 : (List Int)) (x2 : Int) : Option (Int × Int × Int × Bool) :=
bif x0 == 48862 then (
(ix x1 x2).bind fun a1 =>
(ix x1 x2).bind fun a4 =>
(bif (Int.fdiv (IntKind.wrap .i64 a1) (2 ^ 4)) != 0 then (some ((Int.fdiv (IntKind.wrap .i64 a1) (2 ^ 4)) != 15)) else (some false)).bind fun b7 =>
some ((Int.fdiv (IntKind.wrap .i64 a1) (2 ^ 4)), (IntKind.wrap .i64 ((IntKind.wrap .i64 (intBits .and .u8 a4 15)) + 1)), (IntKind.wrap .i64 (x2 + 1)), b7))
else (
bif decide ((IntKind.wrap .i64 (x2 + 1)) ≥ ((x1.length : Int))) then (
(ix x1 x2).bind fun a11 =>
some ((IntKind.wrap .i64 a11), ((x1.length : Int)), (IntKind.wrap .i64 (x2 + 1)), true))
else (
(ix x1 x2).bind fun a14 =>
(ix x1 (IntKind.wrap .i64 (x2 + 1))).bind fun a17 =>
some ((IntKind.wrap .i64 a14), (IntKind.wrap .i64 a17), (IntKind.wrap .i64 (x2 + 2)), true)))
theorem ext_next_ok {h : H} {σ : Stamp} (x0 : Int) (x1 : List Int) {u1 : V} (hu1 : SlH h (dI .u8) x1 u1) (x2 : Int) : Sim (p_ext_next x0 x1 x2) (ev G X0 58 σ [(.p (.int .u16 x0)), u1, (.p (.int .i64 x2))] h) (fun r s => s = ([.v (.p (.int .i64 r.1)), .v (.p (.int .i64 r.2.1)), .v (.p (.int .i64 r.2.2.1)), .v (.p (.bool r.2.2.2))], h)) := by
  refine Sim.ev rfl (Sim.ext (ext_next_entry _ _ _ _ _ _ _) ?_)
  rw [p_ext_next]
  have S0 : Fm 63 h [] [] [] (List.replicate 63 [] :: h) := Fm.start0
  refine Sim.cd (fun hc => ?_) (fun hc => ?_)
  · refine Sim.bd fun a1 h2 => ?_
    refine Sim.op ((S0.low hu1).iS h2 rfl) ?_
    obtain ⟨_, rfl, hE3⟩ := (S0.low hu1).el h2 rfl
    refine Sim.op (hE3.ld (j := 0) rfl) ?_
    refine Sim.op (castI_p _ _) ?_
    refine Sim.bd fun a4 h5 => ?_
    refine Sim.op ((S0.low hu1).iS h5 rfl) ?_
    obtain ⟨_, rfl, hE6⟩ := (S0.low hu1).el h5 rfl
    refine Sim.op (hE6.ld (j := 0) rfl) ?_
    refine Sim.op (castI_p _ _) ?_
    refine Sim.ch (P := fun r y => r = y) ?_ (fun b7 y8 h9 h10 => ?_)
    · refine Sim.cd (fun hc => ?_) (fun hc => ?_)
      · exact Sim.ret rfl rfl
      · exact Sim.ret rfl rfl
    subst h10
    exact Sim.fin (S0.finN (lv_cons (still_int _ _).lv (lv_cons (still_int _ _).lv (lv_cons (still_int _ _).lv (lv_cons (still_bool _).lv lv_nil))))) rfl
  · refine Sim.op ((S0.low hu1).len) ?_
    refine Sim.op (castI_p _ _) ?_
    refine Sim.cd (fun hc => ?_) (fun hc => ?_)
    · refine Sim.bd fun a11 h12 => ?_
      refine Sim.op ((S0.low hu1).iS h12 rfl) ?_
      obtain ⟨_, rfl, hE13⟩ := (S0.low hu1).el h12 rfl
      refine Sim.op (hE13.ld (j := 0) rfl) ?_
      refine Sim.op (castI_p _ _) ?_
      refine Sim.op ((S0.low hu1).len) ?_
      refine Sim.op (castI_p _ _) ?_
      exact Sim.fin (S0.finN (lv_cons (still_int _ _).lv (lv_cons (still_int _ _).lv (lv_cons (still_int _ _).lv (lv_cons (still_bool _).lv lv_nil))))) rfl
    · refine Sim.bd fun a14 h15 => ?_
      refine Sim.op ((S0.low hu1).iS h15 rfl) ?_
      obtain ⟨_, rfl, hE16⟩ := (S0.low hu1).el h15 rfl
      refine Sim.op (hE16.ld (j := 0) rfl) ?_
      refine Sim.op (castI_p _ _) ?_
      refine Sim.bd fun a17 h18 => ?_
      refine Sim.op ((S0.low hu1).iS h18 rfl) ?_
      obtain ⟨_, rfl, hE19⟩ := (S0.low hu1).el h18 rfl
      refine Sim.op (hE19.ld (j := 0) rfl) ?_
      refine Sim.op (castI_p _ _) ?_
      exact Sim.fin (S0.finN (lv_cons (still_int _ _).lv (lv_cons (still_int _ _).lv (lv_cons (still_int _ _).lv (lv_cons (still_bool _).lv lv_nil))))) rfl
end Go.Ev
/- Equations, printed by tracer2.py. -/
namespace Go.Ev
open Go.Proofs
set_option linter.unusedVariables false
set_option maxRecDepth 100000
-- 59 limelight/octet.Cut
theorem octet_Cut_entry (rec : CallF) (loop : LoopV) (σ : Stamp) (x0 : V) (x1 : Int) (x2 : Int) (h : H) : cvBody G rec loop 59 σ [x0, (.p (.int .i64 x1)), (.p (.int .i64 x2))] h =
 (bif decide (x1 < 0) then (some true) else (some (decide (x2 < 0)))).bind fun b1 =>
 (bif b1 then (some true) else ((lenO x0).bind fun t2 =>
 (castI .i64 t2).bind fun n3 =>
 some (decide (x1 > n3)))).bind fun b4 =>
 (bif b4 then (some true) else ((lenO x0).bind fun t5 =>
 (castI .i64 t5).bind fun n6 =>
 some (decide (x2 > (IntKind.wrap .i64 (n6 - x1)))))).bind fun b7 =>
 bif b7 then (
 fin true σ (List.replicate 35 [] :: h) [(.p (.slice .none 0 0)), (.p (.bool false))])
 else (
 (slS 1 x0 (some x1) (some (IntKind.wrap .i64 (x1 + x2))) none).bind fun t8 =>
 (callO rec 63 (6 :: 0 :: 1 :: 1 :: 0 :: σ) [t8] (List.replicate 35 [] :: h) (some 34)).bind fun q9 =>
 fin true σ q9.2 [q9.1, (.p (.bool true))]) := by kernel_rfl
end Go.Ev
/- Equations, printed by tracer2.py. -/
namespace Go.Ev
open Go.Proofs
set_option linter.unusedVariables false
set_option maxRecDepth 100000
-- 63 slices.Clone[[]byte,byte]
theorem slices_Clone_Lbyte_byte_entry (rec : CallF) (loop : LoopV) (σ : Stamp) (x0 : V) (h : H) : cvBody G rec loop 63 σ [x0] h =
 (binV Try.prog (List.replicate 8 [] :: h) .eql 32 x0 (.p (.slice .none 0 0))).bind fun t1 =>
 (asB t1).bind fun b2 =>
 bif b2 then (
 fin false σ (List.replicate 8 [] :: h) [(.p (.slice .none 0 0))])
 else (
 (buildSliceV Try.prog 32 0 []).bind fun t3 =>
 (apO true 1 1 (2 :: 0 :: 1 :: 1 :: 0 :: σ) 7 (List.replicate 8 [] :: h) t3 x0).bind fun q4 =>
 fin false σ q4.2 [q4.1]) := by kernel_rfl
end Go.Ev
/- Lifted by lift.py: octet_Cut as a plain function. -/
namespace Go.Ev
open Go.Proofs
set_option linter.unusedVariables false
set_option linter.unusedSimpArgs false
set_option maxRecDepth 100000
def p_octet_Cut (x0 : (List Int)) (x1 : Int) (x2 : Int) : Option ((List Int) × Bool) :=
(bif decide (x1 < 0) then (some true) else (some (decide (x2 < 0)))).bind fun b1 =>
(bif b1 then (some true) else (some (decide (x1 > ((x0.length : Int)))))).bind fun b5 =>
(bif b5 then (some true) else (some (decide (x2 > (IntKind.wrap .i64 (((x0.length : Int)) - x1)))))).bind fun b9 =>
bif b9 then (
some ((([] : List Int)), false))
else (
(sub x0 x1 (IntKind.wrap .i64 (x1 + x2))).bind fun a13 =>
(p_clone 1 a13).bind fun r15 =>
some (r15, true))
theorem octet_Cut_ok {h : H} {σ : Stamp} (x0 : List Int) {u0 : V} (hu0 : SlH h (dI .u8) x0 u0) (x1 : Int) (x2 : Int) : Sim (p_octet_Cut x0 x1 x2) (ev G X0 59 σ [u0, (.p (.int .i64 x1)), (.p (.int .i64 x2))] h) (fun r s => ∃ (v0 : V), SlF (dI .u8) r.1 v0 ∧ s = ([.v v0, .v (.p (.bool r.2))], h)) := by
  refine Sim.ev rfl (Sim.ext (octet_Cut_entry _ _ _ _ _ _ _) ?_)
  rw [p_octet_Cut]
  have S0 : Fm 35 h [] [] [] (List.replicate 35 [] :: h) := Fm.start0
  refine Sim.ch (P := fun r y => r = y) ?_ (fun b1 y2 h3 h4 => ?_)
  · refine Sim.cd (fun hc => ?_) (fun hc => ?_)
    · exact Sim.ret rfl rfl
    · exact Sim.ret rfl rfl
  subst h4
  refine Sim.ch (P := fun r y => r = y) ?_ (fun b5 y6 h7 h8 => ?_)
  · refine Sim.cd (fun hc => ?_) (fun hc => ?_)
    · exact Sim.ret rfl rfl
    · refine Sim.op ((S0.low hu0).len) ?_
      refine Sim.op (castI_p _ _) ?_
      exact Sim.ret rfl rfl
  subst h8
  refine Sim.ch (P := fun r y => r = y) ?_ (fun b9 y10 h11 h12 => ?_)
  · refine Sim.cd (fun hc => ?_) (fun hc => ?_)
    · exact Sim.ret rfl rfl
    · refine Sim.op ((S0.low hu0).len) ?_
      refine Sim.op (castI_p _ _) ?_
      exact Sim.ret rfl rfl
  subst h12
  refine Sim.cd (fun hc => ?_) (fun hc => ?_)
  · exact Sim.fin (S0.finN (lv_cons (SlF.nil (dI .u8)).still.lv (lv_cons (still_bool _).lv lv_nil))) ⟨(.p (.slice none 0 0)), (SlF.nil (dI .u8)), rfl⟩
  · refine Sim.bd fun a13 h14 => ?_
    refine Sim.op ((S0.low hu0).slS h14 rfl rfl rfl) ?_
    refine Sim.call (clone_ok (b := 1) (f := 63) (tt := 5) (e := 1) (τ := fun σ => _ :: _ :: _ :: _ :: _ :: σ) (fun x h => slices_Clone_Lbyte_byte_entry _ _ _ x h) ((S0.low hu0).sub h14 (e := 1) rfl) rfl (by decide) (by decide) (by decide) (by kernel_rfl) (by kernel_rfl) rfl) fun r15 cs16 H17 h18 q19 => ?_
    obtain ⟨c20, cs21, h22, h23, q19⟩ := q19
    cases q19
    obtain ⟨v24, H25, e26, S27⟩ := S0.land (dt := (dI .u8)) (d := 34) (e := 0) (n := 0) h22 h23 (by decide) rfl
    erw [e26]
    obtain ⟨v34, H29, e30, h32, S31⟩ := S27.expFrz (i := 0) (τ := 0 :: 1 :: σ) rfl rfl
    exact Sim.fin (S31.finE (Ex.st e30 (Ex.pl (still_bool _).lv Ex.nil))) ⟨v34, h32, rfl⟩
end Go.Ev
/- Lifted by lift.py: ext_Read as a plain function. -/
namespace Go.Ev
open Go.Proofs
set_option linter.unusedVariables false
set_option linter.unusedSimpArgs false
set_option maxRecDepth 100000
def p_ext_Read_l0 {β : Type} (k : Nat) (kE0 : (List T_api_Elem) → Option β) (kE1 : Int → Option β) (x0 : Int) (x1 : (List Int)) (x6 : (List T_api_Elem)) (x7 : Int) : Option β := match k with
| 0 => none
| k + 1 =>
bif decide (x7 < ((x1.length : Int))) then (
(ix x1 x7).bind fun a13 =>
bif a13 == 0 then (
p_ext_Read_l0 k kE0 kE1 x0 x1 x6 (IntKind.wrap .i64 (x7 + 1)))
else (
(p_ext_next x0 x1 x7).bind fun r16 =>
bif !r16.2.2.2 then (
kE0 x6)
else (
(p_octet_Cut x1 r16.2.2.1 r16.2.1).bind fun r21 =>
bif !r21.2 then (
kE1 13)
else (
(ap 32 x6 ([((⟨r16.1, r21.1⟩ : T_api_Elem))])).bind fun a29 =>
p_ext_Read_l0 k kE0 kE1 x0 x1 a29 (IntKind.wrap .i64 (r16.2.2.1 + r16.2.1))))))
else (
kE0 x6)
def p_ext_Read (k : Nat) (x0 : Int) (x1 : (List Int)) : Option ((List T_api_Elem) × Int) :=
(bif x0 != 48862 then (some (x0 != 4096)) else (some false)).bind fun b1 =>
bif b1 then (
some ((([] : List T_api_Elem)), 1))
else (
p_ext_Read_l0 k (fun r43_6 =>
bif decide (((r43_6.length : Int)) > 8) then (
some ((([] : List T_api_Elem)), 3))
else (
some (r43_6, 0))) (fun r57_5 =>
some ((([] : List T_api_Elem)), r57_5)) x0 x1 (([] : List T_api_Elem)) 0)
theorem ext_Read_l0_ok {h : H}  {β α : Type} {Q : β → α → Prop} {K : Exit × Env × H → Option α} {kE0 : (List T_api_Elem) → Option β} {kE1 : Int → Option β} (hE0 : ∀ (q6 : (List T_api_Elem)) (v37 : V) (H35 : Go.Ev.H) (_ : Fm 65 h [] [] [⟨[56], v37, dT_api_Elem, q6⟩] H35), Sim (kE0 q6) (K ((.exit 0), (envL [(6, v37)]), H35)) Q) (hE1 : ∀ (q5 : Int) (H39 : Go.Ev.H) (_ : Fm 65 h [] [] [] H39), Sim (kE1 q5) (K (.ret, (envL [(4, (.p (.slice none 0 0))), (5, (.p (.int .i64 q5)))]), H39)) Q) (k : Nat) : ∀ (x0 : Int) (x1 : (List Int)) (x6 : (List T_api_Elem)) (x7 : Int) (v9 : V) (h10 : SlH h (dI .u8) x1 v9) (v11 : V) (H7 : Go.Ev.H) (_ : Fm 65 h [] [] [⟨[56], v11, dT_api_Elem, x6⟩] H7) {σ : Stamp}, Sim (p_ext_Read_l0 k kE0 kE1 x0 x1 x6 x7) ((cvL G X0 ext_Read_c0 ext_Read_l0 σ (envL [(0, (.p (.int .u16 x0))), (1, v9), (6, v11), (7, (.p (.int .i64 x7)))]) H7).bind K) Q := by
  induction k with
  | zero => intros; exact Sim.no
  | succ k ih =>
    intro x0 x1 x6 x7 v9 h10 v11 H7 S8 σ
    rw [p_ext_Read_l0]
    refine Sim.round (Sim.ext (ext_Read_r0 _ _ _ _ _ _ _ _) ?_)
    refine Sim.op ((S8.low h10).len) ?_
    refine Sim.op (castI_p _ _) ?_
    refine Sim.cd (fun hc => ?_) (fun hc => ?_)
    · refine Sim.bd fun a13 h14 => ?_
      refine Sim.op ((S8.low h10).iS h14 rfl) ?_
      obtain ⟨_, rfl, hE15⟩ := (S8.low h10).el h14 rfl
      refine Sim.op (hE15.ld (j := 0) rfl) ?_
      refine Sim.op (castI_p _ _) ?_
      refine Sim.cd (fun hc => ?_) (fun hc => ?_)
      · exact ih x0 x1 x6 (IntKind.wrap .i64 (x7 + 1)) v9 h10 v11 H7 (S8.wk2 all_nil (all_cons ⟨[56], by simp, at_mem 0 rfl⟩ all_nil))
      · refine Sim.call (ext_next_ok x0 x1 (S8.low h10) x7) fun r16 cs17 H18 h19 q20 => ?_
        cases q20
        refine Sim.op (rfl) ?_
        refine Sim.op (castI_p _ _) ?_
        refine Sim.op (rfl) ?_
        refine Sim.op (castI_p _ _) ?_
        refine Sim.op (rfl) ?_
        refine Sim.op (castI_p _ _) ?_
        refine Sim.op (rfl) ?_
        refine Sim.op (asB_p _) ?_
        refine Sim.cd (fun hc => ?_) (fun hc => ?_)
        · exact hE0 x6 v11 H7 (S8.wk2 all_nil (all_cons ⟨[56], by simp, at_mem 0 rfl⟩ all_nil))
        · refine Sim.call (octet_Cut_ok x1 (S8.low h10) r16.2.2.1 r16.2.1) fun r21 cs22 H23 h24 q25 => ?_
          obtain ⟨v26, h27, q25⟩ := q25
          cases q25
          refine Sim.op (rfl) ?_
          refine Sim.op (rfl) ?_
          refine Sim.op (asB_p _) ?_
          refine Sim.cd (fun hc => ?_) (fun hc => ?_)
          · exact hE1 13 H7 (S8.wk2 all_nil all_nil)
          · refine Sim.op (bldV (pt_cons rfl (pt_cons h27.still.cells pt_nil)) (by kernel_rfl : _ = some (.agg [.p (.int .i64 r16.1), v26]))) ?_
            have h28 : SlF dT_api_Elem [((⟨r16.1, r21.1⟩ : T_api_Elem))] (.fz [(.p (.int .i64 r16.1)), v26] 1 2 true) := SlF.lit (cs := [(.p (.int .i64 r16.1)), v26]) (RL.cons (show dT_api_Elem.R ((⟨r16.1, r21.1⟩ : T_api_Elem)) [.p (.int .i64 r16.1), v26] from (dT_api_Elem.mk h27)) RL.nil) rfl rfl true
            refine Sim.op (bldS (pt_cons (c := [.p (.int .i64 r16.1), v26]) rfl pt_nil) (by kernel_rfl : _ = some (.fz [(.p (.int .i64 r16.1)), v26] 1 2 true))) ?_
            refine Sim.bd fun a29 h30 => ?_
            obtain ⟨v31, H32, e33, S34⟩ := S8.app (i := 0) (d := 56) (e := 2) (own := false) (σ := (5 :: 0 :: 1 :: 1 :: 1 :: 1 :: 1 :: 1 :: 0 :: σ)) rfl (h28.h H7).y h30 rfl (by decide) (by decide) rfl
            refine Sim.op (e33) ?_
            exact ih x0 x1 a29 (IntKind.wrap .i64 (r16.2.2.1 + r16.2.1)) v9 h10 v31 H32 (S34.wk2 all_nil (all_cons ⟨[56, 56], by simp, at_mem 0 rfl⟩ all_nil))
    · exact hE0 x6 v11 H7 (S8.wk2 all_nil (all_cons ⟨[56], by simp, at_mem 0 rfl⟩ all_nil))
theorem ext_Read_ok (k : Nat) {h : H} {σ : Stamp} (x0 : Int) (x1 : List Int) {u1 : V} (hu1 : SlH h (dI .u8) x1 u1) : Sim (p_ext_Read k x0 x1) (ev G X0 23 σ [(.p (.int .u16 x0)), u1] h) (fun r s => ∃ (v0 : V), SlF dT_api_Elem r.1 v0 ∧ s = ([.v v0, .v (.p (.int .i64 r.2))], h)) := by
  refine Sim.ev rfl (Sim.ext (ext_Read_entry _ _ _ _ _ _) ?_)
  rw [p_ext_Read]
  have S0 : Fm 65 h [] [] [] (List.replicate 65 [] :: h) := Fm.start0
  refine Sim.ch (P := fun r y => r = y) ?_ (fun b1 y2 h3 h4 => ?_)
  · refine Sim.cd (fun hc => ?_) (fun hc => ?_)
    · exact Sim.ret rfl rfl
    · exact Sim.ret rfl rfl
  subst h4
  refine Sim.cd (fun hc => ?_) (fun hc => ?_)
  · exact Sim.fin (S0.finN (lv_cons (SlF.nil dT_api_Elem).still.lv (lv_cons (still_int _ _).lv lv_nil))) ⟨(.p (.slice none 0 0)), (SlF.nil dT_api_Elem), rfl⟩
  · have S42 := S0.nil dT_api_Elem []
    refine Sim.as (ext_Read_l0_ok ?_ ?_ k x0 x1 (([] : List T_api_Elem)) 0 u1 hu1 (.p (.slice none 0 0)) (List.replicate 65 [] :: h) (S42.wk2 all_nil (all_cons ⟨[], by simp, at_mem 0 rfl⟩ all_nil))) 
    · intro r43_6 v46 H44 S45
      refine Sim.ext (ext_Read_a0_0 _ _ _ _ _) ?_
      refine Sim.op ((S45.sl (i := 0) rfl).len) ?_
      refine Sim.op (castI_p _ _) ?_
      refine Sim.cd (fun hc => ?_) (fun hc => ?_)
      · exact Sim.fin (S45.finN (lv_cons (SlF.nil dT_api_Elem).still.lv (lv_cons (still_int _ _).lv lv_nil))) ⟨(.p (.slice none 0 0)), (SlF.nil dT_api_Elem), rfl⟩
      · obtain ⟨v48, e49, S50⟩ := clip_D (G := G) (X := X0) (i := 0) (f := 60) (fun x h => slices_Clip_Lapi_Elem_api_Elem_entry _ _ _ x h) S45 rfl rfl rfl
        refine Sim.op (e49) ?_
        obtain ⟨v56, H51, e52, h54, S53⟩ := S50.expFrz (i := 0) (τ := 0 :: 1 :: σ) rfl rfl
        exact Sim.fin (S53.finE (Ex.st e52 (Ex.pl (still_int _ _).lv Ex.nil))) ⟨v56, h54, rfl⟩
    · intro r57_5 H58 S59
      refine Sim.ext (ext_Read_a0_ret _ _ _ _ _ _) ?_
      exact Sim.fin (S59.finN (lv_cons (SlF.nil dT_api_Elem).still.lv (lv_cons (still_int _ _).lv lv_nil))) ⟨(.p (.slice none 0 0)), (SlF.nil dT_api_Elem), rfl⟩
end Go.Ev
/- Words for plain proofs about the lifted functions: when they answer, and what. -/
namespace Go.Ev
theorem ix_at {α : Type} {xs : List α} {i : Nat} {x : α} (h : xs[i]? = some x) : ix xs (i : Int) = some x := by
  unfold ix; rw [if_pos (by omega)]; simpa using h
theorem ix_mid {α : Type} {xs ys : List α} {x : α} : ix (xs ++ x :: ys) (xs.length : Int) = some x := ix_at (by simp)
theorem ix_mid' {α : Type} {l xs ys : List α} {x : α} {i : Int} (hl : l = xs ++ x :: ys) (hi : i = xs.length) : ix l i = some x := by subst hl; subst hi; exact ix_mid
theorem ap_eq {α : Type} {b : Nat} {xs ys : List α} (hb : b ≤ 64) (h : xs.length + ys.length < 2 ^ 40) : ap b xs ys = some (xs ++ ys) := by
  unfold ap
  refine if_pos ⟨?_, by omega⟩
  have : (xs.length + ys.length) * b ≤ (xs.length + ys.length) * 64 := Nat.mul_le_mul_left _ hb
  omega
theorem clone_eq {α : Type} {b : Nat} {xs : List α} (hb : b ≤ 64) (h : xs.length < 2 ^ 40) : p_clone b xs = some xs := by
  unfold p_clone; rw [ap_eq hb (by simpa using h)]; rfl
theorem sub_eq {α : Type} {xs : List α} {a n : Nat} (h : a + n ≤ xs.length) : sub xs (a : Int) ((a + n : Nat) : Int) = some ((xs.drop a).take n) := by
  unfold sub
  rw [if_pos ⟨by omega, by omega, by omega⟩]
  congr 2
  omega
theorem wrap_i64 {n : Int} (h1 : -9223372036854775808 ≤ n) (h2 : n < 9223372036854775808) : IntKind.wrap .i64 n = n := wrap64 h1 h2
theorem wrap_u8 {n : Int} (h1 : 0 ≤ n) (h2 : n < 256) : IntKind.wrap .u8 n = n := by
  simp only [IntKind.wrap, IntKind.signed, IntKind.bits]
  simp
  omega
end Go.Ev
namespace Go.Ev
set_option maxRecDepth 100000
theorem nib_or : ∀ a : Fin 15, ∀ b : Fin 16, IntKind.wrap .u8 (intBits .or .i64 (IntKind.wrap .i64 ((a.1 : Int) * 2 ^ 4)) (b.1 : Int)) = (a.1 : Int) * 16 + b.1 := by decide
theorem nib_and : ∀ a : Fin 15, ∀ b : Fin 16, intBits .and .u8 ((a.1 : Int) * 16 + b.1) 15 = b.1 := by decide
theorem nib_div : ∀ a : Fin 15, ∀ b : Fin 16, Int.fdiv (IntKind.wrap .i64 ((a.1 : Int) * 16 + b.1)) (2 ^ 4) = a.1 := by decide
end Go.Ev
namespace Go.Ev
theorem next_one {xs : List Int} {i : Nat} {a : Fin 15} {b : Fin 16} (h : xs[i]? = some ((a.1 : Int) * 16 + b.1)) (ha : a.1 ≠ 0) (hi : i < 2 ^ 39) : p_ext_next 48862 xs (i : Int) = some ((a.1 : Int), ((b.1 + 1 : Nat) : Int), ((i + 1 : Nat) : Int), true) := by
  unfold p_ext_next
  have h1 : ((48862 : Int) == 48862) = true := rfl
  have hb := b.2
  have ha2 := a.2
  rw [h1, cond_true, ix_at h, Option.bind_some, Option.bind_some, nib_div, nib_and]
  have e1 : (((a.1 : Nat) : Int) != 0) = true := by simp; omega
  have e2 : (((a.1 : Nat) : Int) != 15) = true := by simp; omega
  rw [e1, cond_true, Option.bind_some, e2, wrap_i64 (n := (b.1 : Int)) (by omega) (by omega), wrap_i64 (n := (b.1 : Int) + 1) (by omega) (by omega), wrap_i64 (n := (i : Int) + 1) (by omega) (by omega)]
  rfl
theorem next_two {xs : List Int} {i : Nat} {a n : Int} (h : xs[i]? = some a) (h' : xs[i + 1]? = some n) (ha : 0 ≤ a ∧ a < 256) (hn : 0 ≤ n ∧ n < 256) (hi : xs.length < 2 ^ 39) : p_ext_next 4096 xs (i : Int) = some (a, n, ((i + 2 : Nat) : Int), true) := by
  have hlt := (List.getElem?_eq_some_iff.1 h').1
  unfold p_ext_next
  have h1 : ((4096 : Int) == 48862) = false := rfl
  have e1 : IntKind.wrap .i64 ((i : Int) + 1) = ((i + 1 : Nat) : Int) := by rw [wrap_i64 (by omega) (by omega)]; rfl
  have e2 : IntKind.wrap .i64 ((i : Int) + 2) = ((i + 2 : Nat) : Int) := by rw [wrap_i64 (by omega) (by omega)]; rfl
  have e3 : decide (((i + 1 : Nat) : Int) ≥ (xs.length : Int)) = false := by simp; omega
  rw [h1, cond_false, e1, e3, cond_false, ix_at h, Option.bind_some, ix_at h', Option.bind_some, e2, wrap_i64 (n := a) (by omega) (by omega), wrap_i64 (n := n) (by omega) (by omega)]
end Go.Ev
namespace Go.Ev
theorem cut_ok {xs : List Int} {a n : Nat} (h : a + n ≤ xs.length) (hl : xs.length < 2 ^ 39) : p_octet_Cut xs (a : Int) (n : Int) = some ((xs.drop a).take n, true) := by
  unfold p_octet_Cut
  have e1 : decide (((a : Nat) : Int) < 0) = false := by simp
  have e2 : decide (((n : Nat) : Int) < 0) = false := by simp
  have e3 : decide (((a : Nat) : Int) > (xs.length : Int)) = false := by simp; omega
  have e4 : decide (((n : Nat) : Int) > IntKind.wrap .i64 ((xs.length : Int) - (a : Int))) = false := by
    rw [wrap_i64 (by omega) (by omega)]; simp; omega
  have e5 : IntKind.wrap .i64 ((a : Int) + (n : Int)) = ((a + n : Nat) : Int) := by rw [wrap_i64 (by omega) (by omega)]; rfl
  simp only [e1, e2, e3, e4, e5, cond_false, Option.bind_some, sub_eq h]
  rw [clone_eq (by decide) (by rw [List.length_take, List.length_drop]; omega)]
  rfl
theorem cut_no {xs : List Int} {a n : Nat} (h : xs.length < a + n) (hl : xs.length < 2 ^ 39) : p_octet_Cut xs (a : Int) (n : Int) = some ([], false) := by
  unfold p_octet_Cut
  have e1 : decide (((a : Nat) : Int) < 0) = false := by simp
  have e2 : decide (((n : Nat) : Int) < 0) = false := by simp
  simp only [e1, e2, cond_false, Option.bind_some]
  by_cases h3 : xs.length < a
  · have e3 : decide (((a : Nat) : Int) > (xs.length : Int)) = true := by simp; omega
    simp only [e3, cond_true, Option.bind_some]
  · have e3 : decide (((a : Nat) : Int) > (xs.length : Int)) = false := by simp; omega
    have e4 : decide (((n : Nat) : Int) > IntKind.wrap .i64 ((xs.length : Int) - (a : Int))) = true := by
      rw [wrap_i64 (by omega) (by omega)]; simp; omega
    simp only [e3, e4, cond_true, cond_false, Option.bind_some]
end Go.Ev
/- Equations, printed by tracer2.py. -/
namespace Go.Ev
open Go.Proofs
set_option linter.unusedVariables false
set_option maxRecDepth 100000
-- 22 limelight/ext.Bytes
noncomputable def ext_Bytes_c0 : Code := (codeAt (bodyOf Try.f22) [1, 1, 1, 0, 1, 0, 0])
def ext_Bytes_l0 : Lv := ⟨64, 48, [(1, 64)]⟩
noncomputable def ext_Bytes_k0 (rec : CallF) (loop : LoopV) (σ : Stamp) : Exit → Env → H → Option (List C × H) := (kBlock 1 (kSeq G rec loop (codeAt (bodyOf Try.f22) [1, 1, 1, 1]) ⟨48, 48, []⟩ (1 :: 1 :: 1 :: 0 :: σ) (finC G true Try.f22 (1 :: σ))))
theorem ext_Bytes_entry (rec : CallF) (loop : LoopV) (σ : Stamp) (x0 : Int) (x1 : V) (h : H) : cvBody G rec loop 22 σ [(.p (.int .u16 x0)), x1] h =
 (bif x0 != 48862 then (some (x0 != 4096)) else (some false)).bind fun b1 =>
 bif b1 then (
 fin true σ (List.replicate 61 [] :: h) [(.p (.slice .none 0 0)), (.p (.int .i64 1))])
 else (
 (lenO x1).bind fun t2 =>
 (castI .i64 t2).bind fun n3 =>
 bif decide (n3 > 8) then (
 fin true σ (List.replicate 61 [] :: h) [(.p (.slice .none 0 0)), (.p (.int .i64 3))])
 else (
 (lenO x1).bind fun t4 =>
 (castI .i64 t4).bind fun n5 =>
 (loop ext_Bytes_c0 ext_Bytes_l0 (1 :: 0 :: 1 :: 1 :: 1 :: 0 :: σ) (envL [(0, (.p (.int .u16 x0))), (6, (.p (.slice .none 0 0))), (20, x1), (21, (.p (.int .i64 n5))), (22, (.p (.int .i64 0)))]) (List.replicate 61 [] :: h)).bind fun r6 => ext_Bytes_k0 rec loop σ r6.1 r6.2.1 r6.2.2)) := by kernel_rfl
theorem ext_Bytes_r0 (rec : CallF) (loop : LoopV) (σ : Stamp) (x0 : Int) (x6 : V) (x20 : V) (x21 : Int) (x22 : Int) (h : H) : cvRound G rec loop ext_Bytes_c0 ext_Bytes_l0 σ (envL [(0, (.p (.int .u16 x0))), (6, x6), (20, x20), (21, (.p (.int .i64 x21))), (22, (.p (.int .i64 x22)))]) h =
 bif decide (x22 < x21) then (
 (iS 2 x20 x22).bind fun t7 =>
 (ldO true 2 h t7).bind fun t8 =>
 (some (alO [.p (.int .i64 0), .p (.slice none 0 0)] (2 :: 0 :: 0 :: 1 :: 1 :: 0 :: σ) 8 h)).bind fun q9 =>
 ((stO false 2 (3 :: 0 :: 0 :: 1 :: 1 :: 0 :: σ) q9.2 q9.1 t8).map fun h => (udf, h)).bind fun q10 =>
 (ldO true 2 q10.2 q9.1).bind fun t11 =>
 (callO rec 56 (2 :: 0 :: 0 :: 1 :: 0 :: 1 :: 1 :: 0 :: σ) [(.p (.int .u16 x0)), t11] q10.2 (some 28)).bind fun q12 =>
 (asB q12.1).bind fun b13 =>
 bif !b13 then (
 some (.ret, (envL [(4, (.p (.slice .none 0 0))), (5, (.p (.int .i64 1)))]), q12.2))
 else (
 bif x0 == 48862 then (
 (fA q9.1 0).bind fun t14 =>
 (ldO false 1 q12.2 t14).bind fun t15 =>
 (castI .i64 t15).bind fun n16 =>
 (fA q9.1 1).bind fun t17 =>
 (ldO false 1 q12.2 t17).bind fun t18 =>
 (lenO t18).bind fun t19 =>
 (castI .i64 t19).bind fun n20 =>
 (buildSliceV Try.prog 32 1 [(0, (.p (.int .u8 (IntKind.wrap .u8 (intBits .or .i64 (IntKind.wrap .i64 (n16 * 2 ^ 4)) (IntKind.wrap .i64 (n20 - 1)))))))]).bind fun t21 =>
 (apO true 1 1 (11 :: 1 :: 0 :: 1 :: 1 :: 0 :: 1 :: 1 :: 0 :: σ) 43 q12.2 x6 t21).bind fun q22 =>
 (fA q9.1 1).bind fun t23 =>
 (ldO false 1 q22.2 t23).bind fun t24 =>
 (apO true 1 1 (3 :: 1 :: 1 :: 1 :: 0 :: 1 :: 1 :: 0 :: σ) 57 q22.2 q22.1 t24).bind fun q25 =>
 loop ext_Bytes_c0 ext_Bytes_l0 (1 :: σ) (envL [(0, (.p (.int .u16 x0))), (6, q25.1), (20, x20), (21, (.p (.int .i64 x21))), (22, (.p (.int .i64 (IntKind.wrap .i64 (x22 + 1)))))]) q25.2)
 else (
 (fA q9.1 0).bind fun t26 =>
 (ldO false 1 q12.2 t26).bind fun t27 =>
 (castI .i64 t27).bind fun n28 =>
 (fA q9.1 1).bind fun t29 =>
 (ldO false 1 q12.2 t29).bind fun t30 =>
 (lenO t30).bind fun t31 =>
 (castI .i64 t31).bind fun n32 =>
 (buildSliceV Try.prog 32 2 [(0, (.p (.int .u8 (IntKind.wrap .u8 n28)))), (1, (.p (.int .u8 (IntKind.wrap .u8 n32))))]).bind fun t33 =>
 (apO true 1 1 (9 :: 1 :: 0 :: 1 :: 1 :: 0 :: 1 :: 1 :: 0 :: σ) 53 q12.2 x6 t33).bind fun q34 =>
 (fA q9.1 1).bind fun t35 =>
 (ldO false 1 q34.2 t35).bind fun t36 =>
 (apO true 1 1 (3 :: 1 :: 1 :: 1 :: 0 :: 1 :: 1 :: 0 :: σ) 57 q34.2 q34.1 t36).bind fun q37 =>
 loop ext_Bytes_c0 ext_Bytes_l0 (1 :: σ) (envL [(0, (.p (.int .u16 x0))), (6, q37.1), (20, x20), (21, (.p (.int .i64 x21))), (22, (.p (.int .i64 (IntKind.wrap .i64 (x22 + 1)))))]) q37.2)))
 else (
 some ((.exit 1), (envL [(6, x6)]), h)) := by kernel_rfl
theorem ext_Bytes_a0_1 (rec : CallF) (loop : LoopV) (σ : Stamp) (x6 : V) (h : H) : ext_Bytes_k0 rec loop σ (.exit 1) (envL [(6, x6)]) h =
 (callO rec 57 (1 :: 0 :: 1 :: 1 :: 1 :: 1 :: 0 :: σ) [x6, (.p (.int .i64 4))] h (some 60)).bind fun q38 =>
 fin true σ q38.2 [q38.1, (.p (.int .i64 0))] := by kernel_rfl
theorem ext_Bytes_a0_ret (rec : CallF) (loop : LoopV) (σ : Stamp) (x4 : V) (x5 : Int) (h : H) : ext_Bytes_k0 rec loop σ .ret (envL [(4, x4), (5, (.p (.int .i64 x5)))]) h =
 fin true σ h [x4, (.p (.int .i64 x5))] := by kernel_rfl
end Go.Ev
/- Equations, printed by tracer2.py. -/
namespace Go.Ev
open Go.Proofs
set_option linter.unusedVariables false
set_option maxRecDepth 100000
-- 56 limelight/ext.right
theorem ext_right_entry (rec : CallF) (loop : LoopV) (σ : Stamp) (x0 : Int) (x1 : V) (h : H) : cvBody G rec loop 56 σ [(.p (.int .u16 x0)), x1] h =
 (boxO false (0 :: 0 :: 0 :: σ) 3 (List.replicate 41 [] :: h) x1).bind fun q1 =>
 bif x0 == 48862 then (
 (fA q1.1 0).bind fun t2 =>
 (ldO false 1 q1.2 t2).bind fun t3 =>
 (castI .i64 t3).bind fun n4 =>
 (bif decide (n4 ≥ 1) then ((fA q1.1 0).bind fun t5 =>
 (ldO false 1 q1.2 t5).bind fun t6 =>
 (castI .i64 t6).bind fun n7 =>
 some (decide (n7 ≤ 14))) else (some false)).bind fun b8 =>
 (bif b8 then ((fA q1.1 1).bind fun t9 =>
 (ldO false 1 q1.2 t9).bind fun t10 =>
 (lenO t10).bind fun t11 =>
 (castI .i64 t11).bind fun n12 =>
 some (decide (n12 ≥ 1))) else (some false)).bind fun b13 =>
 (bif b13 then ((fA q1.1 1).bind fun t14 =>
 (ldO false 1 q1.2 t14).bind fun t15 =>
 (lenO t15).bind fun t16 =>
 (castI .i64 t16).bind fun n17 =>
 some (decide (n17 ≤ 16))) else (some false)).bind fun b18 =>
 fin false σ q1.2 [(.p (.bool b18))])
 else (
 (fA q1.1 0).bind fun t19 =>
 (ldO false 1 q1.2 t19).bind fun t20 =>
 (castI .i64 t20).bind fun n21 =>
 (bif decide (n21 ≥ 1) then ((fA q1.1 0).bind fun t22 =>
 (ldO false 1 q1.2 t22).bind fun t23 =>
 (castI .i64 t23).bind fun n24 =>
 some (decide (n24 ≤ 255))) else (some false)).bind fun b25 =>
 (bif b25 then ((fA q1.1 1).bind fun t26 =>
 (ldO false 1 q1.2 t26).bind fun t27 =>
 (lenO t27).bind fun t28 =>
 (castI .i64 t28).bind fun n29 =>
 some (decide (n29 ≤ 255))) else (some false)).bind fun b30 =>
 fin false σ q1.2 [(.p (.bool b30))]) := by kernel_rfl
end Go.Ev
/- Lifted by lift.py: ext_right as a plain function. -/
namespace Go.Ev
open Go.Proofs
set_option linter.unusedVariables false
set_option linter.unusedSimpArgs false
set_option maxRecDepth 100000
def p_ext_right (x0 : Int) (x1 : T_api_Elem) : Option (Bool) :=
bif x0 == 48862 then (
(bif decide (x1.ID ≥ 1) then (some (decide (x1.ID ≤ 14))) else (some false)).bind fun b7 =>
(bif b7 then (some (decide (((x1.Data.length : Int)) ≥ 1))) else (some false)).bind fun b11 =>
(bif b11 then (some (decide (((x1.Data.length : Int)) ≤ 16))) else (some false)).bind fun b15 =>
some (b15))
else (
(bif decide (x1.ID ≥ 1) then (some (decide (x1.ID ≤ 255))) else (some false)).bind fun b19 =>
(bif b19 then (some (decide (((x1.Data.length : Int)) ≤ 255))) else (some false)).bind fun b23 =>
some (b23))
theorem ext_right_ok {h : H} {σ : Stamp} (x0 : Int) (x1 : T_api_Elem) {u1 : List V} (hu1 : dT_api_Elem.R x1 u1) : Sim (p_ext_right x0 x1) (ev G X0 56 σ [(.p (.int .u16 x0)), (.agg u1)] h) (fun r s => s = ([.v (.p (.bool r))], h)) := by
  refine Sim.ev rfl (Sim.ext (ext_right_entry _ _ _ _ _ _) ?_)
  rw [p_ext_right]
  obtain ⟨v1, rfl, h2⟩ := dT_api_Elem.inv hu1
  have S0 : Fm 41 h [] [] [] (List.replicate 41 [] :: h) := Fm.start0
  obtain ⟨H3, e4, S5⟩ := S0.box (own := false) (d := 3) (s := (0 :: 0 :: 0 :: σ)) (xs := [(.p (.int .i64 x1.ID)), v1]) (stills_cons (still_int _ _) (stills_cons h2.still stills_nil)) (by decide) rfl
  refine Sim.op (e4) ?_
  refine Sim.cd (fun hc => ?_) (fun hc => ?_)
  · refine Sim.op (fA_ref _ _ _) ?_
    refine Sim.op ((S5.atG (i := 0) rfl).ld (j := 0) rfl) ?_
    refine Sim.op (castI_p _ _) ?_
    refine Sim.ch (P := fun r y => r = y) ?_ (fun b7 y8 h9 h10 => ?_)
    · refine Sim.cd (fun hc => ?_) (fun hc => ?_)
      · refine Sim.op (fA_ref _ _ _) ?_
        refine Sim.op ((S5.atG (i := 0) rfl).ld (j := 0) rfl) ?_
        refine Sim.op (castI_p _ _) ?_
        exact Sim.ret rfl rfl
      · exact Sim.ret rfl rfl
    subst h10
    refine Sim.ch (P := fun r y => r = y) ?_ (fun b11 y12 h13 h14 => ?_)
    · refine Sim.cd (fun hc => ?_) (fun hc => ?_)
      · refine Sim.op (fA_ref _ _ _) ?_
        refine Sim.op ((S5.atG (i := 0) rfl).ld (j := 1) rfl) ?_
        refine Sim.op ((h2.h H3).len) ?_
        refine Sim.op (castI_p _ _) ?_
        exact Sim.ret rfl rfl
      · exact Sim.ret rfl rfl
    subst h14
    refine Sim.ch (P := fun r y => r = y) ?_ (fun b15 y16 h17 h18 => ?_)
    · refine Sim.cd (fun hc => ?_) (fun hc => ?_)
      · refine Sim.op (fA_ref _ _ _) ?_
        refine Sim.op ((S5.atG (i := 0) rfl).ld (j := 1) rfl) ?_
        refine Sim.op ((h2.h H3).len) ?_
        refine Sim.op (castI_p _ _) ?_
        exact Sim.ret rfl rfl
      · exact Sim.ret rfl rfl
    subst h18
    exact Sim.fin (S5.finN (lv_cons (still_bool _).lv lv_nil)) rfl
  · refine Sim.op (fA_ref _ _ _) ?_
    refine Sim.op ((S5.atG (i := 0) rfl).ld (j := 0) rfl) ?_
    refine Sim.op (castI_p _ _) ?_
    refine Sim.ch (P := fun r y => r = y) ?_ (fun b19 y20 h21 h22 => ?_)
    · refine Sim.cd (fun hc => ?_) (fun hc => ?_)
      · refine Sim.op (fA_ref _ _ _) ?_
        refine Sim.op ((S5.atG (i := 0) rfl).ld (j := 0) rfl) ?_
        refine Sim.op (castI_p _ _) ?_
        exact Sim.ret rfl rfl
      · exact Sim.ret rfl rfl
    subst h22
    refine Sim.ch (P := fun r y => r = y) ?_ (fun b23 y24 h25 h26 => ?_)
    · refine Sim.cd (fun hc => ?_) (fun hc => ?_)
      · refine Sim.op (fA_ref _ _ _) ?_
        refine Sim.op ((S5.atG (i := 0) rfl).ld (j := 1) rfl) ?_
        refine Sim.op ((h2.h H3).len) ?_
        refine Sim.op (castI_p _ _) ?_
        exact Sim.ret rfl rfl
      · exact Sim.ret rfl rfl
    subst h26
    exact Sim.fin (S5.finN (lv_cons (still_bool _).lv lv_nil)) rfl
end Go.Ev
/- Equations, printed by tracer2.py. -/
namespace Go.Ev
open Go.Proofs
set_option linter.unusedVariables false
set_option maxRecDepth 100000
-- 57 limelight/octet.Pad
noncomputable def octet_Pad_c0 : Code := (codeAt (bodyOf Try.f57) [1, 1, 1, 0, 0, 0])
def octet_Pad_l0 : Lv := ⟨32, 16, [(0, 32)]⟩
noncomputable def octet_Pad_k0 (rec : CallF) (loop : LoopV) (σ : Stamp) : Exit → Env → H → Option (List C × H) := (kBlock 0 (kSeq G rec loop (codeAt (bodyOf Try.f57) [1, 1, 1, 1]) ⟨16, 16, []⟩ (1 :: 1 :: 1 :: 0 :: σ) (finC G false Try.f57 (1 :: σ))))
theorem octet_Pad_entry (rec : CallF) (loop : LoopV) (σ : Stamp) (x0 : V) (x1 : Int) (h : H) : cvBody G rec loop 57 σ [x0, (.p (.int .i64 x1))] h =
 (callO rec 63 (1 :: 0 :: 1 :: 0 :: σ) [x0] (List.replicate 25 [] :: h) (some 7)).bind fun q1 =>
 (bif decide (x1 < 1) then (some true) else (some (decide (x1 > 64)))).bind fun b2 =>
 bif b2 then (
 fin false σ q1.2 [q1.1])
 else (
 (loop octet_Pad_c0 octet_Pad_l0 (0 :: 1 :: 1 :: 1 :: 0 :: σ) (envL [(1, (.p (.int .i64 x1))), (5, q1.1)]) q1.2).bind fun r3 => octet_Pad_k0 rec loop σ r3.1 r3.2.1 r3.2.2) := by kernel_rfl
theorem octet_Pad_r0 (rec : CallF) (loop : LoopV) (σ : Stamp) (x1 : Int) (x5 : V) (h : H) : cvRound G rec loop octet_Pad_c0 octet_Pad_l0 σ (envL [(1, (.p (.int .i64 x1))), (5, x5)]) h =
 (lenO x5).bind fun t4 =>
 (castI .i64 t4).bind fun n5 =>
 (remI .i64 n5 x1).bind fun t6 =>
 (castI .i64 t6).bind fun n7 =>
 bif n7 != 0 then (
 (buildSliceV Try.prog 32 1 [(0, (.p (.int .u8 0)))]).bind fun t8 =>
 (apO true 1 1 (2 :: 1 :: 0 :: σ) 22 h x5 t8).bind fun q9 =>
 loop octet_Pad_c0 octet_Pad_l0 (1 :: σ) (envL [(1, (.p (.int .i64 x1))), (5, q9.1)]) q9.2)
 else (
 some ((.exit 0), (envL [(5, x5)]), h)) := by kernel_rfl
theorem octet_Pad_a0_0 (rec : CallF) (loop : LoopV) (σ : Stamp) (x5 : V) (h : H) : octet_Pad_k0 rec loop σ (.exit 0) (envL [(5, x5)]) h =
 (callO rec 102 (1 :: 0 :: 1 :: 1 :: 1 :: 1 :: 0 :: σ) [x5] h (some 24)).bind fun q10 =>
 fin false σ q10.2 [q10.1] := by kernel_rfl
end Go.Ev
/- Equations, printed by tracer2.py. -/
namespace Go.Ev
open Go.Proofs
set_option linter.unusedVariables false
set_option maxRecDepth 100000
-- 102 slices.Clip[[]byte,byte]
theorem slices_Clip_Lbyte_byte_entry (rec : CallF) (loop : LoopV) (σ : Stamp) (x0 : V) (h : H) : cvBody G rec loop 102 σ [x0] h =
 (lenO x0).bind fun t1 =>
 (castI .i64 t1).bind fun n2 =>
 (lenO x0).bind fun t3 =>
 (castI .i64 t3).bind fun n4 =>
 (slS 1 x0 none (some n2) (some n4)).bind fun t5 =>
 fin false σ (List.replicate 9 [] :: h) [t5] := by kernel_rfl
end Go.Ev
/- Lifted by lift.py: octet_Pad as a plain function. -/
namespace Go.Ev
open Go.Proofs
set_option linter.unusedVariables false
set_option linter.unusedSimpArgs false
set_option maxRecDepth 100000
def p_octet_Pad_l0 {β : Type} (k : Nat) (kE0 : (List Int) → Option β) (x1 : Int) (x5 : (List Int)) : Option β := match k with
| 0 => none
| k + 1 =>
(remP ((x5.length : Int)) x1).bind fun n30 =>
bif n30 != 0 then (
(ap 1 x5 ([0])).bind fun a33 =>
p_octet_Pad_l0 k kE0 x1 a33)
else (
kE0 x5)
def p_octet_Pad (k : Nat) (x0 : (List Int)) (x1 : Int) : Option ((List Int)) :=
(p_clone 1 x0).bind fun r1 =>
(bif decide (x1 < 1) then (some true) else (some (decide (x1 > 64)))).bind fun b15 =>
bif b15 then (
some (r1))
else (
p_octet_Pad_l0 k (fun r43_5 =>
some (r43_5)) x1 r1)
theorem octet_Pad_l0_ok {h : H}  {β α : Type} {Q : β → α → Prop} {K : Exit × Env × H → Option α} {kE0 : (List Int) → Option β} (hE0 : ∀ (q5 : (List Int)) (v41 : V) (H39 : Go.Ev.H) (_ : Fm 25 h [] [] [⟨[7, 22], v41, (dI .u8), q5⟩] H39), Sim (kE0 q5) (K ((.exit 0), (envL [(5, v41)]), H39)) Q) (k : Nat) : ∀ (x1 : Int) (x5 : (List Int)) (v28 : V) (H26 : Go.Ev.H) (_ : Fm 25 h [] [] [⟨[7, 22], v28, (dI .u8), x5⟩] H26) {σ : Stamp}, Sim (p_octet_Pad_l0 k kE0 x1 x5) ((cvL G X0 octet_Pad_c0 octet_Pad_l0 σ (envL [(1, (.p (.int .i64 x1))), (5, v28)]) H26).bind K) Q := by
  induction k with
  | zero => intros; exact Sim.no
  | succ k ih =>
    intro x1 x5 v28 H26 S27 σ
    rw [p_octet_Pad_l0]
    refine Sim.round (Sim.ext (octet_Pad_r0 _ _ _ _ _ _) ?_)
    refine Sim.op ((S27.sl (i := 0) rfl).len) ?_
    refine Sim.op (castI_p _ _) ?_
    refine Sim.bd fun n30 h31 => ?_
    refine Sim.op (remP_ok h31) ?_
    refine Sim.op (castI_p _ _) ?_
    refine Sim.cd (fun hc => ?_) (fun hc => ?_)
    · have h32 : SlF (dI .u8) [0] (.fz [(.p (.int .u8 0))] 1 1 true) := SlF.lit (cs := [(.p (.int .u8 0))]) (RL.cons (show (dI .u8).R 0 [(.p (.int .u8 0))] from rfl) RL.nil) rfl rfl true
      refine Sim.op (bldS (pt_cons rfl pt_nil) (by kernel_rfl : _ = some (.fz [(.p (.int .u8 0))] 1 1 true))) ?_
      refine Sim.bd fun a33 h34 => ?_
      obtain ⟨v35, H36, e37, S38⟩ := S27.app (i := 0) (d := 22) (e := 1) (own := true) (σ := (2 :: 1 :: 0 :: σ)) rfl (h32.h H26).y h34 rfl (by decide) (by decide) rfl
      refine Sim.op (e37) ?_
      exact ih x1 a33 v35 H36 (S38.wk2 all_nil (all_cons ⟨[22, 7, 22], by simp, at_mem 0 rfl⟩ all_nil))
    · exact hE0 x5 v28 H26 (S27.wk2 all_nil (all_cons ⟨[7, 22], by simp, at_mem 0 rfl⟩ all_nil))
theorem octet_Pad_ok (k : Nat) {h : H} {σ : Stamp} (x0 : List Int) {u0 : V} (hu0 : SlH h (dI .u8) x0 u0) (x1 : Int) : Sim (p_octet_Pad k x0 x1) (ev G X0 57 σ [u0, (.p (.int .i64 x1))] h) (fun r s => ∃ (c0 : C), ∃ (a0 : List V), OwnS c0 (dI .u8).sz r.length a0 ∧ (dI .u8).L r a0 ∧ s = ([c0], h)) := by
  refine Sim.ev rfl (Sim.ext (octet_Pad_entry _ _ _ _ _ _) ?_)
  rw [p_octet_Pad]
  have S0 : Fm 25 h [] [] [] (List.replicate 25 [] :: h) := Fm.start0
  refine Sim.call (clone_ok (b := 1) (f := 63) (tt := 5) (e := 1) (τ := fun σ => _ :: _ :: _ :: _ :: _ :: σ) (fun x h => slices_Clone_Lbyte_byte_entry _ _ _ x h) (S0.low hu0) rfl (by decide) (by decide) (by decide) (by kernel_rfl) (by kernel_rfl) rfl) fun r1 cs2 H3 h4 q5 => ?_
  obtain ⟨c6, cs7, h8, h9, q5⟩ := q5
  cases q5
  obtain ⟨v10, H11, e12, S13⟩ := S0.land (dt := (dI .u8)) (d := 7) (e := 0) (n := 0) h8 h9 (by decide) rfl
  erw [e12]
  refine Sim.ch (P := fun r y => r = y) ?_ (fun b15 y16 h17 h18 => ?_)
  · refine Sim.cd (fun hc => ?_) (fun hc => ?_)
    · exact Sim.ret rfl rfl
    · exact Sim.ret rfl rfl
  subst h18
  refine Sim.cd (fun hc => ?_) (fun hc => ?_)
  · obtain ⟨c24, cs25, H19, e20, h22, h23, S21⟩ := S13.expOwn (i := 0) (τ := 0 :: 1 :: σ) rfl rfl rfl
    exact Sim.fin (S21.finE (Ex.st e20 Ex.nil)) ⟨c24, cs25, h22, h23, rfl⟩
  · refine Sim.as (octet_Pad_l0_ok ?_ k x1 r1 v10 H11 (S13.wk2 all_nil (all_cons ⟨[7], by simp, at_mem 0 rfl⟩ all_nil))) 
    · intro r43_5 v46 H44 S45
      refine Sim.ext (octet_Pad_a0_0 _ _ _ _ _) ?_
      obtain ⟨v48, e49, S50⟩ := clip_D (G := G) (X := X0) (i := 0) (f := 102) (fun x h => slices_Clip_Lbyte_byte_entry _ _ _ x h) S45 rfl rfl rfl
      refine Sim.op (e49) ?_
      obtain ⟨c56, cs57, H51, e52, h54, h55, S53⟩ := S50.expOwn (i := 0) (τ := 0 :: 1 :: σ) rfl rfl rfl
      exact Sim.fin (S53.finE (Ex.st e52 Ex.nil)) ⟨c56, cs57, h54, h55, rfl⟩
end Go.Ev
