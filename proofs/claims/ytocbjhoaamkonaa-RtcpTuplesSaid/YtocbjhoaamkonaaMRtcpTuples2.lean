/- A part of the proof that follows: Tuples are told as they are, in order, with their owners. -/
import Derived.Test.YtocbjhoaamkonaaMRtcpTuples1
import Derived.Test.YtocbjhoaamkonaaRows
import Derived.ProofKit
/- Runs against plain functions: what a plain function answers, a run answers. Plain data in cells. -/
namespace Go.Ev
set_option linter.unusedVariables false
/-- What x answers, y answers too, as Q says. -/
def Sim {β α : Type} (x : Option β) (y : Option α) (Q : β → α → Prop) : Prop := ∀ r, x = some r → ∃ s, y = some s ∧ Q r s
section
variable {β α γ δ ε : Type} {x : Option β} {y : Option α} {Q : β → α → Prop} {K : δ → Option α}
theorem Sim.no : Sim (none : Option β) y Q := fun r h => by cases h
theorem Sim.op {o : Option γ} {v : γ} {g : γ → Option δ} (e : o = some v) (s : Sim x ((g v).bind K) Q) : Sim x ((o.bind g).bind K) Q := by rw [e]; exact s
theorem Sim.bd {X : Option γ} {f : γ → Option β} (s : ∀ a, X = some a → Sim (f a) y Q) : Sim (X.bind f) y Q := by
  intro r hr; obtain ⟨a, h1, h2⟩ := Option.bind_eq_some_iff.1 hr; exact s a h1 r h2
theorem Sim.cd {c : Bool} {a b : Option β} {A B : Option δ} (s : c = true → Sim a (A.bind K) Q) (t : c = false → Sim b (B.bind K) Q) : Sim (bif c then a else b) ((bif c then A else B).bind K) Q := by
  cases c
  · exact t rfl
  · exact s rfl
theorem Sim.cdt {c : Bool} {a : Option β} {A B : Option δ} (h : c = true) (s : Sim a (A.bind K) Q) : Sim a ((bif c then A else B).bind K) Q := by subst h; exact s
theorem Sim.cdf {c : Bool} {a : Option β} {A B : Option δ} (h : c = false) (s : Sim a (B.bind K) Q) : Sim a ((bif c then A else B).bind K) Q := by subst h; exact s
theorem eqT {α : Type} [BEq α] [LawfulBEq α] {x a : α} (h : x = a) : (x == a) = true := beq_iff_eq.2 h
theorem eqF {α : Type} [BEq α] [LawfulBEq α] {x a : α} (h : ¬ x = a) : (x == a) = false := beq_eq_false_iff_ne.2 h
theorem eqO {x a b : Int} (h : x = a) (d : ¬ a = b) : ¬ x = b := fun e => d (h.symm.trans e)
theorem Sim.nd {P : Prop} {Y : Option δ} (p : P) (s : Sim x (Y.bind K) Q) : Sim x ((need P Y).bind K) Q := by rw [need, if_pos p]; exact s
theorem Sim.ch {X : Option γ} {Y : Option ε} {P : γ → ε → Prop} {f : γ → Option β} {g : ε → Option δ} (e : Sim X (Y.bind some) P) (s : ∀ r y, X = some r → P r y → Sim (f r) ((g y).bind K) Q) : Sim (X.bind f) ((Y.bind g).bind K) Q := by
  intro r hr
  obtain ⟨a, h1, h2⟩ := Option.bind_eq_some_iff.1 hr
  obtain ⟨b, q1, q2⟩ := e a h1
  have : Y = some b := by
    cases Y with
    | none => cases q1
    | some y => exact q1
  rw [this]
  exact s a b h1 q2 r h2
/-- A call, by what is told of it. -/
theorem Sim.call {rec : CallF} {f : FuncId} {σ : Stamp} {args : List V} {H : Go.Ev.H} {d : Option Nat} {X : Option γ} {P : γ → List C × Go.Ev.H → Prop} {F : γ → Option β} {g : V × Go.Ev.H → Option δ}
    (hc : Sim X (rec f σ args H) P) (s : ∀ r cs h', X = some r → P r (cs, h') → Sim (F r) ((g (land h' d cs)).bind K) Q) : Sim (X.bind F) (((callO rec f σ args H d).bind g).bind K) Q := by
  intro r hr
  obtain ⟨a, h1, h2⟩ := Option.bind_eq_some_iff.1 hr
  obtain ⟨⟨cs, h'⟩, q1, q2⟩ := hc a h1
  unfold callO
  rw [q1]
  exact s a cs h' h1 q2 r h2
theorem Sim.ret {r : β} {v : δ} {s : α} (h : K v = some s) (q : Q r s) : Sim (some r) ((some v).bind K) Q := fun r' hr => by
  cases hr; exact ⟨s, h, q⟩
theorem Sim.told {r : β} {o : Option α} {s : α} (h : o = some s) {Q : β → α → Prop} (q : Q r s := by exact rfl) : Sim (some r) o Q := fun r' hr => by
  cases hr; exact ⟨s, h, q⟩
theorem Sim.fin {r : β} {o : Option α} {s : α} (h : o = some s) (q : Q r s) : Sim (some r) (o.bind some) Q := fun r' hr => by
  cases hr; exact ⟨s, by rw [h]; rfl, q⟩
theorem Sim.mono {P : β → α → Prop} (h : Sim x y P) (hq : ∀ r s, P r s → Q r s) : Sim x y Q := fun r hr => by
  obtain ⟨s, q1, q2⟩ := h r hr; exact ⟨s, q1, hq r s q2⟩
theorem Sim.ev {G : Cfg} {X : CallF} {f : FuncId} {σ : Stamp} {a : List V} {h : H} {Q : β → List C × H → Prop} (hX : X f σ a h = none) (s : Sim x ((cvBody G (ev G X) (cvL G X) f σ a h).bind some) Q) : Sim x (Ev.ev G X f σ a h) Q := by
  intro r hr
  obtain ⟨s, q1, q2⟩ := s r hr
  exact ⟨s, ev_cv hX (by rw [← q1]; cases cvBody G (Ev.ev G X) (cvL G X) f σ a h <;> rfl), q2⟩
theorem Sim.round {G : Cfg} {X : CallF} {c : Code} {l : Lv} {σ : Stamp} {e : Env} {h : H} {K : Exit × Env × H → Option α} (s : Sim x ((cvRound G (Ev.ev G X) (cvL G X) c l σ e h).bind K) Q) : Sim x ((cvL G X c l σ e h).bind K) Q := by
  intro r hr
  obtain ⟨s, q1, q2⟩ := s r hr
  obtain ⟨b, q3, q4⟩ := Option.bind_eq_some_iff.1 q1
  exact ⟨s, by rw [cvL_round q3]; exact q4, q2⟩
theorem Sim.get {r : β} {y : α} (h : Sim x (Option.some y) Q) (hx : x = Option.some r) : Q r y := by
  obtain ⟨s, q1, q2⟩ := h r hx
  cases q1; exact q2
end

/-! ### Plain data in cells -/
structure Dt (α : Type) where
  sz : Nat
  R : α → List V → Prop
  len : ∀ {a vs}, R a vs → vs.length = sz
  still : ∀ {a vs}, R a vs → Stills vs
def RL {α β : Type} (R : α → List β → Prop) : List α → List β → Prop
  | [], cs => cs = []
  | x :: xs, cs => ∃ a b, cs = a ++ b ∧ R x a ∧ RL R xs b
section
variable {α β : Type} {R : α → List β → Prop} {k : Nat}
theorem RL.length (hk : ∀ {a vs}, R a vs → vs.length = k) : ∀ {xs : List α} {cs : List β}, RL R xs cs → cs.length = xs.length * k
  | [], cs, h => by simp only [RL] at h; simp [h]
  | x :: xs, cs, ⟨a, b, h1, h2, h3⟩ => by rw [h1, List.length_append, hk h2, h3.length hk, List.length_cons, Nat.succ_mul, Nat.add_comm]
theorem app_drop {a b : List β} {m : Nat} (h : a.length = k) : (a ++ b).drop (k + m) = b.drop m := by subst h; rw [← List.drop_drop]; simp
theorem app_take {a b : List β} {m : Nat} (h : a.length = k) : (a ++ b).take (k + m) = a ++ b.take m := by rw [List.take_append, List.take_of_length_le (by omega)]; simp [h]
theorem RL.nil : RL R [] [] := rfl
theorem RL.cons {x : α} {xs : List α} {a b : List β} (h : R x a) (t : RL R xs b) : RL R (x :: xs) (a ++ b) := ⟨a, b, rfl, h, t⟩
theorem RL.one {x : α} {a : List β} (h : R x a) : RL R [x] a := ⟨a, [], by simp, h, rfl⟩
theorem RL.append : ∀ {xs ys : List α} {a b : List β}, RL R xs a → RL R ys b → RL R (xs ++ ys) (a ++ b)
  | [], ys, a, b, h, t => by simp only [RL] at h; subst h; exact t
  | x :: xs, ys, a, b, ⟨u, w, h1, h2, h3⟩, t => ⟨u, w ++ b, by rw [h1, List.append_assoc], h2, h3.append t⟩
theorem RL.drop (hk : ∀ {a vs}, R a vs → vs.length = k) : ∀ {xs : List α} {cs : List β} (i : Nat), RL R xs cs → RL R (xs.drop i) (cs.drop (i * k))
  | [], cs, i, h => by simp only [RL] at h; subst h; simp [RL]
  | x :: xs, cs, 0, h => by simpa using h
  | x :: xs, cs, i + 1, ⟨a, b, h1, h2, h3⟩ => by
    subst h1
    rw [Nat.succ_mul, Nat.add_comm (i * k), app_drop (hk h2)]
    exact h3.drop hk i
theorem RL.take (hk : ∀ {a vs}, R a vs → vs.length = k) : ∀ {xs : List α} {cs : List β} (i : Nat), RL R xs cs → RL R (xs.take i) (cs.take (i * k))
  | [], cs, i, h => by simp only [RL] at h; subst h; simp [RL]
  | x :: xs, cs, 0, h => by simp [RL]
  | x :: xs, cs, i + 1, ⟨a, b, h1, h2, h3⟩ => by
    subst h1
    rw [List.take_succ_cons, Nat.succ_mul, Nat.add_comm (i * k), app_take (hk h2)]
    exact .cons h2 (h3.take hk i)
theorem RL.get (hk : ∀ {a vs}, R a vs → vs.length = k) {xs : List α} {cs : List β} (h : RL R xs cs) {i : Nat} (hi : i < xs.length) : ∃ ws, R xs[i] ws ∧ (cs.drop (i * k)).take k = ws := by
  have h1 := h.drop hk i
  rw [List.drop_eq_getElem_cons hi] at h1
  obtain ⟨a, b, h2, h3, _⟩ := h1
  refine ⟨a, h3, ?_⟩
  rw [h2, List.take_append_of_le_length (by rw [hk h3]; omega), List.take_of_length_le (by rw [hk h3]; omega)]
theorem RL.set (hk : ∀ {a vs}, R a vs → vs.length = k) : ∀ {xs : List α} {cs : List β} {i : Nat} {y : α} {ws : List β}, RL R xs cs → i < xs.length → R y ws → RL R (xs.set i y) (cs.take (i * k) ++ ws ++ cs.drop (i * k + k))
  | [], _, i, _, _, _, hi, _ => by simp at hi
  | x :: xs, cs, 0, y, ws, ⟨a, b, h1, h2, h3⟩, hi, hy => by
    subst h1
    have := app_drop (b := b) (m := 0) (hk h2)
    rw [Nat.zero_mul, List.take_zero, List.nil_append, Nat.zero_add, show k = k + 0 from rfl, this, List.drop_zero]
    exact .cons hy h3
  | x :: xs, cs, i + 1, y, ws, ⟨a, b, h1, h2, h3⟩, hi, hy => by
    subst h1
    have := h3.set hk (by simpa using hi) hy
    rw [List.set_cons_succ]
    have e1 : (a ++ b).take ((i + 1) * k) = a ++ b.take (i * k) := by
      rw [Nat.succ_mul, Nat.add_comm (i * k), app_take (hk h2)]
    have e2 : (a ++ b).drop ((i + 1) * k + k) = b.drop (i * k + k) := by
      rw [Nat.succ_mul, show i * k + k + k = k + (i * k + k) by omega, app_drop (hk h2)]
    rw [e1, e2, List.append_assoc, List.append_assoc]
    exact .cons h2 (by simpa using this)
theorem RL.all {P : β → Prop} (hp : ∀ {a vs}, R a vs → ∀ v ∈ vs, P v) : ∀ {xs : List α} {cs : List β}, RL R xs cs → ∀ v ∈ cs, P v
  | [], cs, h, v, hv => by simp only [RL] at h; subst h; cases hv
  | x :: xs, cs, ⟨a, b, h1, h2, h3⟩, v, hv => by
    subst h1
    rcases List.mem_append.1 hv with h | h
    · exact hp h2 v h
    · exact h3.all hp v h
theorem RL.rep {x : α} {a : List β} (h : R x a) : ∀ n, RL R (List.replicate n x) (rept n a)
  | 0 => rfl
  | n + 1 => .cons h (RL.rep h n)
end
def dI (k : IntKind) : Dt Int := ⟨1, fun n vs => vs = [.p (.int k n)], fun h => by simp [h], fun h => by subst h; exact stills_cons (still_int _ _) stills_nil⟩
def dB : Dt Bool := ⟨1, fun n vs => vs = [.p (.bool n)], fun h => by simp [h], fun h => by subst h; exact stills_cons (still_bool _) stills_nil⟩
def dS : Dt ByteArray := ⟨1, fun n vs => vs = [.p (.string n)], fun h => by simp [h], fun h => by subst h; exact stills_cons (still_str _) stills_nil⟩
def Dt.L {α : Type} (d : Dt α) : List α → List V → Prop := RL d.R
/-- A frozen slice. -/
def SlF {α : Type} (d : Dt α) (xs : List α) (v : V) : Prop := ∃ cs, Fz v d.sz xs.length cs ∧ d.L xs cs
/-- A slice, as memory stands. -/
def SlH {α : Type} (h : H) (d : Dt α) (xs : List α) (v : V) : Prop := ∃ cs, IsSl h v d.sz xs.length cs ∧ d.L xs cs
theorem SlF.h {α : Type} {d : Dt α} {xs : List α} {v : V} (hv : SlF d xs v) (h : H) : SlH h d xs v := by obtain ⟨cs, h1, h2⟩ := hv; exact ⟨cs, h1 h, h2⟩
theorem SlF.still {α : Type} {d : Dt α} {xs : List α} {v : V} (hv : SlF d xs v) : Still v := by obtain ⟨cs, h1, h2⟩ := hv; exact h1.still
def dSl {α : Type} (d : Dt α) : Dt (List α) := ⟨1, fun xs vs => ∃ v, vs = [v] ∧ SlF d xs v, fun ⟨v, h, _⟩ => by simp [h], fun ⟨v, h, hv⟩ => by subst h; exact stills_cons hv.still stills_nil⟩
theorem stills_append {a b : List V} (h : Stills a) (t : Stills b) : Stills (a ++ b) := fun x hx => by
  rcases List.mem_append.1 hx with hx | hx
  · exact h x hx
  · exact t x hx
def dU : Dt Unit := ⟨0, fun _ vs => vs = [], fun h => by simp [h], fun h => by subst h; exact stills_nil⟩
def dP {α β : Type} (a : Dt α) (b : Dt β) : Dt (α × β) := ⟨a.sz + b.sz, fun x vs => ∃ u w, vs = u ++ w ∧ a.R x.1 u ∧ b.R x.2 w, fun ⟨u, w, h, h1, h2⟩ => by rw [h, List.length_append, a.len h1, b.len h2],
  fun ⟨u, w, h, h1, h2⟩ => by subst h; exact stills_append (a.still h1) (b.still h2)⟩
/-- Over another type. -/
def Dt.via {α β : Type} (d : Dt α) (f : β → α) : Dt β := ⟨d.sz, fun x vs => d.R (f x) vs, fun h => d.len h, fun h => d.still h⟩
theorem RL.stills {α : Type} {d : Dt α} {xs : List α} {cs : List V} (h : d.L xs cs) : Stills cs := RL.all (fun h => d.still h) h
/-! ### What plain functions do with lists -/
def ix {α : Type} (xs : List α) (i : Int) : Option α := if 0 ≤ i then xs[i.toNat]? else none
def sub {α : Type} (xs : List α) (a b : Int) : Option (List α) := if 0 ≤ a ∧ a ≤ b ∧ b ≤ xs.length then some ((xs.drop a.toNat).take (b - a).toNat) else none
def ap {α : Type} (b : Nat) (xs ys : List α) : Option (List α) := if (xs.length + ys.length) * b ≤ 140737488355328 ∧ xs.length + ys.length < 2305843009213693952 then some (xs ++ ys) else none
def mk {α : Type} (b : Nat) (z : α) (n : Int) : Option (List α) := if 0 ≤ n ∧ n * b ≤ 140737488355328 ∧ n < 2305843009213693952 then some (List.replicate n.toNat z) else none
theorem ix_some {α : Type} {xs : List α} {i : Int} {x : α} (h : ix xs i = some x) : 0 ≤ i ∧ ∃ hi : i.toNat < xs.length, xs[i.toNat] = x := by
  unfold ix at h
  split at h
  · rename_i h0; exact ⟨h0, List.getElem?_eq_some_iff.1 h⟩
  · cases h
theorem sub_some {α : Type} {xs ys : List α} {a b : Int} (h : sub xs a b = some ys) : (0 ≤ a ∧ a ≤ b ∧ b ≤ xs.length) ∧ ys = (xs.drop a.toNat).take (b - a).toNat := by
  unfold sub at h
  split at h
  · rename_i h0; exact ⟨h0, (Option.some.inj h).symm⟩
  · cases h
theorem ap_some {α : Type} {b : Nat} {xs ys zs : List α} (h : ap b xs ys = some zs) : ((xs.length + ys.length) * b ≤ 2 ^ 47 ∧ xs.length + ys.length < 2 ^ 61) ∧ zs = xs ++ ys := by
  unfold ap at h
  split at h
  · rename_i h0; exact ⟨h0, (Option.some.inj h).symm⟩
  · cases h
theorem mk_some {α : Type} {b : Nat} {z : α} {n : Int} {zs : List α} (h : mk b z n = some zs) : (0 ≤ n ∧ n * b ≤ 2 ^ 47 ∧ n < 2 ^ 61) ∧ zs = List.replicate n.toNat z := by
  unfold mk at h
  split at h
  · rename_i h0; exact ⟨h0, (Option.some.inj h).symm⟩
  · cases h
/-! ### Slices that are read -/
/-- A part of a slice, as a value. -/
def subV (e : Nat) (v : V) (a b : Nat) : V :=
  match v with
  | .sl l off len av esz => .sl l (off + a * esz) (b - a) (av - a) esz
  | .fz cs len esz tight => .fz ((cs.drop (a * esz)).take ((b - a) * esz)) (b - a) esz (tight && b == len)
  | v => v
section
variable {h : H} {v : V} {k n : Nat} {cs : List V}
theorem IsSl.sub (hs : IsSl h v k n cs) {a b : Nat} (hab : a ≤ b) (hb : b ≤ n) : IsSl h (subV k v a b) k (b - a) ((cs.drop (a * k)).take ((b - a) * k)) := by
  have hc := hs.clen
  rcases hs.cases with ⟨rfl, rfl, rfl⟩ | ⟨t, rfl⟩ | ⟨l, off, av, ds, rfl, hn, hl, hv, hav⟩
  · have h1 : a = 0 := by omega
    have h2 : b = 0 := by omega
    subst h1; subst h2
    simpa [subV] using IsSl.nil h k
  · refine Fz.fz ?_ _ h
    rw [List.length_take, List.length_drop, hc, ← Nat.sub_mul]
    exact Nat.min_eq_left (Nat.mul_le_mul_right _ (by omega))
  · have h1 : (b - a) * k = b * k - a * k := Nat.sub_mul _ _ _
    have h2 := Nat.mul_le_mul_right k hab
    have h3 := Nat.mul_le_mul_right k hb
    refine .mk_sl hn (by omega) ?_ (by omega)
    have q := toVs_take (n := (b - a) * k) (toVs_drop (n := a * k) hv)
    rw [List.drop_take, List.drop_drop, List.take_take, Nat.min_eq_left (by omega)] at q
    exact q
theorem IsSl.slS (hs : IsSl h v k n cs) {lo hi : Option Int} {a b : Int} (ha : lo.getD 0 = a) (hb : hi.getD n = b) (h0 : 0 ≤ a) (h1 : a ≤ b) (h2 : b ≤ n) : Go.Ev.slS k v lo hi none = some (subV k v a.toNat b.toNat) := by
  have g : ∀ (o : Option Int) (d lim : Nat) (x : Int), o.getD (d : Int) = x → 0 ≤ x → x ≤ lim → bI o d lim = some x.toNat := fun o d lim x e e0 e1 => by
    cases o with
    | none => simp only [Option.getD_none] at e; subst e; simp [bI]
    | some y => simp only [Option.getD_some] at e; subst e; simp [bI, e0, e1]
  have g0 : ∀ m : Nat, bI none m m = some m := fun m => rfl
  rcases hs.cases with ⟨rfl, rfl, rfl⟩ | ⟨t, rfl⟩ | ⟨l, off, av, ds, rfl, hn, hl, hv, hav⟩
  · have e1 : a = 0 := by omega
    have e2 : b = 0 := by omega
    subst e1; subst e2
    simp only [Go.Ev.slS, g0, Option.bind_some]
    rw [g hi 0 0 0 hb (by omega) (by omega)]
    simp only [Option.bind_some]
    rw [g lo 0 0 0 (by simpa using ha) (by omega) (by omega)]
    rfl
  · simp only [Go.Ev.slS, ne_eq, not_true_eq_false, if_false, g0, Option.bind_some]
    rw [g hi n n b hb (by omega) h2]
    simp only [Option.bind_some]
    rw [g lo 0 b.toNat a (by simpa using ha) h0 (by omega)]
    simp [subV]
  · simp only [Go.Ev.slS, ne_eq, not_true_eq_false, if_false, g0, Option.bind_some]
    rw [g hi n av b hb (by omega) (by omega)]
    simp only [Option.bind_some]
    rw [g lo 0 b.toNat a (by simpa using ha) h0 (by omega)]
    simp [subV]
end
end Go.Ev
/- The memory of one frame, as a list of things that lie in it. -/
namespace Go.Ev
set_option linter.unusedVariables false
set_option linter.unusedSimpArgs false
/-! ### Cells at a place -/
def AtC (h : H) (l : Loc) (off : Nat) (cs : List C) : Prop := ∃ p q, nd h l = some (p ++ cs ++ q) ∧ p.length = off
def ptC (h : H) (l : Loc) (off : Nat) (cs : List C) : H := match nd h l with | some all => setNd h l (all.take off ++ cs ++ all.drop (off + cs.length)) | none => h
section
variable {h : H} {l : Loc} {off : Nat} {cs cs' : List C}
theorem ptC_eq {p q : List C} (hn : nd h l = some (p ++ cs ++ q)) (hp : p.length = off) (hc : cs'.length = cs.length) : ptC h l off cs' = setNd h l (p ++ cs' ++ q) := by
  unfold ptC
  rw [hn]
  simp only
  congr 2
  · rw [List.append_assoc, List.take_append_of_le_length (by omega), List.take_of_length_le (by omega)]
  · rw [hc, List.append_assoc, ← hp, ← List.drop_drop]; simp
theorem AtC.put (ha : AtC h l off cs) (hc : cs'.length = cs.length) : AtC (ptC h l off cs') l off cs' := by
  obtain ⟨p, q, hn, hp⟩ := ha
  rw [ptC_eq hn hp hc]
  exact ⟨p, q, nd_setNd hn _, hp⟩
theorem AtC.put_put (ha : AtC h l off cs) {a b : List C} (hc : a.length = cs.length) (hd : b.length = cs.length) : ptC (ptC h l off a) l off b = ptC h l off b := by
  obtain ⟨p, q, hn, hp⟩ := ha
  have h1 := nd_setNd hn (p ++ a ++ q)
  rw [ptC_eq hn hp hc, ptC_eq h1 hp (by rw [hd, hc]), ptC_eq hn hp hd, setNd_setNd hn]
theorem AtC.same (ha : AtC h l off cs) : ptC h l off cs = h := by
  obtain ⟨p, q, hn, hp⟩ := ha
  rw [ptC_eq hn hp rfl, setNd_same hn]
theorem AtC.up (ha : AtC h l off cs) (L : Layer) : AtC (L :: h) l off cs := by
  obtain ⟨p, q, hn, hp⟩ := ha
  exact ⟨p, q, nd_up hn L, hp⟩
theorem AtC.put_up (ha : AtC h l off cs) (L : Layer) (hc : cs'.length = cs.length) : ptC (L :: h) l off cs' = L :: ptC h l off cs' := by
  obtain ⟨p, q, hn, hp⟩ := ha
  rw [ptC_eq (nd_up hn L) hp hc, ptC_eq hn hp hc, setNd_up hn]
theorem AtC.lt (ha : AtC h l off cs) : l.lvl < h.length := by obtain ⟨p, q, hn, hp⟩ := ha; exact nd_lt hn
theorem ptC_length (h : H) (l : Loc) (off : Nat) (cs : List C) : (ptC h l off cs).length = h.length := by
  unfold ptC; split
  · exact setNd_length ..
  · rfl
def Loc.key (l : Loc) : Nat × Nat × Nat := (l.lvl, l.slot, l.comp)
theorem AtC.frame {l' : Loc} {off' : Nat} {ds : List C} (ha : AtC h l' off' ds) (hk : l.key ≠ l'.key) : AtC (ptC h l off cs) l' off' ds := by
  obtain ⟨p, q, hn, hp⟩ := ha
  unfold ptC; split
  · exact ⟨p, q, by rw [nd_setNd_ne hk, hn], hp⟩
  · exact ⟨p, q, hn, hp⟩
theorem setRoot_comm : ∀ (h : H) (l l' : Loc) (a b : C), l.key ≠ l'.key → setRoot (setRoot h l a) l' b = setRoot (setRoot h l' b) l a
  | [], _, _, _, _, _ => rfl
  | L :: h, l, l', a, b, hk => by
    by_cases h1 : l.lvl = h.length
    · by_cases h2 : l'.lvl = h.length
      · simp only [setRoot, h1, h2, if_true]
        congr 1
        by_cases hs : l.slot = l'.slot
        · have hc : l.comp ≠ l'.comp := fun hc => hk (by simp [Loc.key, h1, h2, hs, hc])
          by_cases hlt : l.slot < L.length
          · rw [← hs, List.getElem?_set_self hlt, List.getElem?_set_self hlt, List.set_set, List.set_set, Option.getD_some, Option.getD_some, List.set_comm _ _ hc]
          · rw [← hs]
            rw [List.set_eq_of_length_le (by simp; omega), List.set_eq_of_length_le (by omega), List.set_eq_of_length_le (by simp; omega), List.set_eq_of_length_le (by omega)]
        · rw [List.getElem?_set_ne hs, List.getElem?_set_ne (Ne.symm hs), List.set_comm _ _ hs]
      · simp [setRoot, h1, h2, setRoot_length]
    · by_cases h2 : l'.lvl = h.length
      · simp [setRoot, h1, h2, setRoot_length]
      · simp only [setRoot, h1, h2, if_false, setRoot_length]
        rw [setRoot_comm h l l' a b hk]
theorem setNd_form {h : H} {l : Loc} {cs : List C} (hn : nd h l = some cs) : ∃ c r, rootC h l = some r ∧ at_ h l = some c ∧ ∀ g x, rootC g l = some r → setNd g l x = setRoot g l (repl r l.s l.hops (c.withNode x)) := by
  obtain ⟨r, hr⟩ := nd_root hn
  unfold nd at hn
  cases ha : at_ h l with
  | none => simp [ha] at hn
  | some c =>
    refine ⟨c, r, hr, rfl, fun g x hg => ?_⟩
    have : at_ g l = some c := by rw [at_, hg]; rw [at_, hr] at ha; exact ha
    simp [setNd, this, setAt, hg]
theorem AtC.comm {l' : Loc} {off' : Nat} {ds a b : List C} (ha : AtC h l off cs) (hb : AtC h l' off' ds) (hk : l.key ≠ l'.key) (hc : a.length = cs.length) (hd : b.length = ds.length) : ptC (ptC h l off a) l' off' b = ptC (ptC h l' off' b) l off a := by
  obtain ⟨p, q, hn, hp⟩ := ha
  obtain ⟨p', q', hn', hp'⟩ := hb
  have k1 := (nd_setNd_ne (h := h) (cs := p ++ a ++ q) hk).trans hn'
  have k2 := (nd_setNd_ne (h := h) (cs := p' ++ b ++ q') (Ne.symm hk)).trans hn
  rw [ptC_eq hn hp hc, ptC_eq k1 hp' hd, ptC_eq hn' hp' hd, ptC_eq k2 hp hc]
  obtain ⟨c1, r1, hr1, _, f1⟩ := setNd_form hn
  obtain ⟨c2, r2, hr2, _, f2⟩ := setNd_form hn'
  rw [f1 h _ hr1, f2 h _ hr2]
  rw [f2 _ _ (by rw [root_setRoot_ne hk]; exact hr2), f1 _ _ (by rw [root_setRoot_ne (Ne.symm hk)]; exact hr1)]
  exact setRoot_comm _ _ _ _ _ hk
end
/-! ### Things of a lower frame -/
structure Rt where
  l : Loc
  off : Nat
  cs : List C
def pts (h : H) : List Rt → H
  | [] => h
  | r :: rs => ptC (pts h rs) r.l r.off r.cs
def BOk (h : H) : List Rt → Prop
  | [] => True
  | r :: rs => (∃ cs, cs.length = r.cs.length ∧ AtC h r.l r.off cs) ∧ (∀ q ∈ rs, q.l.key ≠ r.l.key) ∧ BOk h rs
section
variable {h : H}
theorem pts_length : ∀ (B : List Rt), (pts h B).length = h.length
  | [] => rfl
  | r :: rs => by rw [pts, ptC_length, pts_length rs]
theorem AtC.frames {l : Loc} {off : Nat} {cs : List C} (ha : AtC h l off cs) : ∀ {B : List Rt}, (∀ q ∈ B, q.l.key ≠ l.key) → AtC (pts h B) l off cs
  | [], _ => ha
  | r :: rs, hk => (ha.frames fun q hq => hk q (List.mem_cons_of_mem _ hq)).frame (hk r (List.mem_cons_self ..))
theorem BOk.at : ∀ {B : List Rt} {i : Nat} {r : Rt}, BOk h B → B[i]? = some r → AtC (pts h B) r.l r.off r.cs
  | [], _, _, _, hi => by simp at hi
  | r :: rs, 0, _, ⟨⟨cs, h1, h2⟩, h3, h4⟩, hi => by
    simp only [List.getElem?_cons_zero, Option.some.injEq] at hi; subst hi
    exact (h2.frames h3).put h1.symm
  | r :: rs, i + 1, r', ⟨_, h3, h4⟩, hi => by
    simp only [List.getElem?_cons_succ] at hi
    exact (BOk.at h4 hi).frame (Ne.symm (h3 r' (List.mem_of_getElem? hi)))
theorem BOk.set : ∀ {B : List Rt} {i : Nat} {r : Rt} {cs : List C}, BOk h B → B[i]? = some r → cs.length = r.cs.length → BOk h (B.set i ⟨r.l, r.off, cs⟩)
  | [], _, _, _, _, hi, _ => by simp at hi
  | r :: rs, 0, _, cs, ⟨⟨ds, h1, h2⟩, h3, h4⟩, hi, hc => by
    simp only [List.getElem?_cons_zero, Option.some.injEq] at hi; subst hi
    exact ⟨⟨ds, by simp [h1, hc], h2⟩, h3, h4⟩
  | r :: rs, i + 1, r', cs, ⟨h1, h3, h4⟩, hi, hc => by
    simp only [List.getElem?_cons_succ] at hi
    refine ⟨h1, fun q hq => ?_, h4.set hi hc⟩
    rcases List.mem_or_eq_of_mem_set hq with hq | rfl
    · exact h3 q hq
    · exact h3 r' (List.mem_of_getElem? hi)
theorem BOk.pt : ∀ {B : List Rt} {i : Nat} {r : Rt} {cs : List C}, BOk h B → B[i]? = some r → cs.length = r.cs.length → ptC (pts h B) r.l r.off cs = pts h (B.set i ⟨r.l, r.off, cs⟩)
  | [], _, _, _, _, hi, _ => by simp at hi
  | r :: rs, 0, _, cs, ⟨⟨ds, h1, h2⟩, h3, h4⟩, hi, hc => by
    simp only [List.getElem?_cons_zero, Option.some.injEq] at hi; subst hi
    exact (h2.frames h3).put_put h1.symm (by omega)
  | r :: rs, i + 1, r', cs, ⟨⟨ds, h1, h2⟩, h3, h4⟩, hi, hc => by
    simp only [List.getElem?_cons_succ] at hi
    simp only [pts, List.set_cons_succ]
    rw [(h2.frames h3).comm (h4.at hi) (Ne.symm (h3 r' (List.mem_of_getElem? hi))) h1.symm hc, h4.pt hi hc]
/-- As it was. -/
theorem BOk.same : ∀ {B : List Rt}, (∀ r ∈ B, AtC h r.l r.off r.cs) → pts h B = h
  | [], _ => rfl
  | r :: rs, ha => by rw [pts, BOk.same fun q hq => ha q (List.mem_cons_of_mem _ hq)]; exact (ha r (List.mem_cons_self ..)).same
end
/-! ### Slices that grow -/
def GrowS (D : List Nat) (L : Layer) (n0 : Nat) (v : V) (k n : Nat) (xs : List V) : Prop :=
  (n = 0 ∧ xs = [] ∧ (v = .p (.slice none 0 0) ∨ v = .fz [] 0 k true)) ∨ (xs.length = n * k ∧ ∃ d ∈ D, ∃ s tl, v = .sl ⟨n0, d, 0, s, []⟩ 0 n n k ∧ L[d]? = some (.arr s n k (xs.map .v) :: tl)) ∨ (v = .fz xs n k true ∧ xs.length = n * k ∧ Stills xs ∧ ∃ d ∈ D, 1000000 ≤ d)
section
variable {D : List Nat} {L L' : Layer} {h : H} {n0 : Nat} {v : V} {k n : Nat} {xs : List V}
theorem GrowS.frame (ha : GrowS D L n0 v k n xs) (hL : ∀ d ∈ D, L'[d]? = L[d]?) : GrowS D L' n0 v k n xs := by
  rcases ha with ha | ⟨h2, d, hd, s, tl, rfl, h3⟩ | ha
  · exact .inl ha
  · exact .inr (.inl ⟨h2, d, hd, s, tl, rfl, by rw [hL d hd]; exact h3⟩)
  · exact .inr (.inr ha)
theorem GrowS.sl (ha : GrowS D L h.length v k n xs) : IsSl (L :: h) v k n xs := by
  rcases ha with ⟨rfl, rfl, rfl | rfl⟩ | ⟨h2, d, hd, s, tl, rfl, h3⟩ | ⟨rfl, h2, _⟩
  · exact .nil _ _
  · exact Fz.fz (by simp) _ _
  · exact .mk_sl (nd_arr h3) (by simp [h2]) (by rw [List.drop_zero, List.take_of_length_le (by simp [h2]), toVs_plain]) (Nat.le_refl _)
  · exact Fz.fz h2 _ _
theorem Still.leafs {ys : List V} (h : Stills ys) : ys.all leafV = true := List.all_eq_true.2 fun y hy => (h y hy).leaf
/-- What may be appended: a slice, a text. -/
structure Ys (h : H) (y : V) (k m : Nat) (ys : List V) : Prop where
  len : lenOf y = some m
  cells : cellsOf h y = some ys
  clen : ys.length = m * k
theorem IsSl.ys {h : H} {y : V} {k m : Nat} {ys : List V} (hs : IsSl h y k m ys) : Ys h y k m ys := ⟨hs.len, hs.cells, hs.clen⟩
theorem Ys.none {h : H} {own : Bool} {b d : Nat} {σ : Stamp} {x y : V} {xs : List V} (hy : Ys h y k 0 xs) (hx : isSl x = true) (he : k ≠ 0) : apO own k b σ d h x y = some (x, h) := by
  unfold apO
  rw [hy.len, hy.cells]
  simp only [Option.bind_some]
  rw [if_neg (by have := hy.clen; simp [this, he]), if_pos trivial, if_pos hx]
theorem GrowS.app (ha : GrowS D L h.length v k n xs) {own : Bool} {b d m : Nat} {σ : Stamp} {y : V} {ys : List V} (hd : d < L.length) (hy : Ys (L :: h) y k m ys) (hs : Stills ys) (hk : k ≠ 0) (hb : (n + m) * b ≤ 2 ^ 47) (hb2 : n + m < 2 ^ 61) :
    ∃ v' L', apO own k b σ d (L :: h) v y = some (v', L' :: h) ∧ GrowS (d :: D) L' h.length v' k (n + m) (xs ++ ys) ∧ L'.length = L.length ∧ ∀ j, j ∉ d :: D → L'[j]? = L[j]? := by
  by_cases hm : m = 0
  · subst hm
    have h0 : ys = [] := by have := hy.clen; simpa using this
    subst h0
    have hsl : isSl v = true := by
      rcases ha with ⟨_, _, rfl | rfl⟩ | ⟨_, _, _, _, _, rfl, _⟩ | ⟨rfl, _⟩ <;> rfl
    refine ⟨v, L, hy.none hsl hk, ?_, rfl, fun _ _ => rfl⟩
    rw [List.append_nil, Nat.add_zero]
    rcases ha with ha | ⟨h2, d', hd', r⟩ | ⟨a1, a2, a3, d', hd', a4⟩
    · exact .inl ha
    · exact .inr (.inl ⟨h2, d', List.mem_cons_of_mem _ hd', r⟩)
    · exact .inr (.inr ⟨a1, a2, a3, d', List.mem_cons_of_mem _ hd', a4⟩)
  · have hcl := hy.clen
    have base : ∀ x, apO own k b σ d (L :: h) x y = apTo k b σ d (L :: h) m (ys.map .v) x := fun x => by
      unfold apO
      rw [hy.len, hy.cells]
      simp only [Option.bind_some]
      rw [if_neg (by simp [hcl, hk]), if_neg hm, layCs_still own _ hs]
      rfl
    rcases ha with ⟨rfl, rfl, rfl | rfl⟩ | ⟨h2, d', hd', s, tl, rfl, h3⟩ | ⟨rfl, h2, h3, _⟩
    · refine ⟨_, L.set d [.arr σ m k (ys.map .v)], ?_, .inr (.inl ⟨by simpa using hcl, d, List.mem_cons_self .., σ, [], by rw [Nat.zero_add], by simp [hd]⟩), by simp, fun j hj => ?_⟩
      · rw [base, apTo, if_pos ⟨by simpa using hb, by simpa using hb2⟩]; simp
      · rw [List.getElem?_set_ne (fun e => hj (by rw [← e]; exact List.mem_cons_self ..))]
    · refine ⟨_, L.set d [.arr σ (0 + m) k (ys.map .v)], ?_, .inr (.inl ⟨by simpa using hcl, d, List.mem_cons_self .., σ, [], rfl, by simp [hd]⟩), by simp, fun j hj => ?_⟩
      · rw [base, apTo, if_pos ⟨rfl, rfl, by simp, by simpa using hb, by simpa using hb2, by simp⟩]; simp
      · rw [List.getElem?_set_ne (fun e => hj (by rw [← e]; exact List.mem_cons_self ..))]
    · refine ⟨_, (L.set d' (.dead :: tl)).set d [.arr σ (n + m) k (xs.map .v ++ ys.map .v)], ?_, .inr (.inl ⟨by rw [List.length_append, h2, hcl, Nat.add_mul], d, List.mem_cons_self .., σ, [], rfl, by simp [hd]⟩), by simp, fun j hj => ?_⟩
      · rw [base, apTo, if_neg (by simp), nd_arr h3]
        simp only [Option.bind_some]
        rw [if_neg (by omega), if_pos ⟨trivial, by simpa using h2, hb, hb2⟩, setAt_root h3]
        simp
      · rw [List.getElem?_set_ne (fun e => hj (by rw [← e]; exact List.mem_cons_self ..)), List.getElem?_set_ne (fun e => hj (by rw [← e]; exact List.mem_cons_of_mem _ hd'))]
    · refine ⟨_, L.set d [.arr σ (n + m) k (xs.map .v ++ ys.map .v)], ?_, .inr (.inl ⟨by rw [List.length_append, h2, hcl, Nat.add_mul], d, List.mem_cons_self .., σ, [], rfl, by simp [hd]⟩), by simp, fun j hj => ?_⟩
      · rw [base, apTo, if_pos ⟨rfl, rfl, h2, hb, hb2, Still.leafs h3⟩]; simp
      · rw [List.getElem?_set_ne (fun e => hj (by rw [← e]; exact List.mem_cons_self ..))]
/-- It leaves, frozen. -/
theorem GrowS.frz (ha : GrowS D L h.length v k n xs) (σ : Stamp) : ∃ v', fin true σ (L :: h) [v] = some ([.v v'], h) ∧ Fz v' k n xs := by
  rcases ha with ⟨rfl, rfl, rfl | rfl⟩ | ⟨h2, d', hd', s, tl, rfl, h3⟩ | ⟨rfl, h2, _⟩
  · exact ⟨_, fin_1 still_nilS, .nil k⟩
  · exact ⟨_, fin_1 (by simp), .fz (by simp) _⟩
  · exact ⟨_, fin_frz h3 h2, .fz h2 _⟩
  · exact ⟨_, fin_1 (by simp), .fz h2 _⟩
/-- What a slice's owner has in a cell. -/
def OwnS (c : C) (k n : Nat) (xs : List V) : Prop := xs.length = n * k ∧ ((n = 0 ∧ xs = [] ∧ (c = .v (.p (.slice none 0 0)) ∨ c = .v (.fz [] 0 k true))) ∨ ∃ s, c = .arr s n k (xs.map .v))
def noLit (D : List Nat) : Bool := D.all fun d => decide (d < 1000000)
theorem noLit_no {D : List Nat} (h : noLit D = true) (hd : ∃ d ∈ D, 1000000 ≤ d) : False := by
  obtain ⟨d, h1, h2⟩ := hd
  have := List.all_eq_true.1 h d h1
  simp at this; omega
theorem GrowS.own (ha : GrowS D L h.length v k n xs) (hD : noLit D = true) (σ : Stamp) : ∃ c, fin false σ (L :: h) [v] = some ([c], h) ∧ OwnS c k n xs := by
  rcases ha with ⟨rfl, rfl, rfl | rfl⟩ | ⟨h2, d', hd', s, tl, rfl, h3⟩ | ⟨_, _, _, hd⟩
  · exact ⟨_, fin_1 still_nilS, by simp, .inl ⟨rfl, rfl, .inl rfl⟩⟩
  · exact ⟨_, fin_1 (by simp), by simp, .inl ⟨rfl, rfl, .inr rfl⟩⟩
  · exact ⟨_, fin_arr h3 (by simpa using h2), h2, .inr ⟨s, rfl⟩⟩
  · exact (noLit_no hD hd).elim
theorem OwnS.land {c : C} (ho : OwnS c k n xs) {d : Nat} (hd : d < L.length) :
    ∃ v L', land (L :: h) (some d) [c] = (v, L' :: h) ∧ GrowS [d] L' h.length v k n xs ∧ L'.length = L.length ∧ ∀ j, j ≠ d → L'[j]? = L[j]? := by
  obtain ⟨hl, ⟨rfl, rfl, rfl | rfl⟩ | ⟨s, rfl⟩⟩ := ho
  · exact ⟨_, L, rfl, .inl ⟨rfl, rfl, .inl rfl⟩, rfl, fun _ _ => rfl⟩
  · exact ⟨_, L, rfl, .inl ⟨rfl, rfl, .inr rfl⟩, rfl, fun _ _ => rfl⟩
  · exact ⟨.sl ⟨h.length, d, 0, s, []⟩ 0 n n k, L.set d [.arr s n k (xs.map .v)], by simp [Go.Ev.land, resVs, tupV, allPlain], .inr (.inl ⟨hl, d, List.mem_singleton.2 rfl, s, [], rfl, by simp [hd]⟩), by simp, fun j hj => by rw [List.getElem?_set_ne (Ne.symm hj)]⟩
/-- An element is written. -/
theorem GrowS.set (ha : GrowS D L h.length v k n xs) (hD : noLit D = true) {own : Bool} {σ : Stamp} {j : Nat} {x : V} (hj : j < xs.length) (hx : Still x) :
    ∃ L', stO own 1 σ (L :: h) (adr v j) x = some (L' :: h) ∧ GrowS D L' h.length v k n (xs.set j x) ∧ L'.length = L.length ∧ ∀ j, j ∉ D → L'[j]? = L[j]? := by
  rcases ha with ⟨rfl, rfl, _⟩ | ⟨h2, d', hd', s, tl, rfl, h3⟩ | ⟨_, _, _, hd⟩
  · simp at hj
  · have hlt := (List.getElem?_eq_some_iff.1 h3).1
    refine ⟨L.set d' (.arr s n k ((xs.set j x).map .v) :: tl), ?_, .inr (.inl ⟨by simpa using h2, d', hd', s, tl, rfl, by simp [hlt]⟩), by simp, fun j hj => ?_⟩
    · rw [adr, Nat.zero_add, stO_still hx (nd_arr h3) (by simpa using hj), setNd_arr h3]
      simp [List.map_set]
    · rw [List.getElem?_set_ne (fun e => hj (by rw [← e]; exact hd'))]
  · exact (noLit_no hD hd).elim
/-- A new one, of noughts. -/
theorem GrowS.make {e b d : Nat} {z : List V} {n : Int} {σ : Stamp} (hd : d < L.length) (h0 : 0 ≤ n) (hb : n * b ≤ 2 ^ 47) (hn : n < 2 ^ 62) (hz : z.length = e) (he : e ≠ 0) :
    ∃ v L', mkO e b z σ d (L :: h) n n = some (v, L' :: h) ∧ GrowS [d] L' h.length v e n.toNat (rept n.toNat z) ∧ L'.length = L.length ∧ ∀ j, j ≠ d → L'[j]? = L[j]? := by
  have hr : ∀ m, (rept m z).length = m * e := fun m => by
    induction m with
    | zero => simp [rept]
    | succ m ih => rw [rept, List.length_append, hz, ih, Nat.succ_mul, Nat.add_comm]
  refine ⟨_, _, mkO_ok h0 hb hn hz he, .inr (.inl ⟨hr _, d, List.mem_singleton.2 rfl, σ, [], rfl, by simp [hd]⟩), by simp, fun j hj => ?_⟩
  rw [List.getElem?_set_ne (Ne.symm hj)]
end
end Go.Ev
/- One frame's memory: what its operations come to. -/
namespace Go.Ev
set_option linter.unusedVariables false
set_option linter.unusedSimpArgs false
/-! ### Cells at a place: reads and writes -/
section
variable {h : H} {l : Loc} {off j : Nat} {cs : List C}
theorem AtC.rng (ha : AtC h l off cs) {n : Nat} (hj : j + n ≤ cs.length) : ∃ all, nd h l = some all ∧ Go.Ev.rng all (off + j) n = some ((cs.drop j).take n) := by
  obtain ⟨p, q, hn, hp⟩ := ha
  refine ⟨_, hn, ?_⟩
  unfold Go.Ev.rng
  rw [if_pos (by simp; omega)]
  congr 1
  rw [← List.drop_drop, List.append_assoc, ← hp, List.drop_left, List.drop_append_of_le_length (by omega), List.take_append_of_le_length (by rw [List.length_drop]; omega)]
theorem AtC.ldAgg (ha : AtC h l off cs) {n : Nat} {agg : Bool} {xs : List V} (hj : j + n ≤ cs.length) (hx : toVs l (off + j) ((cs.drop j).take n) = some xs) : ldO agg n h (.ref l (off + j)) = mkV agg xs := by
  obtain ⟨all, h1, h2⟩ := ha.rng hj
  simp only [ldO, h1, h2, Option.bind_some, hx]
theorem drop_one {α : Type} {cs : List α} {j : Nat} {c : α} (hj : cs[j]? = some c) : (cs.drop j).take 1 = [c] := by
  obtain ⟨hlt, he⟩ := List.getElem?_eq_some_iff.1 hj
  rw [List.drop_eq_getElem_cons hlt, he]; rfl
theorem AtC.ldC (ha : AtC h l off cs) {c : C} {x : V} (hj : cs[j]? = some c) (hx : toV l (off + j) c = some x) : ldO false 1 h (.ref l (off + j)) = some x := by
  have hlt := (List.getElem?_eq_some_iff.1 hj).1
  rw [ha.ldAgg (xs := [x]) (by omega) (by rw [drop_one hj]; simp [toVs, hx])]
  rfl
theorem AtC.ld (ha : AtC h l off cs) {x : V} (hj : cs[j]? = some (.v x)) : ldO false 1 h (.ref l (off + j)) = some x := ha.ldC hj rfl
theorem AtC.ldVs (ha : AtC h l off cs) {xs : List V} {n : Nat} (hn : xs.length = n) (hj : (cs.drop j).take n = xs.map .v) (hp : 0 < n) : ldO true n h (.ref l (off + j)) = some (.agg xs) := by
  have : j + n ≤ cs.length := by
    have := congrArg List.length hj
    rw [List.length_take, List.length_drop, List.length_map, hn] at this
    omega
  rw [ha.ldAgg (xs := xs) this (by rw [hj, toVs_plain])]
  rfl
theorem AtC.st (ha : AtC h l off cs) {own : Bool} {σ : Stamp} {x : V} (hx : Still x) (hj : j < cs.length) : stO own 1 σ h (.ref l (off + j)) x = some (ptC h l off (cs.set j (.v x))) := by
  obtain ⟨p, q, hn, hp⟩ := ha
  rw [stO_still hx hn (by simp; omega), ptC_eq hn hp (by simp)]
  congr 2
  rw [List.append_assoc, List.set_append_right _ _ (by omega), List.set_append_left _ _ (by omega), ← List.append_assoc]
  congr 3
  omega
theorem AtC.stVs (ha : AtC h l off cs) {own : Bool} {σ : Stamp} {xs : List V} {n : Nat} (hx : Stills xs) (hn : xs.length = n) (hj : j + n ≤ cs.length) : stO own n σ h (.ref l (off + j)) (.agg xs) = some (ptC h l off (cs.take j ++ xs.map .v ++ cs.drop (j + n))) := by
  subst hn
  obtain ⟨p, q, hn, hp⟩ := ha
  rw [stO_agg hx hn (by simp; omega), ptC_eq hn hp (by simp; omega)]
  congr 2
  rw [List.append_assoc p, List.take_append, List.take_of_length_le (l := p) (by omega), List.drop_append, List.drop_of_length_le (l := p) (by omega), List.nil_append, hp, Nat.add_sub_cancel_left, Nat.add_assoc, Nat.add_sub_cancel_left, List.take_append_of_le_length (by omega), List.drop_append_of_le_length (by omega)]
  simp
theorem AtC.hop (ha : AtC h l off cs) {c : C} {s : Stamp} {ds : List C} (hj : cs[j]? = some c) (hd : c.node s = some ds) : AtC h (l.hop (off + j) s) 0 ds := by
  obtain ⟨p, q, hn, hp⟩ := ha
  have hlt := (List.getElem?_eq_some_iff.1 hj).1
  refine ⟨[], [], ?_, rfl⟩
  rw [nd_in hn (c := c) (ds := ds) _ hd]
  · simp
  · rw [List.append_assoc, List.getElem?_append_right (by omega), show off + j - p.length = j by omega, List.getElem?_append_left hlt, hj]
end

/-! ### Slices that are read, typed -/
section
variable {α : Type} {h : H} {d : Dt α} {xs : List α} {v : V}
/-- What lies at an element's address. -/
structure El (h : H) (v : V) (o : Nat) (ws : List V) : Prop where
  ld : ∀ {j y}, ws[j]? = some y → ldO false 1 h (adr v (o + j)) = some y
  fa : ∀ {j}, j ≤ ws.length → fA (adr v o) j = some (adr v (o + j))
  all : 0 < ws.length → ldO true ws.length h (adr v o) = some (.agg ws)
  ldn : ∀ {j n}, 0 < n → j + n ≤ ws.length → ldO true n h (adr v (o + j)) = some (.agg ((ws.drop j).take n))
theorem SlH.len (hv : SlH h d xs v) : lenO v = some (.p (.int .i64 xs.length)) := by obtain ⟨cs, h1, h2⟩ := hv; exact h1.lenO
theorem SlH.iS (hv : SlH h d xs v) {i : Int} {x : α} (hx : ix xs i = some x) {e : Nat} (he : d.sz = e) : Go.Ev.iS e v i = some (adr v (i.toNat * e)) := by
  subst he
  obtain ⟨cs, h1, h2⟩ := hv
  obtain ⟨h0, hi, _⟩ := ix_some hx
  exact h1.iS h0 (by omega)
theorem SlH.el (hv : SlH h d xs v) {i : Int} {x : α} (hx : ix xs i = some x) {e : Nat} (he : d.sz = e) : ∃ ws, d.R x ws ∧ El h v (i.toNat * e) ws := by
  subst he
  obtain ⟨cs, h1, h2⟩ := hv
  obtain ⟨h0, hi, rfl⟩ := ix_some hx
  obtain ⟨ws, hR, hw⟩ := RL.get (fun h => d.len h) h2 hi
  have hl := d.len hR
  have hc := h1.clen
  have hle : i.toNat * d.sz + d.sz ≤ cs.length := by
    have := Nat.mul_le_mul_right d.sz (Nat.succ_le_of_lt hi)
    rw [Nat.succ_mul] at this; omega
  refine ⟨ws, hR, ⟨fun {j y} hj => ?_, fun {j} hj => ?_, fun hp => ?_, fun {j n} hp hj => ?_⟩⟩
  · have hjl := (List.getElem?_eq_some_iff.1 hj).1
    refine h1.ld1 ?_
    rw [← hw, List.getElem?_take_of_lt (by omega), List.getElem?_drop] at hj
    exact hj
  · by_cases hz : d.sz = 0
    · have : j = 0 := by omega
      subst this
      rcases h1.cases with ⟨rfl, h3, rfl⟩ | ⟨t, rfl⟩ | ⟨l, off, av, ds, rfl, hn, hl, hv, hav⟩
      · omega
      · simp [adr, fA]
      · simp [adr, fA]
    · exact h1.fA (Nat.mul_pos (by omega) (by omega)) (by omega)
  · rw [hl] at hp ⊢
    rw [h1.ld hle hp, hw]; rfl
  · rw [h1.ld (by omega) hp, ← hw, List.drop_take, List.take_take, Nat.min_eq_left (by omega), List.drop_drop]; rfl
theorem SlH.sub (hv : SlH h d xs v) {a b : Int} {ys : List α} (hs : Ev.sub xs a b = some ys) {e : Nat} (he : d.sz = e) : SlH h d ys (subV e v a.toNat b.toNat) := by
  subst he
  obtain ⟨cs, h1, h2⟩ := hv
  obtain ⟨⟨q0, q1, q2⟩, rfl⟩ := sub_some hs
  have e1 : (b - a).toNat = b.toNat - a.toNat := by omega
  refine ⟨_, ?_, (RL.take (fun h => d.len h) (b - a).toNat (RL.drop (fun h => d.len h) a.toNat h2))⟩
  rw [e1]
  have := h1.sub (a := a.toNat) (b := b.toNat) (by omega) (by omega)
  rwa [List.length_take, List.length_drop, Nat.min_eq_left (by omega)]
theorem SlF.sub (hv : SlF d xs v) {a b : Int} {ys : List α} (hs : Ev.sub xs a b = some ys) {e : Nat} (he : d.sz = e) : SlF d ys (subV e v a.toNat b.toNat) := by
  subst he
  obtain ⟨cs, h1, h2⟩ := hv
  obtain ⟨⟨q0, q1, q2⟩, rfl⟩ := sub_some hs
  have e1 : (b - a).toNat = b.toNat - a.toNat := by omega
  refine ⟨_, ?_, (RL.take (fun h => d.len h) (b - a).toNat (RL.drop (fun h => d.len h) a.toNat h2))⟩
  rw [e1]
  intro h
  have := (h1 h).sub (a := a.toNat) (b := b.toNat) (by omega) (by omega)
  rwa [List.length_take, List.length_drop, Nat.min_eq_left (by omega)]
theorem SlH.slS (hv : SlH h d xs v) {a b : Int} {ys : List α} (hs : Ev.sub xs a b = some ys) {lo hi : Option Int} (ha : lo.getD 0 = a) (hb : hi.getD xs.length = b) {e : Nat} (he : d.sz = e) : Go.Ev.slS e v lo hi none = some (subV e v a.toNat b.toNat) := by
  subst he
  obtain ⟨cs, h1, h2⟩ := hv
  obtain ⟨⟨q0, q1, q2⟩, rfl⟩ := sub_some hs
  exact h1.slS ha hb q0 q1 q2
theorem SlF.nil (d : Dt α) : SlF d [] (.p (.slice none 0 0)) := ⟨[], .nil _, rfl⟩
theorem SlF.lit {cs : List V} {n : Nat} (hl : d.L xs cs) (hn : xs.length = n) {e : Nat} (he : d.sz = e) (t : Bool) : SlF d xs (.fz cs n e t) := by
  subst hn; subst he
  exact ⟨cs, .fz (RL.length (fun h => d.len h) hl) t, hl⟩
end

/-! ### A frame -/
structure Gw where
  {α : Type}
  D : List Nat
  v : V
  d : Dt α
  xs : List α
def Gw.ok (g : Gw) (L : Layer) (n0 : Nat) : Prop := ∃ cs, g.d.L g.xs cs ∧ GrowS g.D L n0 g.v g.d.sz g.xs.length cs
def freeG (Γ : List (Nat × Stamp × List C)) (d : Nat) : Bool := Γ.all fun e => e.1 != d
def freeD (Δ : List Gw) (d : Nat) : Bool := Δ.all fun g => !g.D.contains d
def freeL (D : List Nat) (Γ : List (Nat × Stamp × List C)) (Δ : List Gw) : Bool := D.all fun d => freeG Γ d && freeD Δ d
def Fm (N : Nat) (h0 : H) (B : List Rt) (Γ : List (Nat × Stamp × List C)) (Δ : List Gw) (Hp : H) : Prop :=
  ∃ L, Hp = L :: pts h0 B ∧ L.length = N ∧ BOk h0 B ∧ (∀ e ∈ Γ, L[e.1]? = some [.own e.2.1 e.2.2]) ∧ (∀ g ∈ Δ, g.ok L h0.length)
section
variable {N : Nat} {h0 Hp : H} {B : List Rt} {Γ Γ' : List (Nat × Stamp × List C)} {Δ Δ' : List Gw}
theorem Fm.start (hB : BOk h0 B) (hs : ∀ r ∈ B, AtC h0 r.l r.off r.cs) : Fm N h0 B [] [] (List.replicate N [] :: h0) :=
  ⟨List.replicate N [], by rw [BOk.same hs], List.length_replicate, hB, by simp, by simp⟩
theorem Fm.start0 : Fm N h0 [] [] [] (List.replicate N [] :: h0) := Fm.start trivial (by simp)
theorem Fm.wk (S : Fm N h0 B Γ Δ Hp) (hG : ∀ e ∈ Γ', e ∈ Γ) (hD : ∀ g ∈ Δ', g ∈ Δ) : Fm N h0 B Γ' Δ' Hp := by
  obtain ⟨L, h1, h2, h3, h4, h5⟩ := S
  exact ⟨L, h1, h2, h3, fun e he => h4 e (hG e he), fun g hg => h5 g (hD g hg)⟩
theorem Fm.len (S : Fm N h0 B Γ Δ Hp) : Hp.length = h0.length + 1 := by
  obtain ⟨L, rfl, _⟩ := S; simp [pts_length]
theorem Fm.nil (S : Fm N h0 B Γ Δ Hp) {α : Type} (d : Dt α) (D : List Nat) : Fm N h0 B Γ (⟨D, .p (.slice none 0 0), d, []⟩ :: Δ) Hp := by
  obtain ⟨L, h1, h2, h3, h4, h5⟩ := S
  refine ⟨L, h1, h2, h3, h4, fun g hg => ?_⟩
  rcases List.mem_cons.1 hg with rfl | hg
  · exact ⟨[], rfl, .inl ⟨rfl, rfl, .inl rfl⟩⟩
  · exact h5 g hg
theorem Fm.nil' (S : Fm N h0 B Γ Δ Hp) {α : Type} (d : Dt α) (D : List Nat) {e : Nat} (he : d.sz = e) : Fm N h0 B Γ (⟨D, .fz [] 0 e true, d, []⟩ :: Δ) Hp := by
  subst he
  obtain ⟨L, h1, h2, h3, h4, h5⟩ := S
  refine ⟨L, h1, h2, h3, h4, fun g hg => ?_⟩
  rcases List.mem_cons.1 hg with rfl | hg
  · exact ⟨[], rfl, .inl ⟨rfl, rfl, .inr rfl⟩⟩
  · exact h5 g hg
/-- A list that is written out, as one that grows. -/
theorem Fm.lit (S : Fm N h0 B Γ Δ Hp) {α : Type} {d : Dt α} {xs : List α} {cs : List V} {n e m : Nat} (hl : d.L xs cs) (he : d.sz = e) (hn : xs.length = n) (hm : 1000000 ≤ m) : Fm N h0 B Γ (⟨[m], .fz cs n e true, d, xs⟩ :: Δ) Hp := by
  subst he; subst hn
  obtain ⟨L, h1, h2, h3, h4, h5⟩ := S
  refine ⟨L, h1, h2, h3, h4, fun g hg => ?_⟩
  rcases List.mem_cons.1 hg with rfl | hg
  · exact ⟨cs, hl, .inr (.inr ⟨rfl, RL.length (fun h => d.len h) hl, RL.stills hl, m, List.mem_singleton.2 rfl, hm⟩)⟩
  · exact h5 g hg
/-- A slice that grows reads as its list. -/
theorem Fm.sl (S : Fm N h0 B Γ Δ Hp) {i : Nat} {g : Gw} (hi : Δ[i]? = some g) : SlH Hp g.d g.xs g.v := by
  obtain ⟨L, rfl, h2, h3, h4, h5⟩ := S
  obtain ⟨cs, q1, q2⟩ := h5 g (List.mem_of_getElem? hi)
  rw [← pts_length B] at q2
  exact ⟨cs, q2.sl, q1⟩
/-- A slice of a lower frame. -/
theorem Fm.low (S : Fm N h0 [] Γ Δ Hp) {α : Type} {d : Dt α} {xs : List α} {v : V} (hv : SlH h0 d xs v) : SlH Hp d xs v := by
  obtain ⟨L, rfl, _⟩ := S
  obtain ⟨cs, q1, q2⟩ := hv
  exact ⟨cs, q1.up L, q2⟩
/-- A local variable. -/
theorem Fm.atG (S : Fm N h0 B Γ Δ Hp) {i d : Nat} {s : Stamp} {cs : List C} (hi : Γ[i]? = some (d, s, cs)) : AtC Hp ⟨h0.length, d, 0, s, []⟩ 0 cs := by
  obtain ⟨L, rfl, h2, h3, h4, h5⟩ := S
  have := h4 _ (List.mem_of_getElem? hi)
  refine ⟨[], [], ?_, rfl⟩
  rw [← pts_length B, nd_own this]; simp
theorem mem_set.{u} {α : Type u} {xs : List α} {i : Nat} {x y : α} (h : y ∈ xs.set i x) (hi : i < xs.length) : y = x ∨ y ∈ xs.eraseIdx i := by
  obtain ⟨j, hj⟩ := List.mem_iff_getElem?.1 h
  rw [List.getElem?_set] at hj
  split at hj
  · rename_i hij; subst hij
    first
      | exact .inl (Option.some.inj hj).symm
      | (rw [if_pos hi] at hj; exact .inl (Option.some.inj hj).symm)
  · rename_i hij
    exact .inr (List.mem_eraseIdx_iff_getElem?.2 ⟨j, Ne.symm hij, hj⟩)
theorem mem_erase.{u} {α : Type u} {xs : List α} {i : Nat} {y : α} (h : y ∈ xs.eraseIdx i) : y ∈ xs := by
  obtain ⟨j, _, hj⟩ := List.mem_eraseIdx_iff_getElem?.1 h
  exact List.mem_of_getElem? hj
theorem freeG_ne {d : Nat} (h : freeG Γ d = true) {e : Nat × Stamp × List C} (he : e ∈ Γ) : e.1 ≠ d := by
  have := List.all_eq_true.1 h e he
  simpa using this
theorem freeD_ne {d : Nat} (h : freeD Δ d = true) {g : Gw} (hg : g ∈ Δ) : d ∉ g.D := by
  have := List.all_eq_true.1 h g hg
  simpa using this
theorem Gw.ok.frame {g : Gw} {L L' : Layer} {n0 : Nat} (h : g.ok L n0) (hL : ∀ d ∈ g.D, L'[d]? = L[d]?) : g.ok L' n0 := by
  obtain ⟨cs, q1, q2⟩ := h
  exact ⟨cs, q1, q2.frame hL⟩
/-- It is written. -/
theorem Fm.setG (S : Fm N h0 B Γ Δ Hp) {i d : Nat} {s : Stamp} {cs cs' : List C} (hi : Γ[i]? = some (d, s, cs)) (hf : (freeG (Γ.eraseIdx i) d && freeD Δ d) = true) (hc : cs'.length = cs.length) : Fm N h0 B (Γ.set i (d, s, cs')) Δ (ptC Hp ⟨h0.length, d, 0, s, []⟩ 0 cs') := by
  obtain ⟨L, rfl, h2, h3, h4, h5⟩ := S
  have hL := h4 _ (List.mem_of_getElem? hi)
  have hlt := (List.getElem?_eq_some_iff.1 hi).1
  have hdl := (List.getElem?_eq_some_iff.1 hL).1
  simp only [Bool.and_eq_true] at hf
  refine ⟨L.set d [.own s cs'], ?_, by simpa using h2, h3, fun e he => ?_, fun g hg => ?_⟩
  · have hn := nd_own (h := pts h0 B) hL
    rw [← pts_length B]
    rw [ptC_eq (off := 0) (p := []) (q := []) (cs := cs) (by rw [hn]; simp) rfl hc, setNd_own hL]
    simp
  · rcases mem_set he hlt with rfl | he
    · simp only; rw [List.getElem?_set_self hdl]
    · rw [List.getElem?_set_ne (Ne.symm (freeG_ne hf.1 he))]; exact h4 e (mem_erase he)
  · exact (h5 g hg).frame fun x hx => by rw [List.getElem?_set_ne (fun e => freeD_ne hf.2 hg (by rw [e]; exact hx))]
/-- A thing of a lower frame. -/
theorem Fm.atB (S : Fm N h0 B Γ Δ Hp) {i : Nat} {r : Rt} (hi : B[i]? = some r) : AtC Hp r.l r.off r.cs := by
  obtain ⟨L, rfl, h2, h3, h4, h5⟩ := S
  exact (h3.at hi).up L
theorem Fm.setB (S : Fm N h0 B Γ Δ Hp) {i : Nat} {r : Rt} {cs : List C} (hi : B[i]? = some r) (hc : cs.length = r.cs.length) : Fm N h0 (B.set i ⟨r.l, r.off, cs⟩) Γ Δ (ptC Hp r.l r.off cs) := by
  obtain ⟨L, rfl, h2, h3, h4, h5⟩ := S
  exact ⟨L, by rw [(h3.at hi).put_up L hc, h3.pt hi hc], h2, h3.set hi hc, h4, h5⟩
/-- A cell of a variable is written. -/
theorem Fm.stG (S : Fm N h0 B Γ Δ Hp) {i d j : Nat} {s σ : Stamp} {own : Bool} {x : V} {cs : List C} (hi : Γ[i]? = some (d, s, cs)) (hf : (freeG (Γ.eraseIdx i) d && freeD Δ d) = true) (hx : Still x) (hj : (cs[j]?).isSome = true) :
    ∃ H', stO own 1 σ Hp (.ref ⟨h0.length, d, 0, s, []⟩ j) x = some H' ∧ Fm N h0 B (Γ.set i (d, s, cs.set j (.v x))) Δ H' := by
  have hlt : j < cs.length := by
    obtain ⟨y, hy⟩ := Option.isSome_iff_exists.1 hj
    exact (List.getElem?_eq_some_iff.1 hy).1
  have e := (S.atG hi).st (own := own) (σ := σ) hx hlt
  rw [Nat.zero_add] at e
  exact ⟨_, e, S.setG hi hf (by simp)⟩
theorem Fm.stGv (S : Fm N h0 B Γ Δ Hp) {i d j n : Nat} {s σ : Stamp} {own : Bool} {xs : List V} {cs : List C} (hi : Γ[i]? = some (d, s, cs)) (hf : (freeG (Γ.eraseIdx i) d && freeD Δ d) = true) (hx : Stills xs) (hn : xs.length = n) (hj : decide (j + n ≤ cs.length) = true) :
    ∃ H', stO own n σ Hp (.ref ⟨h0.length, d, 0, s, []⟩ j) (.agg xs) = some H' ∧ Fm N h0 B (Γ.set i (d, s, cs.take j ++ xs.map .v ++ cs.drop (j + n))) Δ H' := by
  have hj := of_decide_eq_true hj
  have e := (S.atG hi).stVs (own := own) (σ := σ) hx hn hj
  rw [Nat.zero_add] at e
  exact ⟨_, e, S.setG hi hf (by simp; omega)⟩
theorem Fm.stB (S : Fm N h0 B Γ Δ Hp) {i off j : Nat} {l : Loc} {σ : Stamp} {own : Bool} {x : V} {cs : List C} (hi : B[i]? = some ⟨l, off, cs⟩) (hx : Still x) (hj : (cs[j]?).isSome = true) :
    ∃ H', stO own 1 σ Hp (.ref l (off + j)) x = some H' ∧ Fm N h0 (B.set i ⟨l, off, cs.set j (.v x)⟩) Γ Δ H' := by
  have hlt : j < cs.length := by
    obtain ⟨y, hy⟩ := Option.isSome_iff_exists.1 hj
    exact (List.getElem?_eq_some_iff.1 hy).1
  exact ⟨_, (S.atB hi).st (own := own) (σ := σ) hx hlt, S.setB hi (by simp)⟩
/-- A new variable. -/
theorem Fm.add (S : Fm N h0 B Γ Δ Hp) {d : Nat} {s : Stamp} {cs : List C} (hd : d < N) (hf : (freeG Γ d && freeD Δ d) = true) : Fm N h0 B ((d, s, cs) :: Γ) Δ (setSlot Hp d [.own s cs]) := by
  obtain ⟨L, rfl, h2, h3, h4, h5⟩ := S
  simp only [Bool.and_eq_true] at hf
  refine ⟨L.set d [.own s cs], rfl, by simpa using h2, h3, fun e he => ?_, fun g hg => ?_⟩
  · rcases List.mem_cons.1 he with rfl | he
    · simp only; rw [List.getElem?_set_self (by omega)]
    · rw [List.getElem?_set_ne (Ne.symm (freeG_ne hf.1 he))]; exact h4 e he
  · exact (h5 g hg).frame fun x hx => by rw [List.getElem?_set_ne (fun e => freeD_ne hf.2 hg (by rw [e]; exact hx))]
theorem Fm.newLoc (S : Fm N h0 B Γ Δ Hp) (d : Nat) (s : Stamp) : Ev.newLoc Hp d s = ⟨h0.length, d, 0, s, []⟩ := by
  obtain ⟨L, rfl, _⟩ := S; rw [newLoc_cons, pts_length]
theorem Fm.al (S : Fm N h0 B Γ Δ Hp) {d : Nat} {s : Stamp} {z : List V} (hd : d < N) (hf : (freeG Γ d && freeD Δ d) = true) : ∃ H', alO z s d Hp = (.ref ⟨h0.length, d, 0, s, []⟩ 0, H') ∧ Fm N h0 B ((d, s, z.map .v) :: Γ) Δ H' :=
  ⟨_, by rw [alO, S.newLoc], S.add hd hf⟩
theorem Fm.box (S : Fm N h0 B Γ Δ Hp) {d : Nat} {s : Stamp} {own : Bool} {xs : List V} (hx : Stills xs) (hd : d < N) (hf : (freeG Γ d && freeD Δ d) = true) : ∃ H', boxO own s d Hp (.agg xs) = some (.ref ⟨h0.length, d, 0, s, []⟩ 0, H') ∧ Fm N h0 B ((d, s, xs.map .v) :: Γ) Δ H' :=
  ⟨_, by unfold boxO; rw [show (V.agg xs).cells = xs from rfl, layCs_still own _ hx]; simp only [Option.bind_some]; rw [S.newLoc], S.add hd hf⟩
theorem Fm.slot (S : Fm N h0 B Γ Δ Hp) {i d : Nat} {s : Stamp} {cs : List C} (hi : Γ[i]? = some (d, s, cs)) : slotOf Hp d = some [.own s cs] := by
  obtain ⟨L, rfl, h2, h3, h4, h5⟩ := S
  exact h4 _ (List.mem_of_getElem? hi)

/-- What may be appended. -/
def YsH {α : Type} (h : H) (d : Dt α) (ys : List α) (y : V) : Prop := ∃ cs, Ys h y d.sz ys.length cs ∧ d.L ys cs
theorem SlH.y {α : Type} {h : H} {d : Dt α} {ys : List α} {y : V} (hy : SlH h d ys y) : YsH h d ys y := by
  obtain ⟨cs, h1, h2⟩ := hy; exact ⟨cs, h1.ys, h2⟩
theorem Fm.app (S : Fm N h0 B Γ Δ Hp) {i d b e : Nat} {g : Gw} {own : Bool} {σ : Stamp} {y : V} {ys zs : List g.α} (hi : Δ[i]? = some g) (hy : YsH Hp g.d ys y) (hz : ap b g.xs ys = some zs) (he : g.d.sz = e) (hk : e ≠ 0) (hd : d < N) (hf : freeL (d :: g.D) Γ (Δ.eraseIdx i) = true) :
    ∃ v H', apO own e b σ d Hp g.v y = some (v, H') ∧ Fm N h0 B Γ (Δ.set i ⟨d :: g.D, v, g.d, zs⟩) H' := by
  subst he
  obtain ⟨⟨hb1, hb2⟩, rfl⟩ := ap_some hz
  obtain ⟨L, rfl, h2, h3, h4, h5⟩ := S
  obtain ⟨cs, q1, q2⟩ := h5 g (List.mem_of_getElem? hi)
  obtain ⟨ds, r1, r2⟩ := hy
  rw [← pts_length B] at q2
  have hlt := (List.getElem?_eq_some_iff.1 hi).1
  obtain ⟨v', L', e1, e2, e3, e4⟩ := q2.app (own := own) (σ := σ) (d := d) (by omega) r1 (RL.stills r2) hk hb1 hb2
  have hfr := List.all_eq_true.1 hf
  have nG : ∀ e ∈ Γ, e.1 ∉ d :: g.D := fun e he hm => by
    have := hfr _ hm
    simp only [Bool.and_eq_true] at this
    exact freeG_ne this.1 he rfl
  have nD : ∀ g' ∈ Δ.eraseIdx i, ∀ x ∈ g'.D, x ∉ d :: g.D := fun g' hg' x hx hm => by
    have := hfr _ hm
    simp only [Bool.and_eq_true] at this
    exact freeD_ne this.2 hg' hx
  refine ⟨v', _, e1, L', rfl, by omega, h3, fun e he => by rw [e4 _ (nG e he)]; exact h4 e he, fun g' hg' => ?_⟩
  rcases mem_set hg' hlt with rfl | hg'
  · refine ⟨cs ++ ds, q1.append r2, ?_⟩
    rw [← pts_length B, List.length_append]
    exact e2
  · exact (h5 g' (mem_erase hg')).frame fun x hx => e4 x (nD g' hg' x hx)
/-- 'make'. -/
theorem Fm.mk (S : Fm N h0 B Γ Δ Hp) {α : Type} {dt : Dt α} {d b e : Nat} {z : α} {zv : List V} {n : Int} {σ : Stamp} {zs : List α} (hz : Ev.mk b z n = some zs) (hR : dt.R z zv) (he : dt.sz = e) (hk : e ≠ 0) (hd : d < N) (hf : (freeG Γ d && freeD Δ d) = true) :
    ∃ v H', mkO e b zv σ d Hp n n = some (v, H') ∧ Fm N h0 B Γ (⟨[d], v, dt, zs⟩ :: Δ) H' := by
  subst he
  obtain ⟨⟨z0, z1, z2⟩, rfl⟩ := mk_some hz
  obtain ⟨L, rfl, h2, h3, h4, h5⟩ := S
  simp only [Bool.and_eq_true] at hf
  obtain ⟨v, L', e1, e2, e3, e4⟩ := GrowS.make (L := L) (h := pts h0 B) (b := b) (d := d) (z := zv) (n := n) (σ := σ) (by omega) z0 z1 (by omega) (dt.len hR) hk
  refine ⟨v, _, e1, L', rfl, by omega, h3, fun e he => by rw [e4 _ (freeG_ne hf.1 he)]; exact h4 e he, fun g hg => ?_⟩
  rcases List.mem_cons.1 hg with rfl | hg
  · refine ⟨_, RL.rep hR _, ?_⟩
    rw [← pts_length B]
    simpa using e2
  · exact (h5 g hg).frame fun x hx => e4 x fun h => freeD_ne hf.2 hg (h ▸ hx)
/-- A slice that a call made lands. -/
theorem Fm.land (S : Fm N h0 B Γ Δ Hp) {α : Type} {dt : Dt α} {d e n : Nat} {c : C} {cs : List V} {xs : List α} (ho : OwnS c dt.sz xs.length cs) (hl : dt.L xs cs) (hd : d < N) (hf : (freeG Γ d && freeD Δ d) = true) :
    ∃ v H', Ev.land Hp (some d) [c] = (v, H') ∧ Fm N h0 B Γ (⟨[d], v, dt, xs⟩ :: Δ) H' := by
  obtain ⟨L, rfl, h2, h3, h4, h5⟩ := S
  simp only [Bool.and_eq_true] at hf
  obtain ⟨v, L', e1, e2, e3, e4⟩ := ho.land (L := L) (h := pts h0 B) (d := d) (by omega)
  refine ⟨v, _, e1, L', rfl, by omega, h3, fun e he => by rw [e4 _ (freeG_ne hf.1 he)]; exact h4 e he, fun g hg => ?_⟩
  rcases List.mem_cons.1 hg with rfl | hg
  · exact ⟨cs, hl, by rw [← pts_length B]; exact e2⟩
  · exact (h5 g hg).frame fun x hx => e4 x fun h => freeD_ne hf.2 hg (h ▸ hx)
/-! ### Results -/
/-- Each result leaves as it is. -/
def Lv1 (x : V) : Prop := ∀ frz τ h, expF frz τ h x = some (.v x, h)
theorem Still.lv {x : V} (h : Still x) : Lv1 x := h.exp
theorem Stills.lv {xs : List V} (h : Stills xs) : Lv1 (.agg xs) := fun _ τ h' => expF_agg h τ h'
theorem Fm.finN (S : Fm N h0 B Γ Δ Hp) {frz : Bool} {σ : Stamp} {xs : List V} (hx : ∀ x ∈ xs, Lv1 x) : fin frz σ Hp xs = some (xs.map .v, pts h0 B) := by
  obtain ⟨L, rfl, _⟩ := S
  have : ∀ (xs : List V) (j : Nat), (∀ x ∈ xs, Lv1 x) → expCs frz (1 :: σ) j (L :: pts h0 B) xs = some (xs.map .v, L :: pts h0 B) := fun xs => by
    induction xs with
    | nil => intro j _; rfl
    | cons x xs ih => intro j hx; simp only [expCs, hx x (List.mem_cons_self ..) frz, Option.bind_some, ih (j + 1) (fun y hy => hx y (List.mem_cons_of_mem _ hy)), Option.map_some, List.map_cons]
  simp [fin, this xs 0 hx]
theorem Fm.finOwn (S : Fm N h0 B Γ Δ Hp) {i : Nat} {g : Gw} (hi : Δ[i]? = some g) (hD : noLit g.D = true) {σ : Stamp} : ∃ c cs, fin false σ Hp [g.v] = some ([c], pts h0 B) ∧ OwnS c g.d.sz g.xs.length cs ∧ g.d.L g.xs cs := by
  obtain ⟨L, rfl, h2, h3, h4, h5⟩ := S
  obtain ⟨cs, q1, q2⟩ := h5 g (List.mem_of_getElem? hi)
  rw [← pts_length B] at q2
  obtain ⟨c, e1, e2⟩ := q2.own hD σ
  exact ⟨c, cs, e1, e2, q1⟩
end
end Go.Ev
/- More rules for runs against plain functions: results, strings, library words. -/
namespace Go.Ev
set_option linter.unusedVariables false
set_option linter.unusedSimpArgs false
section
variable {β α γ δ : Type} {x : Option β} {Q : β → α → Prop} {K : δ → Option α}
theorem Sim.as {A : Option γ} {g : γ → Option δ} (s : Sim x (A.bind fun v => (g v).bind K) Q) : Sim x ((A.bind g).bind K) Q := by
  rw [Option.bind_assoc]; exact s
theorem Sim.ext {Y Y' : Option δ} (e : Y = Y') (s : Sim x (Y'.bind K) Q) : Sim x (Y.bind K) Q := by rw [e]; exact s
theorem Sim.top {Y : Option α} (s : Sim x (Y.bind some) Q) : Sim x Y Q := by cases Y <;> exact s
theorem Sim.pure {v : δ} (s : Sim x (K v) Q) : Sim x ((some v).bind K) Q := s
end
theorem st_map {o : Option H} {h : H} (e : o = some h) : (o.map fun h => ((udf : V), h)) = some (udf, h) := by rw [e]; rfl
/-! ### Results -/
theorem lv_nil : ∀ x ∈ ([] : List V), Lv1 x := fun _ h => by cases h
theorem lv_cons {x : V} {xs : List V} (h : Lv1 x) (t : ∀ y ∈ xs, Lv1 y) : ∀ y ∈ x :: xs, Lv1 y := fun y hy => by
  rcases List.mem_cons.1 hy with rfl | hy
  · exact h
  · exact t y hy
def Ex (frz : Bool) (τ : Stamp) (j : Nat) (h : H) (xs : List V) (cs : List C) (h' : H) : Prop := expCs frz τ j h xs = some (cs, h')
theorem Ex.nil {frz : Bool} {τ : Stamp} {j : Nat} {h : H} : Ex frz τ j h [] [] h := rfl
theorem Ex.pl {frz : Bool} {τ : Stamp} {j : Nat} {h h' : H} {x : V} {xs : List V} {cs : List C} (hx : Lv1 x) (t : Ex frz τ (j + 1) h xs cs h') : Ex frz τ j h (x :: xs) (.v x :: cs) h' := by
  unfold Ex at t ⊢; simp only [expCs, hx frz, Option.bind_some, t, Option.map_some]
theorem Ex.st {frz : Bool} {τ : Stamp} {j : Nat} {h h1 h' : H} {x : V} {c : C} {xs : List V} {cs : List C} (hx : expF frz (j :: τ) h x = some (c, h1)) (t : Ex frz τ (j + 1) h1 xs cs h') : Ex frz τ j h (x :: xs) (c :: cs) h' := by
  unfold Ex at t ⊢; simp only [expCs, hx, Option.bind_some, t, Option.map_some]
section
variable {N : Nat} {h0 Hp : H} {B : List Rt} {Γ : List (Nat × Stamp × List C)} {Δ : List Gw}
theorem Fm.finE (S : Fm N h0 B Γ Δ Hp) {frz : Bool} {σ : Stamp} {H : Ev.H} {xs : List V} {cs : List C} (e : Ex frz (1 :: σ) 0 H xs cs Hp) : fin frz σ H xs = some (cs, pts h0 B) := by
  obtain ⟨L, rfl, _⟩ := S
  unfold Ex at e
  simp [fin, e]
theorem dead_ok {L : Layer} {d : Nat} (S : Fm N h0 B Γ Δ (L :: pts h0 B)) (hf : (freeG Γ d && freeD Δ d) = true) (c : List C) : Fm N h0 B Γ Δ (L.set d c :: pts h0 B) := by
  obtain ⟨L', he, h2, h3, h4, h5⟩ := S
  obtain ⟨rfl, _⟩ := List.cons.inj he
  simp only [Bool.and_eq_true] at hf
  refine ⟨_, rfl, by simpa using h2, h3, fun e he => ?_, fun g hg => ?_⟩
  · rw [List.getElem?_set_ne (Ne.symm (freeG_ne hf.1 he))]; exact h4 e he
  · exact (h5 g hg).frame fun x hx => by rw [List.getElem?_set_ne (fun e => freeD_ne hf.2 hg (by rw [e]; exact hx))]
theorem mem_one {D : List Nat} {Γ : List (Nat × Stamp × List C)} {Δ : List Gw} (hf : freeL D Γ Δ = true) {d : Nat} (hd : d ∈ D) : (freeG Γ d && freeD Δ d) = true := List.all_eq_true.1 hf d hd
/-- A slice that grew leaves, frozen. -/
theorem Fm.expFrz (S : Fm N h0 B Γ Δ Hp) {i : Nat} {g : Gw} (hi : Δ[i]? = some g) (hf : freeL g.D Γ (Δ.eraseIdx i) = true) {τ : Stamp} : ∃ v H', expF true τ Hp g.v = some (.v v, H') ∧ SlF g.d g.xs v ∧ Fm N h0 B Γ (Δ.eraseIdx i) H' := by
  have S' : Fm N h0 B Γ (Δ.eraseIdx i) Hp := S.wk (fun _ h => h) (fun _ h => mem_erase h)
  obtain ⟨L, rfl, h2, h3, h4, h5⟩ := S
  obtain ⟨cs, q1, q2⟩ := h5 g (List.mem_of_getElem? hi)
  rw [← pts_length B] at q2
  rcases q2 with ⟨e1, e2, e3⟩ | ⟨q2, d', hd', s, tl, hv, h6⟩ | ⟨hv, q2, _⟩
  · refine ⟨g.v, _, ?_, ⟨cs, ?_, q1⟩, S'⟩
    · rcases e3 with e | e <;> rw [e]
      · exact still_nilS.exp ..
      · exact (still_fz ..).exp ..
    · rw [e1, e2]
      rcases e3 with e | e <;> rw [e]
      · exact .nil _
      · exact .fz (by simp) _
  · refine ⟨.fz cs g.xs.length g.d.sz false, _, ?_, ⟨cs, .fz q2 _, q1⟩, dead_ok S' (mem_one hf hd') (.dead :: tl)⟩
    rw [hv, expF_frz h6 q2]
  · exact ⟨g.v, _, by rw [hv]; exact (still_fz ..).exp .., ⟨cs, by rw [hv]; exact .fz q2 _, q1⟩, S'⟩
/-- The same, as its owner's. -/
theorem Fm.expOwn (S : Fm N h0 B Γ Δ Hp) {i : Nat} {g : Gw} (hi : Δ[i]? = some g) (hD : noLit g.D = true) (hf : freeL g.D Γ (Δ.eraseIdx i) = true) {τ : Stamp} : ∃ c cs H', expF false τ Hp g.v = some (c, H') ∧ OwnS c g.d.sz g.xs.length cs ∧ g.d.L g.xs cs ∧ Fm N h0 B Γ (Δ.eraseIdx i) H' := by
  have S' : Fm N h0 B Γ (Δ.eraseIdx i) Hp := S.wk (fun _ h => h) (fun _ h => mem_erase h)
  obtain ⟨L, rfl, h2, h3, h4, h5⟩ := S
  obtain ⟨cs, q1, q2⟩ := h5 g (List.mem_of_getElem? hi)
  rw [← pts_length B] at q2
  rcases q2 with ⟨e1, e2, e3⟩ | ⟨q2, d', hd', s, tl, hv, h6⟩ | ⟨_, _, _, hd⟩
  · refine ⟨.v g.v, cs, _, ?_, ⟨by rw [e1, e2]; simp, .inl ⟨e1, e2, ?_⟩⟩, q1, S'⟩
    · rcases e3 with e | e <;> rw [e]
      · exact still_nilS.exp ..
      · exact (still_fz ..).exp ..
    · rcases e3 with e | e <;> rw [e] <;> simp
  · refine ⟨.arr s g.xs.length g.d.sz (cs.map .v), cs, _, ?_, ⟨q2, .inr ⟨s, rfl⟩⟩, q1, dead_ok S' (mem_one hf hd') (.dead :: tl)⟩
    rw [hv, expF_arr h6 (by simpa using q2)]
  · exact (noLit_no hD hd).elim
end
/-! ### Structs are built -/
def fillC (places : Nat → Option (Nat × Nat)) (cells : List V) : List (Nat × List V) → Option (List V)
  | [] => some cells
  | (i, v) :: rest =>
    match places i with
    | none => none
    | some (off, size) =>
      if v.length ≠ size ∨ off + v.length > cells.length then none
      else fillC places (cells.take off ++ v ++ cells.drop (off + v.length)) rest
theorem fillC_ok (places : Nat → Option (Nat × Nat)) : ∀ (parts : List (Nat × V)) (cells : List V), fillV places cells parts = fillC places cells (parts.map fun q => (q.1, q.2.cells))
  | [], cells => rfl
  | (i, v) :: rest, cells => by
    simp only [fillV, fillC, List.map_cons]
    cases places i with
    | none => rfl
    | some q =>
      simp only
      split
      · rfl
      · exact fillC_ok places rest _
def buildC (P : Program) (t : TypeId) (parts : List (Nat × List V)) : Option V :=
  (tzero P t).bind fun zero =>
  match P.underlying t with
  | some (.struct fs) => if fs.toList.all (fun f => known P f.type) then (fillC (fun i => (fs[i]?).map fun f => (f.offset, tsize P f.type)) zero parts).map .agg else none
  | some (.array _ e) => if known P e then (fillC (fun i => some (i * tsize P e, tsize P e)) zero parts).map .agg else none
  | _ => none
def buildSliceC (P : Program) (t : TypeId) (len : Nat) (parts : List (Nat × List V)) : Option V :=
  (telem P t).bind fun e => (tzero P e).bind fun zero =>
  if zero.length ≠ tsize P e ∨ tsize P e = 0 ∨ len * tsize P e > 2 ^ 24 then none else
  (fillC (fun i => some (i * tsize P e, tsize P e)) (rept len zero) parts).map fun cs => .fz cs len (tsize P e) true
theorem bldV {P : Program} {t : TypeId} {parts : List (Nat × V)} {cs : List (Nat × List V)} {r : V} (hp : (parts.map fun q => (q.1, q.2.cells)) = cs) (hb : buildC P t cs = some r) : buildV P t parts = some r := by
  rw [← hb, ← hp]; unfold buildV buildC; simp only [fillC_ok]; rfl
theorem bldS {P : Program} {t : TypeId} {n : Nat} {parts : List (Nat × V)} {cs : List (Nat × List V)} {r : V} (hp : (parts.map fun q => (q.1, q.2.cells)) = cs) (hb : buildSliceC P t n cs = some r) : buildSliceV P t n parts = some r := by
  rw [← hb, ← hp]; unfold buildSliceV buildSliceC; simp only [fillC_ok]
theorem pt_nil : (([] : List (Nat × V)).map fun q => (q.1, q.2.cells)) = [] := rfl
theorem pt_cons {i : Nat} {v : V} {c : List V} {ps : List (Nat × V)} {cs : List (Nat × List V)} (h : v.cells = c) (t : (ps.map fun q => (q.1, q.2.cells)) = cs) : (((i, v) :: ps).map fun q => (q.1, q.2.cells)) = (i, c) :: cs := by rw [List.map_cons, h, t]
/-! ### Shifts, quotients -/
def shP (op : BinOp) (k : IntKind) (a b : Int) : Option Int := if b < 0 then none else match op with
  | .shl => some (k.wrap (a * 2 ^ min b.toNat k.bits))
  | .shr => some (a.fdiv (2 ^ min b.toNat k.bits))
  | _ => none
theorem shP_ok {op : BinOp} {k : IntKind} {a b n : Int} (h : shP op k a b = some n) : shiftV op k a b = some (.p (.int k n)) := by
  unfold shP at h; unfold shiftV
  split at h
  · cases h
  · rename_i h0
    rw [if_neg h0]
    split at h <;> cases h <;> rfl
def remP (a b : Int) : Option Int := if b = 0 then none else some (a.tmod b)
theorem remP_ok {k : IntKind} {a b n : Int} (h : remP a b = some n) : remI k a b = some (.p (.int k n)) := by
  unfold remP at h; unfold remI
  split at h
  · cases h
  · rename_i h0; rw [if_neg h0]; cases h; rfl
/-! ### Strings -/
def strB (xs : List Int) : ByteArray := ⟨(xs.map fun n => UInt8.ofNat n.toNat).toArray⟩
def bytesS (s : ByteArray) : List Int := s.data.toList.map fun b => (b.toNat : Int)
def ixS (s : ByteArray) (i : Int) : Option Int := if 0 ≤ i then (s[i.toNat]?).map fun b => (b.toNat : Int) else none
theorem ixS_ok {s : ByteArray} {i n : Int} (h : ixS s i = some n) : iStr s i = some (.p (.int .u8 n)) := by
  unfold ixS at h; unfold iStr
  split at h
  · rename_i h0
    rw [if_pos h0]
    obtain ⟨b, hb, rfl⟩ := Option.map_eq_some_iff.1 h
    rw [hb]; rfl
  · cases h
theorem RL.ints {k : IntKind} : ∀ {xs : List Int} {cs : List V}, (dI k).L xs cs → cs = xs.map fun n => .p (.int k n)
  | [], cs, h => h
  | x :: xs, cs, ⟨a, b, h1, h2, h3⟩ => by
    have e : a = [.p (.int k x)] := h2
    subst h1; subst e
    rw [RL.ints h3]; rfl
theorem RL.of_ints (k : IntKind) : ∀ (xs : List Int), (dI k).L xs (xs.map fun n => .p (.int k n))
  | [] => rfl
  | x :: xs => .cons (show (dI k).R x [.p (.int k x)] from rfl) (RL.of_ints k xs)
theorem bytesOfV_ints : ∀ (xs : List Int), bytesOfV (xs.map fun n => .p (.int .u8 n)) = some (xs.map fun n => UInt8.ofNat n.toNat)
  | [] => rfl
  | x :: xs => by simp [bytesOfV, bytesOfV_ints xs]
theorem SlH.str {h : H} {xs : List Int} {v : V} (hv : SlH h (dI .u8) xs v) : strO h v = some (.p (.string (strB xs))) := by
  obtain ⟨cs, h1, h2⟩ := hv
  have e := RL.ints h2
  subst e
  have hl := h1.sl
  unfold strO
  split
  · simp [isSl] at hl
  · simp only [toS, hl, h1.cells, h1.len, Option.bind_some, and_self, if_true]
    rw [if_pos (by simp), bytesOfV_ints]; rfl
theorem ysS (h : H) (s : ByteArray) : YsH h (dI .u8) (bytesS s) (.p (.string s)) := by
  refine ⟨_, ⟨?_, rfl, ?_⟩, ?_⟩
  · show some s.size = some (bytesS s).length
    unfold bytesS; rw [List.length_map]; rfl
  · unfold bytesS; rw [List.length_map, List.length_map]; exact (Nat.mul_one _).symm
  · have := RL.of_ints .u8 (bytesS s)
    have e : (bytesS s).map (fun n => V.p (.int .u8 n)) = s.data.toList.map fun b => .p (.int .u8 b.toNat) := by unfold bytesS; rw [List.map_map]; rfl
    rw [e] at this; exact this
theorem SlF.bytes (s : ByteArray) : SlF (dI .u8) (bytesS s) (.fz (s.data.toList.map fun b => .p (.int .u8 b.toNat)) s.size 1 false) := by
  have e : (bytesS s).map (fun n => V.p (.int .u8 n)) = s.data.toList.map fun b => .p (.int .u8 b.toNat) := by unfold bytesS; rw [List.map_map]; rfl
  have := RL.of_ints .u8 (bytesS s)
  rw [e] at this
  refine SlF.lit this ?_ rfl false
  unfold bytesS; rw [List.length_map]; rfl
end Go.Ev
/- Frames at a loop's head; slices.Clip. -/
namespace Go.Ev
set_option linter.unusedVariables false
set_option linter.unusedSimpArgs false
theorem all_nil.{u} {α : Type u} {P : α → Prop} : ∀ x ∈ ([] : List α), P x := fun _ h => by cases h
theorem all_cons.{u} {α : Type u} {P : α → Prop} {a : α} {l : List α} (h : P a) (t : ∀ x ∈ l, P x) : ∀ x ∈ a :: l, P x := fun x hx => by
  rcases List.mem_cons.1 hx with rfl | hx
  · exact h
  · exact t x hx
theorem at_mem.{u} {α : Type u} {a : α} {l : List α} (i : Nat) (h : l[i]? = some a) : a ∈ l := List.mem_of_getElem? h
section
variable {N : Nat} {h0 Hp : H} {B : List Rt} {Γ Γ' : List (Nat × Stamp × List C)} {Δ Δ' : List Gw}
theorem Fm.wk2 (S : Fm N h0 B Γ Δ Hp) (hG : ∀ e ∈ Γ', e ∈ Γ) (hD : ∀ g ∈ Δ', ∃ D, (∀ d ∈ D, d ∈ g.D) ∧ (⟨D, g.v, g.d, g.xs⟩ : Gw) ∈ Δ) : Fm N h0 B Γ' Δ' Hp := by
  obtain ⟨L, h1, h2, h3, h4, h5⟩ := S
  refine ⟨L, h1, h2, h3, fun e he => h4 e (hG e he), fun g hg => ?_⟩
  obtain ⟨D, q1, q2⟩ := hD g hg
  obtain ⟨cs, r1, r2⟩ := h5 _ q2
  refine ⟨cs, r1, ?_⟩
  rcases r2 with q | ⟨r2, d', hd', r⟩ | ⟨a1, a2, a3, d', hd', a4⟩
  · exact .inl q
  · exact .inr (.inl ⟨r2, d', q1 d' hd', r⟩)
  · exact .inr (.inr ⟨a1, a2, a3, d', q1 d' hd', a4⟩)
theorem Fm.start1 {l : Loc} {off : Nat} {cs : List C} (ha : AtC h0 l off cs) : Fm N h0 [⟨l, off, cs⟩] [] [] (List.replicate N [] :: h0) :=
  Fm.start ⟨⟨cs, rfl, ha⟩, all_nil, trivial⟩ (all_cons ha all_nil)
theorem Fm.start2 {l l' : Loc} {off off' : Nat} {cs cs' : List C} (ha : AtC h0 l off cs) (hb : AtC h0 l' off' cs') (hk : l'.key ≠ l.key) : Fm N h0 [⟨l, off, cs⟩, ⟨l', off', cs'⟩] [] [] (List.replicate N [] :: h0) :=
  Fm.start ⟨⟨cs, rfl, ha⟩, all_cons hk all_nil, ⟨cs', rfl, hb⟩, all_nil, trivial⟩ (all_cons ha (all_cons hb all_nil))
def clipBody (e n : Nat) (σ : Stamp) (x : V) (h : H) : Option (List C × H) :=
  (lenO x).bind fun t1 => (castI .i64 t1).bind fun n2 => (lenO x).bind fun t3 => (castI .i64 t3).bind fun n4 => (slS e x none (some n2) (some n4)).bind fun t5 => fin false σ (List.replicate n [] :: h) [t5]
theorem clip_body {e n : Nat} {σ : Stamp} {x : V} {h : H} {m : Nat} {y : V} (hl : lenO x = some (.p (.int .i64 m))) (hs : slS e x none (some m) (some m) = some y) (hf : fin false σ (List.replicate n [] :: h) [y] = some ([.v y], h)) : clipBody e n σ x h = some ([.v y], h) := by
  unfold clipBody
  simp only [hl, Option.bind_some, castI_p, hs, hf]
/-- slices.Clip of a slice that grew. -/
theorem clip_D {G : Cfg} {X : CallF} {f n e i d : Nat} {g : Gw} {σ : Stamp} (entry : ∀ (x : V) (h : H), cvBody G (ev G X) (cvL G X) f σ [x] h = clipBody e n σ x h)
    (S : Fm N h0 B Γ Δ Hp) (hi : Δ[i]? = some g) (he : g.d.sz = e) (hX : X f σ [g.v] Hp = none) :
    ∃ v, callO (ev G X) f σ [g.v] Hp (some d) = some (v, Hp) ∧ Fm N h0 B Γ (Δ.set i ⟨g.D, v, g.d, g.xs⟩) Hp := by
  subst he
  have S0 := S
  obtain ⟨L, rfl, h2, h3, h4, h5⟩ := S
  have h5g := h5 g (List.mem_of_getElem? hi)
  obtain ⟨cs, q1, q2⟩ := h5g
  have len : lenO g.v = some (.p (.int .i64 g.xs.length)) := (S0.sl hi).len
  have key : ∃ v, slS g.d.sz g.v none (some g.xs.length) (some g.xs.length) = some v ∧ GrowS g.D L h0.length v g.d.sz g.xs.length cs ∧ fin false σ (List.replicate n [] :: L :: pts h0 B) [v] = some ([.v v], L :: pts h0 B) := by
    rcases q2 with ⟨e1, e2, e3 | e3⟩ | ⟨q2, d', hd', s, tl, hv, h6⟩ | ⟨hv, a2, a3, a4⟩
    · rw [e1, e3]; exact ⟨_, rfl, .inl ⟨rfl, e2, .inl rfl⟩, fin_1 still_nilS⟩
    · rw [e1, e3]; exact ⟨.fz [] 0 g.d.sz true, by simp [slS, bI], .inl ⟨rfl, e2, .inr rfl⟩, fin_1 (still_fz ..)⟩
    · rw [hv]
      by_cases h0' : g.xs.length = 0
      · have : cs = [] := by rw [h0'] at q2; simpa using q2
        refine ⟨.fz [] 0 g.d.sz true, ?_, .inl ⟨h0', this, .inr rfl⟩, fin_1 (still_fz ..)⟩
        rw [h0']; simp [slS, bI]
      · refine ⟨.sl ⟨h0.length, d', 0, s, []⟩ 0 g.xs.length g.xs.length g.d.sz, ?_, .inr (.inl ⟨q2, d', hd', s, tl, rfl, h6⟩), ?_⟩
        · simp [slS, bI, h0']
        · exact fin_low (by simp [pts_length])
    · rw [hv]
      exact ⟨.fz cs g.xs.length g.d.sz true, by simp [slS, bI, ← a2], .inr (.inr ⟨rfl, a2, a3, a4⟩), fin_1 (still_fz ..)⟩
  obtain ⟨v, k1, k2, k3⟩ := key
  refine ⟨v, ?_, L, rfl, h2, h3, h4, fun g' hg' => ?_⟩
  · exact callO_1 (ev_cv hX (by rw [entry]; exact clip_body len k1 k3))
  · rcases mem_set hg' (List.getElem?_eq_some_iff.1 hi).1 with rfl | hg'
    · exact ⟨cs, q1, k2⟩
    · exact h5 g' (mem_erase hg')
end
end Go.Ev
namespace Go.Ev
section
variable {N : Nat} {h0 Hp : H} {B : List Rt} {Γ Γ' : List (Nat × Stamp × List C)} {Δ Δ' : List Gw}
/-- A lower thing that is only read. -/
theorem Fm.lowA (S : Fm N h0 [] Γ Δ Hp) {l : Loc} {off : Nat} {cs : List C} (ha : AtC h0 l off cs) : AtC Hp l off cs := by
  obtain ⟨L, rfl, _⟩ := S
  exact ha.up L
end
theorem Sim.clo {β α δ : Type} {x : Option β} {Q : β → α → Prop} {K : δ → Option α} {rec : CallF} {f : FuncId} {σ : Stamp} {args caps : List V} {H : H} {d : Option Nat} {g : V × Go.Ev.H → Option δ} (s : Sim x (((callO rec f σ (args ++ caps) H d).bind g).bind K) Q) : Sim x (((cloO rec (.clo f caps) σ args H d).bind g).bind K) Q := s
/-- slices.Clone: a list as it is. -/
def p_clone {α : Type} (b : Nat) (xs : List α) : Option (List α) := ap b [] xs
theorem clone_ok {G : Cfg} {X : CallF} {f n d e b t tt : Nat} {P : Program} {own : Bool} {τ : Stamp → Stamp} {α : Type} {dt : Dt α} {h : H} {σ : Stamp} {xs : List α} {x : V}
    (entry : ∀ (x : V) (h : H), cvBody G (ev G X) (cvL G X) f σ [x] h = (binV P (List.replicate n [] :: h) .eql t x (.p (.slice .none 0 0))).bind fun t1 => (asB t1).bind fun b2 => bif b2 then (fin false σ (List.replicate n [] :: h) [(.p (.slice .none 0 0))]) else ((buildSliceV P t 0 []).bind fun t3 => (apO own e b (τ σ) d (List.replicate n [] :: h) t3 x).bind fun q4 => fin false σ q4.2 [q4.1]))
    (hx : SlH h dt xs x) (he : dt.sz = e) (hk : e ≠ 0) (hd : d < n) (hdd : d < 1000000) (hu : P.underlying t = some (.slice tt)) (hb : buildSliceV P t 0 [] = some (.fz [] 0 e true)) (hX : X f σ [x] h = none) :
    Sim (p_clone b xs) (ev G X f σ [x] h) (fun r s => ∃ (c : C) (a : List V), OwnS c dt.sz r.length a ∧ dt.L r a ∧ s = ([c], h)) := by
  intro r hr
  have S0 : Fm n h [] [] [] (List.replicate n [] :: h) := Fm.start0
  have hn : ∀ (y : V), isSl y = true → y ≠ .p (.slice none 0 0) → binV P (List.replicate n [] :: h) .eql t y (.p (.slice none 0 0)) = some (.p (.bool false)) := fun y hy hne => by
    unfold isSl at hy
    split at hy
    · exact absurd rfl hne
    · simp [binV, eqlV, hu]
    · simp [binV, eqlV, hu]
    · cases hy
  have hnil : binV P (List.replicate n [] :: h) .eql t (.p (.slice none 0 0)) (.p (.slice none 0 0)) = some (.p (.bool true)) := by simp [binV, eqlV, hu]
  obtain ⟨⟨b1, b2⟩, hrr⟩ := ap_some hr
  obtain rfl : xs = r := hrr.symm
  by_cases hnl : x = .p (.slice none 0 0)
  · subst hnl
    obtain ⟨cs, q1, q2⟩ := hx
    have hlen := q1.len
    simp only [lenOf, Option.some.injEq] at hlen
    have : xs = [] := List.length_eq_zero_iff.1 hlen.symm
    subst this
    refine ⟨_, ev_cv hX ?_, .v (.p (.slice none 0 0)), [], ⟨by simp, .inl ⟨rfl, rfl, .inl rfl⟩⟩, rfl, rfl⟩
    rw [entry, hnil]
    simp only [Option.bind_some, asB_p, cond_true]
    exact fin_1 still_nilS
  · have S1 := S0.nil' dt [] he
    have hsl : isSl x = true := by obtain ⟨cs, q1, q2⟩ := hx; exact q1.sl
    obtain ⟨v, H1, e1, S2⟩ := S1.app (i := 0) (d := d) (b := b) (own := own) (σ := τ σ) (e := e) rfl (S1.low hx).y hr he hk hd (by simp [freeL, freeG, freeD])
    obtain ⟨c, a, f1, f2, f3⟩ := S2.finOwn (i := 0) (σ := σ) rfl (by simp [noLit]; omega)
    refine ⟨_, ev_cv hX ?_, c, a, f2, f3, rfl⟩
    rw [entry, hn x hsl hnl]
    simp only [Option.bind_some, asB_p, cond_false, hb]
    rw [e1]
    exact f1
end Go.Ev
/- Slices that a variable's cell owns. -/
namespace Go.Ev
set_option linter.unusedVariables false
set_option linter.unusedSimpArgs false
/-- A cell that has a slice: frozen, or its own array. -/
def SoC {α : Type} (d : Dt α) (xs : List α) (c : C) : Prop := (∃ v, c = .v v ∧ SlF d xs v) ∨ ∃ s ws, c = .arr s xs.length d.sz (ws.map .v) ∧ d.L xs ws
theorem SoC.frz {α : Type} {d : Dt α} {xs : List α} {v : V} (h : SlF d xs v) : SoC d xs (.v v) := .inl ⟨v, rfl, h⟩
theorem SoC.own {α : Type} {d : Dt α} {xs : List α} {c : C} {ws : List V} (h : OwnS c d.sz xs.length ws) (hl : d.L xs ws) : SoC d xs c := by
  obtain ⟨h1, ⟨h2, h3, rfl | rfl⟩ | ⟨s, rfl⟩⟩ := h
  · exact .inl ⟨_, rfl, ws, by rw [h2, h3]; exact .nil _, hl⟩
  · exact .inl ⟨_, rfl, ws, by rw [h2, h3]; exact .fz (by simp) _, hl⟩
  · exact .inr ⟨s, ws, rfl, hl⟩
/-- What it reads as. -/
def cellV (l : Loc) (o : Nat) (c : C) : V := (toV l o c).getD udf
section
variable {α : Type} {h : H} {l : Loc} {off j : Nat} {cs : List C} {c : C} {d : Dt α} {xs : List α}
theorem SoC.ld (hc : SoC d xs c) (ha : AtC h l off cs) (hj : cs[j]? = some c) : ldO false 1 h (.ref l (off + j)) = some (cellV l (off + j) c) := by
  rcases hc with ⟨v, rfl, _⟩ | ⟨s, ws, rfl, _⟩
  · exact ha.ldC hj rfl
  · exact ha.ldC hj rfl
theorem SoC.sl (hc : SoC d xs c) (ha : AtC h l off cs) (hj : cs[j]? = some c) : SlH h d xs (cellV l (off + j) c) := by
  rcases hc with ⟨v, rfl, hv⟩ | ⟨s, ws, rfl, hl⟩
  · exact hv.h h
  · have hlen := RL.length (fun h => d.len h) hl
    refine ⟨ws, .mk_sl (l := l.hop (off + j) s) (ds := ws.map .v) ?_ (by simp [hlen]) ?_ (Nat.le_refl _), hl⟩
    · obtain ⟨p, q, hn, hp⟩ := ha.hop hj (s := s) (ds := ws.map .v) (by simp [C.node])
      have : p = [] := List.length_eq_zero_iff.1 hp
      subst this
      have hq := ha.hop hj (s := s) (ds := ws.map .v) (by simp [C.node])
      obtain ⟨p, q, hn, hp⟩ := ha
      have hlt := (List.getElem?_eq_some_iff.1 hj).1
      rw [nd_in hn (c := .arr s xs.length d.sz (ws.map .v)) (ds := ws.map .v)]
      · rw [List.append_assoc, List.getElem?_append_right (by omega), show off + j - p.length = j by omega, List.getElem?_append_left hlt, hj]
      · simp [C.node]
    · rw [List.drop_zero, List.take_of_length_le (by simp [hlen]), toVs_plain]
end
section
variable {N : Nat} {h0 Hp : H} {B : List Rt} {Γ : List (Nat × Stamp × List C)} {Δ : List Gw}
theorem getElem_app {p cs q : List C} {off j : Nat} (hp : p.length = off) (hj : j < cs.length) : (p ++ cs ++ q)[off + j]? = cs[j]? := by
  rw [List.append_assoc, List.getElem?_append_right (by omega), show off + j - p.length = j by omega, List.getElem?_append_left hj]
theorem at_killed {l : Loc} {off j : Nat} {cs : List C} {c : C} {s : Stamp} (ha : AtC Hp l off cs) (hj : cs[j]? = some c) (hc : (c.node s).isSome) : setAt Hp (l.hop (off + j) s) .dead = ptC Hp l off (cs.set j .dead) := by
  obtain ⟨p, q, hn, hp⟩ := ha
  have hlt := (List.getElem?_eq_some_iff.1 hj).1
  have hcell : (p ++ cs ++ q)[off + j]? = some c := by rw [getElem_app hp hlt, hj]
  rw [setAt_hop hn hcell, ptC_eq hn hp (by simp)]
  congr 1
  rw [List.append_assoc, List.set_append_right _ _ (by omega), List.set_append_left _ _ (by omega), ← List.append_assoc]
  congr 3
  omega
/-- What a place has and what writes it come to, told at once. -/
structure Spot (N : Nat) (h0 : H) (Hp : H) (l : Loc) (off : Nat) (cs : List C) (T : List C → H → Prop) : Prop where
  at_ : AtC Hp l off cs
  put : ∀ cs', cs'.length = cs.length → T cs' (ptC Hp l off cs')
/-- More behind the slice of a cell: what lay there is taken. -/
theorem app_cell {l : Loc} {off j d b e : Nat} {cs : List C} {c : C} {α : Type} {dt : Dt α} {xs ys zs : List α} {own : Bool} {σ : Stamp} {y : V}
    (ha : AtC Hp l off cs) (hj : cs[j]? = some c) (hc : SoC dt xs c) (hy : YsH Hp dt ys y) (hz : ap b xs ys = some zs) (hn : ys.length ≠ 0) (he : dt.sz = e) (hk : e ≠ 0) (hnt : ∀ v, c = .v v → v = .p (.slice none 0 0) ∨ v = .fz [] 0 e true) :
    ∃ ws s, dt.L zs ws ∧ ∃ c', (c' = c ∨ c' = .dead) ∧ apO own e b σ d Hp (cellV l (off + j) c) y = some (.sl (newLoc Hp d s) 0 zs.length zs.length e, setSlot (ptC Hp l off (cs.set j c')) d [.arr s zs.length e (ws.map .v)]) := by
  subst he
  obtain ⟨⟨hb1, hb2⟩, rfl⟩ := ap_some hz
  obtain ⟨us, hu, hul⟩ := hy
  have hlt := (List.getElem?_eq_some_iff.1 hj).1
  have same : ptC Hp l off (cs.set j c) = Hp := by
    rw [show cs.set j c = cs from by rw [← (List.getElem?_eq_some_iff.1 hj).2]; exact List.set_getElem_self ..]
    exact ha.same
  have base : ∀ x, apO own dt.sz b σ d Hp x y = apTo dt.sz b σ d Hp ys.length (us.map .v) x := fun x => by
    unfold apO
    rw [hu.len, hu.cells]
    simp only [Option.bind_some]
    rw [if_neg (by simp [hu.clen, hk]), if_neg hn, layCs_still own _ (RL.stills hul)]
    rfl
  rcases hc with ⟨v, rfl, hv⟩ | ⟨s, ws, rfl, hl⟩
  · obtain ⟨vs, q1, q2⟩ := hv
    have hx0 : xs = [] ∧ vs = [] := by
      rcases hnt v rfl with rfl | rfl
      · have h1 := (q1 []).len
        simp only [lenOf, Option.some.injEq] at h1
        have h1 : xs = [] := List.length_eq_zero_iff.1 h1.symm
        subst h1
        exact ⟨rfl, by have := (q1 []).clen; simpa using this⟩
      · have h1 := (q1 []).len
        simp only [lenOf, Option.some.injEq] at h1
        have h1 : xs = [] := List.length_eq_zero_iff.1 h1.symm
        subst h1
        exact ⟨rfl, by have := (q1 []).clen; simpa using this⟩
    obtain ⟨rfl, rfl⟩ := hx0
    refine ⟨us, σ, by simpa using hul, _, .inl rfl, ?_⟩
    rw [base, same]
    rcases hnt v rfl with rfl | rfl
    · simp only [cellV, toV, Option.getD_some, apTo]
      rw [if_pos ⟨by simpa using hb1, by simpa using hb2⟩]; simp
    · simp only [cellV, toV, Option.getD_some, apTo]
      rw [if_pos ⟨trivial, trivial, by simp, by simpa using hb1, by simpa using hb2, by simp⟩]; simp
  · refine ⟨ws ++ us, σ, hl.append hul, _, .inr rfl, ?_⟩
    have hlen := RL.length (fun h => dt.len h) hl
    have hnode : nd Hp (l.hop (off + j) s) = some (ws.map .v) := by
      obtain ⟨p, q, hn2, hp⟩ := ha
      exact nd_in hn2 (c := .arr s xs.length dt.sz (ws.map .v)) (by rw [getElem_app hp hlt, hj]) (by simp [C.node])
    rw [base]
    simp only [cellV, toV, Option.getD_some, apTo]
    rw [if_neg (by simp), hnode]
    simp only [Option.bind_some]
    rw [if_neg (by omega), if_pos ⟨trivial, by simpa using hlen, hb1, hb2⟩, at_killed ha hj (by simp [C.node])]
    simp [newLoc, top, ptC_length]
theorem Fm.addArr (S : Fm N h0 B Γ Δ Hp) {α : Type} {dt : Dt α} {d e : Nat} {s : Stamp} {ws : List V} {xs : List α} (hl : dt.L xs ws) (he : dt.sz = e) (hd : d < N) (hf : (freeG Γ d && freeD Δ d) = true) :
    Fm N h0 B Γ (⟨[d], .sl ⟨h0.length, d, 0, s, []⟩ 0 xs.length xs.length e, dt, xs⟩ :: Δ) (setSlot Hp d [.arr s xs.length e (ws.map .v)]) := by
  subst he
  obtain ⟨L, rfl, h2, h3, h4, h5⟩ := S
  simp only [Bool.and_eq_true] at hf
  refine ⟨L.set d [.arr s xs.length dt.sz (ws.map .v)], rfl, by simpa using h2, h3, fun e he => ?_, fun g hg => ?_⟩
  · rw [List.getElem?_set_ne (Ne.symm (freeG_ne hf.1 he))]; exact h4 e he
  · rcases List.mem_cons.1 hg with rfl | hg
    · exact ⟨ws, hl, .inr (.inl ⟨RL.length (fun h => dt.len h) hl, d, List.mem_singleton.2 rfl, s, [], rfl, by rw [List.getElem?_set_self (by omega)]⟩)⟩
    · exact (h5 g hg).frame fun x hx => by rw [List.getElem?_set_ne (fun e => freeD_ne hf.2 hg (by rw [e]; exact hx))]
/-- More behind the slice that a variable's cell owns. -/
theorem Fm.appG (S : Fm N h0 B Γ Δ Hp) {i j d d0 b e : Nat} {s0 σ : Stamp} {cs : List C} {c : C} {α : Type} {dt : Dt α} {xs ys zs : List α} {own : Bool} {y : V}
    (hi : Γ[i]? = some (d0, s0, cs)) (hj : cs[j]? = some c) (hc : SoC dt xs c) (hnt : ∀ v, c = .v v → v = .p (.slice none 0 0) ∨ v = .fz [] 0 e true) (hy : YsH Hp dt ys y) (hz : ap b xs ys = some zs) (hn : ys.length ≠ 0) (he : dt.sz = e) (hk : e ≠ 0) (hd : d < N)
    (hf : (freeG (Γ.eraseIdx i) d0 && freeD Δ d0) = true) (hf2 : (freeG Γ d && freeD Δ d) = true) :
    ∃ v c' H', apO own e b σ d Hp (cellV ⟨h0.length, d0, 0, s0, []⟩ j c) y = some (v, H') ∧ Fm N h0 B (Γ.set i (d0, s0, cs.set j c')) (⟨[d], v, dt, zs⟩ :: Δ) H' := by
  obtain ⟨ws, s, hl, c', _, e1⟩ := app_cell (own := own) (σ := σ) (d := d) (S.atG hi) hj hc hy hz hn he hk hnt
  rw [Nat.zero_add] at e1
  refine ⟨_, c', _, e1, ?_⟩
  rw [S.newLoc]
  refine (S.setG (cs' := cs.set j c') hi hf (by simp)).addArr hl he hd ?_
  simp only [Bool.and_eq_true] at hf2 ⊢
  refine ⟨List.all_eq_true.2 fun x hx => ?_, hf2.2⟩
  rcases mem_set hx (List.getElem?_eq_some_iff.1 hi).1 with rfl | hx
  · have := List.all_eq_true.1 hf2.1 (d0, s0, cs) (List.mem_of_getElem? hi)
    simpa using this
  · exact List.all_eq_true.1 hf2.1 _ (mem_erase hx)
/-- The same in a lower thing. -/
theorem Fm.appB (S : Fm N h0 B Γ Δ Hp) {i j d b e off : Nat} {l : Loc} {σ : Stamp} {cs : List C} {c : C} {α : Type} {dt : Dt α} {xs ys zs : List α} {own : Bool} {y : V}
    (hi : B[i]? = some ⟨l, off, cs⟩) (hj : cs[j]? = some c) (hc : SoC dt xs c) (hnt : ∀ v, c = .v v → v = .p (.slice none 0 0) ∨ v = .fz [] 0 e true) (hy : YsH Hp dt ys y) (hz : ap b xs ys = some zs) (hn : ys.length ≠ 0) (he : dt.sz = e) (hk : e ≠ 0) (hd : d < N)
    (hf2 : (freeG Γ d && freeD Δ d) = true) :
    ∃ v c' H', apO own e b σ d Hp (cellV l (off + j) c) y = some (v, H') ∧ Fm N h0 (B.set i ⟨l, off, cs.set j c'⟩) Γ (⟨[d], v, dt, zs⟩ :: Δ) H' := by
  obtain ⟨ws, s, hl, c', _, e1⟩ := app_cell (own := own) (σ := σ) (d := d) (S.atB hi) hj hc hy hz hn he hk hnt
  refine ⟨_, c', _, e1, ?_⟩
  rw [S.newLoc]
  exact (S.setB (cs := cs.set j c') hi (by simp)).addArr hl he hd hf2
/-- What a slot alone holds goes into a cell. -/
theorem mv_cell {l : Loc} {off j k : Nat} {cs : List C} {g : Gw} {σ : Stamp} (S : Fm N h0 B Γ Δ Hp) (hk : Δ[k]? = some g) (hD : noLit g.D = true) (hf : freeL g.D Γ (Δ.eraseIdx k) = true) (hloc : ∀ d ∈ g.D, ∀ s, l.key ≠ (⟨h0.length, d, 0, s, []⟩ : Loc).key) (ha : AtC Hp l off cs) (hj : j < cs.length) :
    ∃ c ws H1, layC true Hp g.v = some (c, H1) ∧ stO true 1 σ Hp (.ref l (off + j)) g.v = some (ptC H1 l off (cs.set j c)) ∧ OwnS c g.d.sz g.xs.length ws ∧ g.d.L g.xs ws ∧ AtC H1 l off cs ∧ Fm N h0 B Γ (Δ.eraseIdx k) H1 := by
  have S' : Fm N h0 B Γ (Δ.eraseIdx k) Hp := S.wk (fun _ h => h) (fun _ h => mem_erase h)
  obtain ⟨L, rfl, h2, h3, h4, h5⟩ := S
  obtain ⟨ws, q1, q2⟩ := h5 g (List.mem_of_getElem? hk)
  have key : ∀ (v : V) (c : C) (H1 : H), v.cells = [v] → (∀ s n e ds, sameArr l (off + j) (some (.arr s n e ds)) v = false) → layC true (L :: pts h0 B) v = some (c, H1) → AtC H1 l off cs → stO true 1 σ (L :: pts h0 B) (.ref l (off + j)) v = some (ptC H1 l off (cs.set j c)) := fun v c H1 hv hs hl ha1 => by
    obtain ⟨p, q, hn, hp⟩ := ha
    obtain ⟨p1, q1', hn1, hp1⟩ := ha1
    have hsm : sameArr l (off + j) (p ++ cs ++ q)[off + j]? v = false := by
      cases hx : (p ++ cs ++ q)[off + j]? with
      | none => rfl
      | some x =>
        cases x with
        | arr s n e ds => exact hs s n e ds
        | _ => rfl
    unfold stO
    simp only [hv, hn, hsm, Option.bind_some, layCs, hl]
    simp only [List.length_cons, List.length_nil, Bool.not_true, Bool.false_or, Nat.zero_add, bne_self_eq_false, Bool.false_eq_true, if_false, hn1, Option.bind_some]
    rw [if_pos (by simp; omega), set_take_drop _ _ _ (by simp; omega), ptC_eq hn1 hp1 (by simp)]
    congr 2
    rw [List.append_assoc, List.set_append_right _ _ (by omega), List.set_append_left _ _ (by omega), ← List.append_assoc]
    congr 3
    omega
  rcases q2 with ⟨e1, e2, e3⟩ | ⟨q2, d', hd', s, tl, hv, h6⟩ | ⟨_, _, _, hd⟩
  · refine ⟨.v g.v, ws, _, ?_, key _ _ _ ?_ ?_ ?_ ha, ⟨by rw [e1, e2]; simp, .inl ⟨e1, e2, ?_⟩⟩, q1, ha, S'⟩
    all_goals rcases e3 with e | e <;> rw [e]
    all_goals first
      | rfl
      | (intro s n e' ds; rfl)
      | (exact .inl rfl)
      | (exact .inr rfl)
  · have hr : rootC (L :: pts h0 B) ⟨h0.length, d', 0, s, []⟩ = some (.arr s g.xs.length g.d.sz (ws.map .v)) := by simp [rootC, pts_length, h6]
    have hs : setRoot (L :: pts h0 B) ⟨h0.length, d', 0, s, []⟩ .dead = L.set d' (.dead :: tl) :: pts h0 B := by simp [setRoot, pts_length, h6]
    have hlay : layC true (L :: pts h0 B) g.v = some (.arr s g.xs.length g.d.sz (ws.map .v), L.set d' (.dead :: tl) :: pts h0 B) := by
      rw [hv]; simp [layC, pts_length, hr, hs]
    have ha1 : AtC (L.set d' (.dead :: tl) :: pts h0 B) l off cs := by
      obtain ⟨p, q, hn, hp⟩ := ha
      refine ⟨p, q, ?_, hp⟩
      rw [← hs]
      have : (⟨h0.length, d', 0, s, []⟩ : Loc).key ≠ l.key := Ne.symm (hloc d' hd' s)
      have e := root_setRoot_ne (h := L :: pts h0 B) (l := ⟨h0.length, d', 0, s, []⟩) (l' := l) (c := .dead) this
      rw [← hn]
      simp only [nd, at_, e]
    refine ⟨_, ws, _, hlay, key _ _ _ (by rw [hv]; rfl) ?_ hlay ha1, ⟨q2, .inr ⟨s, rfl⟩⟩, q1, ha1, dead_ok S' (mem_one hf hd') (.dead :: tl)⟩
    intro s' n' e' ds
    rw [hv]
    simp [sameArr, Loc.hop]
  · exact (noLit_no hD hd).elim
theorem Fm.mvG (S : Fm N h0 B Γ Δ Hp) {i j k d0 : Nat} {s0 σ : Stamp} {cs : List C} {g : Gw} (hk : Δ[k]? = some g) (hD : noLit g.D = true) (hf : freeL g.D Γ (Δ.eraseIdx k) = true) (hi : Γ[i]? = some (d0, s0, cs)) (hf0 : (freeG (Γ.eraseIdx i) d0 && freeD (Δ.eraseIdx k) d0) = true) (hj : (cs[j]?).isSome = true) :
    ∃ c H', stO true 1 σ Hp (.ref ⟨h0.length, d0, 0, s0, []⟩ j) g.v = some H' ∧ SoC g.d g.xs c ∧ (∀ v, c = .v v → v = .p (.slice none 0 0) ∨ v = .fz [] 0 g.d.sz true) ∧ Fm N h0 B (Γ.set i (d0, s0, cs.set j c)) (Δ.eraseIdx k) H' := by
  have hlt : j < cs.length := by
    obtain ⟨y, hy⟩ := Option.isSome_iff_exists.1 hj
    exact (List.getElem?_eq_some_iff.1 hy).1
  obtain ⟨c, ws, H1, _, e1, o1, o2, a1, S1⟩ := mv_cell (σ := σ) S hk hD hf (fun d hd s he => by
    have := mem_one hf hd
    simp only [Bool.and_eq_true] at this
    have := freeG_ne this.1 (List.mem_of_getElem? hi)
    simp only [Loc.key, Prod.mk.injEq] at he
    exact this he.2.1) (S.atG hi) hlt
  rw [Nat.zero_add] at e1
  refine ⟨c, _, e1, SoC.own o1 o2, fun v hv => ?_, S1.setG hi hf0 (by simp)⟩
  obtain ⟨_, ⟨_, _, h | h⟩ | ⟨s, h⟩⟩ := o1 <;> rw [hv] at h <;> cases h <;> simp
theorem Fm.mvB (S : Fm N h0 B Γ Δ Hp) {i j k off : Nat} {l : Loc} {σ : Stamp} {cs : List C} {g : Gw} (hk : Δ[k]? = some g) (hD : noLit g.D = true) (hf : freeL g.D Γ (Δ.eraseIdx k) = true) (hi : B[i]? = some ⟨l, off, cs⟩) (hj : (cs[j]?).isSome = true) :
    ∃ c H', stO true 1 σ Hp (.ref l (off + j)) g.v = some H' ∧ SoC g.d g.xs c ∧ (∀ v, c = .v v → v = .p (.slice none 0 0) ∨ v = .fz [] 0 g.d.sz true) ∧ Fm N h0 (B.set i ⟨l, off, cs.set j c⟩) Γ (Δ.eraseIdx k) H' := by
  have hlt : j < cs.length := by
    obtain ⟨y, hy⟩ := Option.isSome_iff_exists.1 hj
    exact (List.getElem?_eq_some_iff.1 hy).1
  have hlow : l.lvl < h0.length := by
    obtain ⟨L, rfl, h2, h3, h4, h5⟩ := S
    have := (h3.at hi).lt
    rwa [pts_length] at this
  obtain ⟨c, ws, H1, _, e1, o1, o2, a1, S1⟩ := mv_cell (σ := σ) S hk hD hf (fun d hd s he => by
    simp only [Loc.key, Prod.mk.injEq] at he
    omega) (S.atB hi) hlt
  refine ⟨c, _, e1, SoC.own o1 o2, fun v hv => ?_, S1.setB hi (by simp)⟩
  obtain ⟨_, ⟨_, _, h | h⟩ | ⟨s, h⟩⟩ := o1 <;> rw [hv] at h <;> cases h <;> simp
end
end Go.Ev
namespace Go.Ev
/-- A cell, and what it is when it leaves. -/
def FrC (c : C) (y : V) : Prop := (c = .v y ∧ Still y) ∨ ∃ s n k ws, c = .arr s n k (ws.map .v) ∧ ws.length = n * k ∧ y = .fz ws n k false
def FrCs : List C → List V → Prop
  | [], [] => True
  | c :: cs, y :: ys => FrC c y ∧ FrCs cs ys
  | _, _ => False
theorem FrC.v {x : V} (h : Still x) : FrC (.v x) x := .inl ⟨rfl, h⟩
theorem SoC.fr {α : Type} {d : Dt α} {xs : List α} {c : C} (h : SoC d xs c) : ∃ y, FrC c y ∧ SlF d xs y := by
  rcases h with ⟨v, rfl, hv⟩ | ⟨s, ws, rfl, hl⟩
  · exact ⟨v, .inl ⟨rfl, hv.still⟩, hv⟩
  · have hlen := RL.length (fun h => d.len h) hl
    exact ⟨_, .inr ⟨s, _, _, ws, rfl, hlen, rfl⟩, ws, .fz hlen _, hl⟩
theorem FrC.still {c : C} {y : V} (h : FrC c y) : Still y := by
  rcases h with ⟨_, h⟩ | ⟨s, n, k, ws, _, _, rfl⟩
  · exact h
  · exact still_fz ..
theorem FrCs.len : ∀ {cs : List C} {ys : List V}, FrCs cs ys → ys.length = cs.length
  | [], [], _ => rfl
  | c :: cs, y :: ys, ⟨_, h⟩ => by simp [FrCs.len h]
  | [], _ :: _, h => by cases h
  | _ :: _, [], h => by cases h
theorem FrCs.stills : ∀ {cs : List C} {ys : List V}, FrCs cs ys → Stills ys
  | [], [], _ => stills_nil
  | c :: cs, y :: ys, ⟨h1, h⟩ => stills_cons h1.still (FrCs.stills h)
  | [], _ :: _, h => by cases h
  | _ :: _, [], h => by cases h
theorem lay_fr {H : Ev.H} {l : Loc} {pre post : List C} {c : C} {y : V} (hl : l.lvl = top H) (ha : AtC H l 0 (pre ++ c :: post)) (hf : FrC c y) : ∃ x, toV l pre.length c = some x ∧ layC false H x = some (.v y, ptC H l 0 (pre ++ .v y :: post)) := by
  have hj : (pre ++ c :: post)[pre.length]? = some c := by simp
  rcases hf with ⟨rfl, hs⟩ | ⟨s, n, k, ws, rfl, hlen, rfl⟩
  · exact ⟨y, rfl, by rw [ha.same]; exact hs.lay false H⟩
  · refine ⟨_, rfl, ?_⟩
    have h1 : (l.hop pre.length s).lvl = top H := hl
    have ha0 := ha
    obtain ⟨p, q, hn, hp⟩ := ha
    have hp0 : p = [] := List.length_eq_zero_iff.1 hp
    subst hp0
    rw [List.nil_append] at hn
    have hcell : ((pre ++ C.arr s n k (ws.map C.v) :: post) ++ q)[pre.length]? = some (.arr s n k (ws.map .v)) := by simp
    have h2 : at_ H (l.hop pre.length s) = some (.arr s n k (ws.map .v)) := by rw [at_hop, hn]; simp [C.node]
    have h3 : rng ws 0 (n * k) = some ws := by unfold rng; rw [if_pos (by omega)]; simp [← hlen]
    simp only [layC, h1, h2, Bool.false_eq_true, if_false, if_true, hop_last, true_and, List.length_map, hlen, plainCells_map, Option.bind_some, h3]
    rw [if_neg (by simp [Loc.hop]), setAt_hop hn hcell, ptC_eq (off := 0) (p := []) (q := q) (cs := pre ++ C.arr s n k (ws.map C.v) :: post) hn rfl (by simp)]
    simp
theorem top_pt {H : Ev.H} (l : Loc) (off : Nat) (cs : List C) : top (ptC H l off cs) = top H := by simp [top, ptC_length]
theorem frz_all {l : Loc} : ∀ {cs : List C} {ys : List V} {H : Ev.H} {pre : List C}, l.lvl = top H → AtC H l 0 (pre ++ cs) → FrCs cs ys →
    ∃ xs, toVs l pre.length cs = some xs ∧ frzCs H xs = some (ys, ptC H l 0 (pre ++ ys.map .v)) ∧ layCs false H xs = some (ys.map .v, ptC H l 0 (pre ++ ys.map .v))
  | [], [], H, pre, hl, ha, _ => ⟨[], rfl, by rw [show pre ++ [].map C.v = pre ++ [] from rfl, ha.same]; rfl, by rw [show pre ++ [].map C.v = pre ++ [] from rfl, ha.same]; rfl⟩
  | c :: cs, y :: ys, H, pre, hl, ha, ⟨h1, h2⟩ => by
    obtain ⟨x, e1, e2⟩ := lay_fr hl ha h1
    have ha2 : AtC (ptC H l 0 (pre ++ .v y :: cs)) l 0 ((pre ++ [.v y]) ++ cs) := by
      have := ha.put (cs' := pre ++ .v y :: cs) (by simp)
      simpa using this
    obtain ⟨xs, q1, q2, q3⟩ := frz_all (pre := pre ++ [.v y]) (by rw [top_pt]; exact hl) ha2 h2
    have hp : ptC (ptC H l 0 (pre ++ .v y :: cs)) l 0 (pre ++ [C.v y] ++ ys.map .v) = ptC H l 0 (pre ++ (y :: ys).map .v) := by
      rw [ha.put_put (by simp) (by have := h2.len; simp; omega)]
      simp
    refine ⟨x :: xs, ?_, ?_, ?_⟩
    · simp only [List.length_append, List.length_cons, List.length_nil] at q1
      simp only [toVs, e1, Option.bind_some, q1]
    · simp only [frzCs, e2, Option.bind_some, q2, Option.map_some]
      rw [hp]
    · simp only [layCs, e2, Option.bind_some, q3]
      rw [hp]; rfl
  | [], _ :: _, _, _, _, _, h => by cases h
  | _ :: _, [], _, _, _, _, h => by cases h
section
variable {N : Nat} {h0 Hp : H} {B : List Rt} {Γ : List (Nat × Stamp × List C)} {Δ : List Gw}
/-- A variable's struct leaves. -/
theorem Fm.frzV (S : Fm N h0 B Γ Δ Hp) {i d n : Nat} {s : Stamp} {cs : List C} {ys : List V} (hi : Γ[i]? = some (d, s, cs)) (hf : (freeG (Γ.eraseIdx i) d && freeD Δ d) = true) (hy : FrCs cs ys) (hn : ys.length = n) (_ : 0 < n) :
    ∃ xs H', xs.length = ys.length ∧ ldO true n Hp (.ref ⟨h0.length, d, 0, s, []⟩ 0) = some (.agg xs) ∧ (∀ frz τ, expF frz τ Hp (.agg xs) = some (.v (.agg ys), H')) ∧ layCs false Hp xs = some (ys.map .v, H') ∧ Fm N h0 B (Γ.set i (d, s, ys.map .v)) Δ H' := by
  have ha := S.atG hi
  have hl : (⟨h0.length, d, 0, s, []⟩ : Loc).lvl = top Hp := by simp [top, S.len]
  have hlen := hy.len
  obtain ⟨xs, e1, e2, e3⟩ := frz_all (pre := []) hl (by simpa using ha) hy
  refine ⟨xs, _, by rw [toVs_length e1, hlen], ?_, ?_, e3, by simpa using S.setG (cs' := ys.map .v) hi hf (by simp [hlen])⟩
  · have := ha.ldAgg (j := 0) (n := n) (agg := true) (xs := xs) (by omega) (by rw [List.drop_zero, List.take_of_length_le (by omega)]; exact e1)
    simpa [mkV] using this
  · intro frz τ
    cases frz <;> simp [expF, expC, e2]
end
end Go.Ev
namespace Go.Ev
theorem GrowS.to {D : List Nat} {L : Layer} {h : H} {v : V} {k n : Nat} {xs : List V} (ha : GrowS D L h.length v k n xs) {b d m : Nat} {σ : Stamp} {ys : List V} (hd : d < L.length) (hm : m ≠ 0) (hcl : ys.length = m * k) (hb : (n + m) * b ≤ 2 ^ 47) (hb2 : n + m < 2 ^ 61) :
    ∃ v' L', apTo k b σ d (L :: h) m (ys.map .v) v = some (v', L' :: h) ∧ GrowS (d :: D) L' h.length v' k (n + m) (xs ++ ys) ∧ L'.length = L.length ∧ ∀ j, j ∉ d :: D → L'[j]? = L[j]? := by
  rcases ha with ⟨rfl, rfl, rfl | rfl⟩ | ⟨h2, d', hd', s, tl, rfl, h3⟩ | ⟨rfl, h2, h3, _⟩
  · refine ⟨_, L.set d [.arr σ m k (ys.map .v)], ?_, .inr (.inl ⟨by simpa using hcl, d, List.mem_cons_self .., σ, [], by rw [Nat.zero_add], by simp [hd]⟩), by simp, fun j hj => ?_⟩
    · rw [apTo, if_pos ⟨by simpa using hb, by simpa using hb2⟩]; simp
    · rw [List.getElem?_set_ne (fun e => hj (by rw [← e]; exact List.mem_cons_self ..))]
  · refine ⟨_, L.set d [.arr σ (0 + m) k (ys.map .v)], ?_, .inr (.inl ⟨by simpa using hcl, d, List.mem_cons_self .., σ, [], rfl, by simp [hd]⟩), by simp, fun j hj => ?_⟩
    · rw [apTo, if_pos ⟨rfl, rfl, by simp, by simpa using hb, by simpa using hb2, by simp⟩]; simp
    · rw [List.getElem?_set_ne (fun e => hj (by rw [← e]; exact List.mem_cons_self ..))]
  · refine ⟨_, (L.set d' (.dead :: tl)).set d [.arr σ (n + m) k (xs.map .v ++ ys.map .v)], ?_, .inr (.inl ⟨by rw [List.length_append, h2, hcl, Nat.add_mul], d, List.mem_cons_self .., σ, [], rfl, by simp [hd]⟩), by simp, fun j hj => ?_⟩
    · rw [apTo, if_neg (by simp), nd_arr h3]
      simp only [Option.bind_some]
      rw [if_neg (by omega), if_pos ⟨trivial, by simpa using h2, hb, hb2⟩, setAt_root h3]
      simp
    · rw [List.getElem?_set_ne (fun e => hj (by rw [← e]; exact List.mem_cons_self ..)), List.getElem?_set_ne (fun e => hj (by rw [← e]; exact List.mem_cons_of_mem _ hd'))]
  · refine ⟨_, L.set d [.arr σ (n + m) k (xs.map .v ++ ys.map .v)], ?_, .inr (.inl ⟨by rw [List.length_append, h2, hcl, Nat.add_mul], d, List.mem_cons_self .., σ, [], rfl, by simp [hd]⟩), by simp, fun j hj => ?_⟩
    · rw [apTo, if_pos ⟨rfl, rfl, h2, hb, hb2, Still.leafs h3⟩]; simp
    · rw [List.getElem?_set_ne (fun e => hj (by rw [← e]; exact List.mem_cons_self ..))]
section
variable {N : Nat} {h0 Hp : H} {B : List Rt} {Γ : List (Nat × Stamp × List C)} {Δ : List Gw}
theorem bldS1 {P : Program} {t te e : Nat} {xs : List V} {z : List V} (h1 : telem P t = some te) (h2 : tzero P te = some z) (h3 : (z.length = e ∧ tsize P te = e ∧ e ≠ 0 ∧ e ≤ 2 ^ 24) ∧ True) (hx : xs.length = e) : buildSliceV P t 1 [(0, .agg xs)] = some (.fz xs 1 e true) := by
  obtain ⟨⟨a1, a2, a3, a4⟩, _⟩ := h3
  unfold buildSliceV
  simp only [h1, h2, Option.bind_some, a1, a2, fillV, Nat.zero_mul]
  have hr : rept 1 z = z := by simp [rept]
  rw [if_neg (by simp; omega), hr]
  simp only [V.cells, hx, a1, ne_eq, not_true_eq_false, false_or, Nat.zero_add]
  rw [if_neg (by omega)]
  simp [← a1]
end
end Go.Ev
namespace Go.Ev
section
variable {N : Nat} {h0 Hp : H} {B : List Rt} {Γ : List (Nat × Stamp × List C)} {Δ : List Gw}
/-- A struct whose cells own slices is stored: it is frozen. -/
theorem Fm.stFrz {H : Ev.H} (S : Fm N h0 B Γ Δ Hp) {i d j n : Nat} {s σ : Stamp} {cs cs0 : List C} {B0 : List Rt} {Γ0 : List (Nat × Stamp × List C)} {Δ0 : List Gw} {i0 : Nat} {xs ys : List V} (S0 : Fm N h0 B0 Γ0 Δ0 H) (hi0 : Γ0[i0]? = some (d, s, cs0)) (hl : layCs false H xs = some (ys.map .v, Hp)) (hi : Γ[i]? = some (d, s, cs)) (hf : (freeG (Γ.eraseIdx i) d && freeD Δ d) = true) (hx : xs.length = ys.length) (hn : ys.length = n) (hj : decide (j + n ≤ cs.length) = true) :
    ∃ H', stO false n σ H (.ref ⟨h0.length, d, 0, s, []⟩ j) (.agg xs) = some H' ∧ Fm N h0 B (Γ.set i (d, s, cs.take j ++ ys.map .v ++ cs.drop (j + n))) Δ H' := by
  have hj := of_decide_eq_true hj
  obtain ⟨p0, q0, hn0, hp0⟩ := S0.atG hi0
  have ha := S.atG hi
  have h00 : p0 = [] := List.length_eq_zero_iff.1 hp0
  subst h00
  obtain ⟨p, q, hn1, hp⟩ := ha
  have h01 : p = [] := List.length_eq_zero_iff.1 hp
  subst h01
  refine ⟨_, ?_, S.setG (cs' := cs.take j ++ ys.map .v ++ cs.drop (j + n)) hi hf (by simp; omega)⟩
  unfold stO
  have hsm : sameArr ⟨h0.length, d, 0, s, []⟩ j ([] ++ cs0 ++ q0)[j]? (.agg xs) = false := same_no (by simp)
  have hc : (V.agg xs).cells = xs := rfl
  simp only [hc, hx, hn, hn0, hsm, hl, Option.bind_some, hn1, List.length_map]
  simp only [Bool.not_true, Bool.false_or, bne_self_eq_false, Bool.false_eq_true, if_false]
  rw [if_pos (by simp; omega), ptC_eq (off := 0) hn1 rfl (by simp; omega)]
  simp only [List.nil_append]
  rw [List.take_append_of_le_length (by omega), List.drop_append_of_le_length (by omega)]
  simp
end
end Go.Ev
namespace Go.Ev
/-! ### '==' of structs -/
def andL : List Bool → Option Bool
  | [] => some true
  | b :: bs => (some b).bind fun r => if r = true then andL bs else some false
def andB : List Bool → Bool
  | [] => true
  | b :: bs => b && andB bs
theorem andL_ok : ∀ bs : List Bool, andL bs = some (andB bs)
  | [] => rfl
  | b :: bs => by cases b <;> simp [andL, andB, andL_ok bs]
theorem eqS_v {P : Program} {h : H} {t : TypeId} {xs ys : List V} {b : Bool} (hb : flatE P t xs ys = some b) : eqlV P h t (.agg xs) (.agg ys) = some b := by
  have hb0 := hb
  unfold flatE at hb
  split at hb
  · rename_i fs hu
    simp only [eqlV, hu, hb0]
  · rename_i n e hu
    simp only [eqlV, hu, hb0]
  · cases hb
theorem nqS_ok {P : Program} {h : H} {t : TypeId} {xs ys : List V} {bs : List Bool} (hb : flatE P t xs ys = andL bs) : binV P h .neq t (.agg xs) (.agg ys) = some (.p (.bool !(andB bs))) := by
  show (eqlV P h t (.agg xs) (.agg ys)).map _ = _
  rw [eqS_v (hb.trans (andL_ok bs))]; rfl
end Go.Ev
namespace Go.Ev
/-! ### Structs of slices that grew -/
theorem frz_of_lay : ∀ {xs ys : List V} {H H' : Ev.H}, layCs false H xs = some (ys.map C.v, H') → frzCs H xs = some (ys, H')
  | [], ys, H, H', h => by
    simp only [layCs, Option.some.injEq, Prod.mk.injEq] at h
    obtain ⟨h1, rfl⟩ := h
    have : ys = [] := by cases ys with | nil => rfl | cons y ys => cases h1
    subst this; rfl
  | x :: xs, ys, H, H', h => by
    simp only [layCs] at h
    obtain ⟨⟨c, H1⟩, h1, h2⟩ := Option.bind_eq_some_iff.1 h
    obtain ⟨⟨cs, H2⟩, h3, h4⟩ := Option.bind_eq_some_iff.1 h2
    simp only [Option.some.injEq, Prod.mk.injEq] at h4
    obtain ⟨h4, rfl⟩ := h4
    cases ys with
    | nil => cases h4
    | cons y ys =>
      simp only [List.map_cons, List.cons.injEq] at h4
      obtain ⟨rfl, rfl⟩ := h4
      simp only [frzCs, h1, Option.bind_some, frz_of_lay h3, Option.map_some]
section
variable {N : Nat} {h0 Hp : H} {B : List Rt} {Γ : List (Nat × Stamp × List C)} {Δ : List Gw}
end
end Go.Ev
namespace Go.Ev
/-! ### Arrays of numbers, bools -/
theorem RL.bools : ∀ {xs : List Bool} {cs : List V}, dB.L xs cs → cs = xs.map fun n => .p (.bool n)
  | [], cs, h => h
  | x :: xs, cs, ⟨a, b, h1, h2, h3⟩ => by
    have e : a = [.p (.bool x)] := h2
    subst h1; subst e
    rw [RL.bools h3]; rfl
section
variable {h : H} {l : Loc} {off j n : Nat} {cs : List C} {α : Type} {xs : List α} {f : α → V}
end
section
variable {N : Nat} {h0 Hp : H} {B : List Rt} {Γ : List (Nat × Stamp × List C)} {Δ : List Gw}
end
end Go.Ev
/- From a law's arguments to the data that the lifted functions take. -/
namespace Go.Ev
theorem rl_val {t : DT} {α : Type} {d : Dt α} (f : t.D → α) (hc : ∀ x, d.R (f x) (t.cells x)) : ∀ l : List t.D, d.L (l.map f) (l.flatMap t.cells)
  | [] => RL.nil
  | x :: l => by
    rw [List.map_cons, List.flatMap_cons]
    exact RL.cons (hc x) (rl_val f hc l)
theorem slF_val {b : Nat} {t : DT} {α : Type} {d : Dt α} (f : t.D → α) (hc : ∀ x, d.R (f x) (t.cells x)) (hz : d.sz = t.size) (x : Option (List t.D)) : SlF d ((x.getD []).map f) ((DT.slice b t).val x) := by
  refine ⟨(x.getD []).flatMap t.cells, ?_, rl_val f hc _⟩
  rw [hz, List.length_map]
  exact fun h => isSl_val x h
theorem slF_ints {b : Nat} {k : IntKind} (x : Option (List Int)) : SlF (dI k) (x.getD []) ((DT.slice b (.int k)).val x) := by
  have := slF_val (b := b) (t := .int k) (d := dI k) (fun x => x) (fun x => rfl) rfl x
  rwa [List.map_id'] at this
/-! ### Arguments that are frozen as they go -/
theorem frzA_still {x : V} (hx : Still x) (hr : ∀ l o, x ≠ .ref l o) (hz : ∀ cs n e t, x = .fz cs n e t → Stills cs) (h : H) : frzA h x = some (x, h) := by
  unfold frzA
  split
  · exact absurd rfl (hr _ _)
  · have := hx.lay false h; simp [layC] at this
  · rw [frzCs_still h (hz _ _ _ _ rfl)]; rfl
  · rw [hx.lay false h]; rfl
theorem SlH.fzs {α : Type} {d : Dt α} {xs : List α} {v : V} {h : H} (hx : SlH h d xs v) : ∀ cs n e t, v = .fz cs n e t → Stills cs := by
  intro cs n e t he
  obtain ⟨cs', h1, h2⟩ := hx
  have := h1.cells
  subst he
  simp only [cellsOf, Option.some.injEq] at this
  rw [this]
  exact RL.stills h2
theorem frzA_F {α : Type} {d : Dt α} {xs : List α} {v : V} (hx : SlF d xs v) {h : H} : frzA h v = some (v, h) := by
  refine frzA_still hx.still (fun l o he => ?_) (hx.h []).fzs h
  obtain ⟨cs, h1, _⟩ := hx
  have := (h1 []).sl
  subst he
  simp [isSl] at this
theorem frzAs_nil {h : H} : frzAs h [] = some ([], h) := rfl
theorem frzAs_cons {h h1 h2 : H} {x y : V} {xs ys : List V} (a : frzA h x = some (y, h1)) (b : frzAs h1 xs = some (ys, h2)) : frzAs h (x :: xs) = some (y :: ys, h2) := by
  simp only [frzAs, a, Option.bind_some, b, Option.map_some]
theorem callFO_eq {rec : CallF} {f : FuncId} {σ : Stamp} {args args' : List V} {H H' : Go.Ev.H} {d : Option Nat} (e : frzAs H args = some (args', H')) : callFO rec f σ args H d = callO rec f σ args' H' d := by
  unfold callFO callO; rw [e]; rfl
/-! ### A part of an element is written -/
end Go.Ev
/- Words for plain proofs about the lifted functions: when they answer, and what. -/
namespace Go.Ev
theorem ix_at {α : Type} {xs : List α} {i : Nat} {x : α} (h : xs[i]? = some x) : ix xs (i : Int) = some x := by
  unfold ix; rw [if_pos (by omega)]; simpa using h
theorem ix_mid {α : Type} {xs ys : List α} {x : α} : ix (xs ++ x :: ys) (xs.length : Int) = some x := ix_at (by simp)
theorem ix_mid' {α : Type} {l xs ys : List α} {x : α} {i : Int} (hl : l = xs ++ x :: ys) (hi : i = xs.length) : ix l i = some x := by subst hl; subst hi; exact ix_mid
theorem ap_eq {α : Type} {b : Nat} {xs ys : List α} (hb : b ≤ 64) (h : xs.length + ys.length < 2 ^ 40) : ap b xs ys = some (xs ++ ys) := by
  unfold ap
  refine if_pos ⟨?_, by omega⟩
  have : (xs.length + ys.length) * b ≤ (xs.length + ys.length) * 64 := Nat.mul_le_mul_left _ hb
  omega
theorem clone_eq {α : Type} {b : Nat} {xs : List α} (hb : b ≤ 64) (h : xs.length < 2 ^ 40) : p_clone b xs = some xs := by
  unfold p_clone; rw [ap_eq hb (by simpa using h)]; rfl
theorem sub_eq {α : Type} {xs : List α} {a n : Nat} (h : a + n ≤ xs.length) : sub xs (a : Int) ((a + n : Nat) : Int) = some ((xs.drop a).take n) := by
  unfold sub
  rw [if_pos ⟨by omega, by omega, by omega⟩]
  congr 2
  omega
theorem wrap_i64 {n : Int} (h1 : -9223372036854775808 ≤ n) (h2 : n < 9223372036854775808) : IntKind.wrap .i64 n = n := wrap64 h1 h2
theorem wrap_u8 {n : Int} (h1 : 0 ≤ n) (h2 : n < 256) : IntKind.wrap .u8 n = n := by
  simp only [IntKind.wrap, IntKind.signed, IntKind.bits]
  simp
  omega
end Go.Ev
/- A slice of a frame below that is appended to: it goes, and a new one comes. -/
namespace Go.Ev
/-- A slice that the frame below holds in slots of its own. -/
def OwnA {α : Type} (D : List Nat) (h : H) (dt : Dt α) (xs : List α) (v : V) : Prop := ∃ cs L h1, h = L :: h1 ∧ dt.L xs cs ∧ GrowS D L h1.length v dt.sz xs.length cs
/-- What lay in these slots may be gone, all else stands. -/
def KillA (D : List Nat) (h h' : H) : Prop := ∃ L L' h1, h = L :: h1 ∧ h' = L' :: h1 ∧ L'.length = L.length ∧ ∀ j, j ∉ D → L'[j]? = L[j]?
theorem OwnA.h {α : Type} {D : List Nat} {h : H} {dt : Dt α} {xs : List α} {v : V} (ho : OwnA D h dt xs v) : SlH h dt xs v := by
  obtain ⟨cs, L, h1, rfl, hl, hg⟩ := ho
  exact ⟨cs, hg.sl, hl⟩
theorem OwnA.refl {α : Type} {D : List Nat} {h : H} {dt : Dt α} {xs : List α} {v : V} (ho : OwnA D h dt xs v) : KillA D h h := by
  obtain ⟨cs, L, h1, rfl, _, _⟩ := ho
  exact ⟨L, L, h1, rfl, rfl, rfl, fun _ _ => rfl⟩
theorem frzA_fz {h h' : H} {xs ys : List V} {n k : Nat} {t : Bool} (e : frzCs h xs = some (ys, h')) : frzA h (.fz xs n k t) = some (.fz ys n k t, h') := by
  simp only [frzA, e, Option.map_some]
end Go.Ev
/- The structs that may be plain values, printed by lfty.py. -/
namespace Go.Ev
set_option linter.unusedVariables false
structure T_struct_msg_string_addr_uintptr where
  msg : ByteArray
  addr : Int
def T_struct_msg_string_addr_uintptr.tp (x : T_struct_msg_string_addr_uintptr) : (ByteArray × (Int × Unit)) := (x.msg, (x.addr, ()))
def dT_struct_msg_string_addr_uintptr : Dt T_struct_msg_string_addr_uintptr := (dP dS (dP (dI .u64) dU)).via T_struct_msg_string_addr_uintptr.tp
theorem dT_struct_msg_string_addr_uintptr.inv {x : T_struct_msg_string_addr_uintptr} {vs : List V} (h : dT_struct_msg_string_addr_uintptr.R x vs) : vs = [.p (.string x.msg), .p (.int .u64 x.addr)] := by
  obtain ⟨u0, w0, e0, h0, u1, w1, e1, h1, hend⟩ := h
  obtain rfl : u0 = [.p (.string x.msg)] := h0
  obtain rfl : u1 = [.p (.int .u64 x.addr)] := h1
  obtain rfl := (show _ = [] from hend)
  subst e1
  subst e0
  rfl
theorem dT_struct_msg_string_addr_uintptr.mk {y_msg : ByteArray} {y_addr : Int}  : dT_struct_msg_string_addr_uintptr.R (⟨y_msg, y_addr⟩ : T_struct_msg_string_addr_uintptr) [.p (.string y_msg), .p (.int .u64 y_addr)] := ⟨[.p (.string y_msg)], [.p (.int .u64 y_addr)], rfl, rfl, ⟨[.p (.int .u64 y_addr)], [], rfl, rfl, rfl⟩⟩
structure T_struct_L_int_At_int where
  f_L : (List Int)
  f_At : Int
def T_struct_L_int_At_int.tp (x : T_struct_L_int_At_int) : ((List Int) × (Int × Unit)) := (x.f_L, (x.f_At, ()))
def dT_struct_L_int_At_int : Dt T_struct_L_int_At_int := (dP (dSl (dI .i64)) (dP (dI .i64) dU)).via T_struct_L_int_At_int.tp
theorem dT_struct_L_int_At_int.inv {x : T_struct_L_int_At_int} {vs : List V} (h : dT_struct_L_int_At_int.R x vs) : ∃ v0, vs = [v0, .p (.int .i64 x.f_At)] ∧ SlF (dI .i64) x.f_L v0 := by
  obtain ⟨u0, w0, e0, h0, u1, w1, e1, h1, hend⟩ := h
  obtain ⟨v0, rfl, s0⟩ := h0
  obtain rfl : u1 = [.p (.int .i64 x.f_At)] := h1
  obtain rfl := (show _ = [] from hend)
  subst e1
  subst e0
  exact ⟨v0, rfl, s0⟩
theorem dT_struct_L_int_At_int.mk {y_f_L : (List Int)} {y_f_At : Int} {v0 : V} (s0 : SlF (dI .i64) y_f_L v0) : dT_struct_L_int_At_int.R (⟨y_f_L, y_f_At⟩ : T_struct_L_int_At_int) [v0, .p (.int .i64 y_f_At)] := ⟨[v0], [.p (.int .i64 y_f_At)], rfl, ⟨v0, rfl, s0⟩, ⟨[.p (.int .i64 y_f_At)], [], rfl, rfl, rfl⟩⟩
structure T_limelightkeep_Tape where
  f_L : (List Int)
  f_At : Int
def T_limelightkeep_Tape.tp (x : T_limelightkeep_Tape) : ((List Int) × (Int × Unit)) := (x.f_L, (x.f_At, ()))
def dT_limelightkeep_Tape : Dt T_limelightkeep_Tape := (dP (dSl (dI .i64)) (dP (dI .i64) dU)).via T_limelightkeep_Tape.tp
theorem dT_limelightkeep_Tape.inv {x : T_limelightkeep_Tape} {vs : List V} (h : dT_limelightkeep_Tape.R x vs) : ∃ v0, vs = [v0, .p (.int .i64 x.f_At)] ∧ SlF (dI .i64) x.f_L v0 := by
  obtain ⟨u0, w0, e0, h0, u1, w1, e1, h1, hend⟩ := h
  obtain ⟨v0, rfl, s0⟩ := h0
  obtain rfl : u1 = [.p (.int .i64 x.f_At)] := h1
  obtain rfl := (show _ = [] from hend)
  subst e1
  subst e0
  exact ⟨v0, rfl, s0⟩
theorem dT_limelightkeep_Tape.mk {y_f_L : (List Int)} {y_f_At : Int} {v0 : V} (s0 : SlF (dI .i64) y_f_L v0) : dT_limelightkeep_Tape.R (⟨y_f_L, y_f_At⟩ : T_limelightkeep_Tape) [v0, .p (.int .i64 y_f_At)] := ⟨[v0], [.p (.int .i64 y_f_At)], rfl, ⟨v0, rfl, s0⟩, ⟨[.p (.int .i64 y_f_At)], [], rfl, rfl, rfl⟩⟩
structure T_api_Tuple where
  Owner : Int
  Rate : Int
  Over : Int
def T_api_Tuple.tp (x : T_api_Tuple) : (Int × (Int × (Int × Unit))) := (x.Owner, (x.Rate, (x.Over, ())))
def dT_api_Tuple : Dt T_api_Tuple := (dP (dI .u32) (dP (dI .u64) (dP (dI .i64) dU))).via T_api_Tuple.tp
theorem dT_api_Tuple.inv {x : T_api_Tuple} {vs : List V} (h : dT_api_Tuple.R x vs) : vs = [.p (.int .u32 x.Owner), .p (.int .u64 x.Rate), .p (.int .i64 x.Over)] := by
  obtain ⟨u0, w0, e0, h0, u1, w1, e1, h1, u2, w2, e2, h2, hend⟩ := h
  obtain rfl : u0 = [.p (.int .u32 x.Owner)] := h0
  obtain rfl : u1 = [.p (.int .u64 x.Rate)] := h1
  obtain rfl : u2 = [.p (.int .i64 x.Over)] := h2
  obtain rfl := (show _ = [] from hend)
  subst e2
  subst e1
  subst e0
  rfl
theorem dT_api_Tuple.mk {y_Owner : Int} {y_Rate : Int} {y_Over : Int}  : dT_api_Tuple.R (⟨y_Owner, y_Rate, y_Over⟩ : T_api_Tuple) [.p (.int .u32 y_Owner), .p (.int .u64 y_Rate), .p (.int .i64 y_Over)] := ⟨[.p (.int .u32 y_Owner)], [.p (.int .u64 y_Rate), .p (.int .i64 y_Over)], rfl, rfl, ⟨[.p (.int .u64 y_Rate)], [.p (.int .i64 y_Over)], rfl, rfl, ⟨[.p (.int .i64 y_Over)], [], rfl, rfl, rfl⟩⟩⟩
structure T_struct_Kind_int_From_uint32_About_uint32_Tuples_api_Tuple_Abouts_uint32_Numbers_int_Rate_uint64_Type_int_Count_int_Body_uint8 where
  Kind : Int
  From : Int
  About : Int
  Tuples : (List T_api_Tuple)
  Abouts : (List Int)
  Numbers : (List Int)
  Rate : Int
  f_Type : Int
  Count : Int
  Body : (List Int)
def T_struct_Kind_int_From_uint32_About_uint32_Tuples_api_Tuple_Abouts_uint32_Numbers_int_Rate_uint64_Type_int_Count_int_Body_uint8.tp (x : T_struct_Kind_int_From_uint32_About_uint32_Tuples_api_Tuple_Abouts_uint32_Numbers_int_Rate_uint64_Type_int_Count_int_Body_uint8) : (Int × (Int × (Int × ((List T_api_Tuple) × ((List Int) × ((List Int) × (Int × (Int × (Int × ((List Int) × Unit)))))))))) := (x.Kind, (x.From, (x.About, (x.Tuples, (x.Abouts, (x.Numbers, (x.Rate, (x.f_Type, (x.Count, (x.Body, ()))))))))))
def dT_struct_Kind_int_From_uint32_About_uint32_Tuples_api_Tuple_Abouts_uint32_Numbers_int_Rate_uint64_Type_int_Count_int_Body_uint8 : Dt T_struct_Kind_int_From_uint32_About_uint32_Tuples_api_Tuple_Abouts_uint32_Numbers_int_Rate_uint64_Type_int_Count_int_Body_uint8 := (dP (dI .i64) (dP (dI .u32) (dP (dI .u32) (dP (dSl dT_api_Tuple) (dP (dSl (dI .u32)) (dP (dSl (dI .i64)) (dP (dI .u64) (dP (dI .i64) (dP (dI .i64) (dP (dSl (dI .u8)) dU)))))))))).via T_struct_Kind_int_From_uint32_About_uint32_Tuples_api_Tuple_Abouts_uint32_Numbers_int_Rate_uint64_Type_int_Count_int_Body_uint8.tp
theorem dT_struct_Kind_int_From_uint32_About_uint32_Tuples_api_Tuple_Abouts_uint32_Numbers_int_Rate_uint64_Type_int_Count_int_Body_uint8.inv {x : T_struct_Kind_int_From_uint32_About_uint32_Tuples_api_Tuple_Abouts_uint32_Numbers_int_Rate_uint64_Type_int_Count_int_Body_uint8} {vs : List V} (h : dT_struct_Kind_int_From_uint32_About_uint32_Tuples_api_Tuple_Abouts_uint32_Numbers_int_Rate_uint64_Type_int_Count_int_Body_uint8.R x vs) : ∃ v3 v4 v5 v9, vs = [.p (.int .i64 x.Kind), .p (.int .u32 x.From), .p (.int .u32 x.About), v3, v4, v5, .p (.int .u64 x.Rate), .p (.int .i64 x.f_Type), .p (.int .i64 x.Count), v9] ∧ SlF dT_api_Tuple x.Tuples v3 ∧ SlF (dI .u32) x.Abouts v4 ∧ SlF (dI .i64) x.Numbers v5 ∧ SlF (dI .u8) x.Body v9 := by
  obtain ⟨u0, w0, e0, h0, u1, w1, e1, h1, u2, w2, e2, h2, u3, w3, e3, h3, u4, w4, e4, h4, u5, w5, e5, h5, u6, w6, e6, h6, u7, w7, e7, h7, u8, w8, e8, h8, u9, w9, e9, h9, hend⟩ := h
  obtain rfl : u0 = [.p (.int .i64 x.Kind)] := h0
  obtain rfl : u1 = [.p (.int .u32 x.From)] := h1
  obtain rfl : u2 = [.p (.int .u32 x.About)] := h2
  obtain ⟨v3, rfl, s3⟩ := h3
  obtain ⟨v4, rfl, s4⟩ := h4
  obtain ⟨v5, rfl, s5⟩ := h5
  obtain rfl : u6 = [.p (.int .u64 x.Rate)] := h6
  obtain rfl : u7 = [.p (.int .i64 x.f_Type)] := h7
  obtain rfl : u8 = [.p (.int .i64 x.Count)] := h8
  obtain ⟨v9, rfl, s9⟩ := h9
  obtain rfl := (show _ = [] from hend)
  subst e9
  subst e8
  subst e7
  subst e6
  subst e5
  subst e4
  subst e3
  subst e2
  subst e1
  subst e0
  exact ⟨v3, v4, v5, v9, rfl, s3, s4, s5, s9⟩
theorem dT_struct_Kind_int_From_uint32_About_uint32_Tuples_api_Tuple_Abouts_uint32_Numbers_int_Rate_uint64_Type_int_Count_int_Body_uint8.mk {y_Kind : Int} {y_From : Int} {y_About : Int} {y_Tuples : (List T_api_Tuple)} {y_Abouts : (List Int)} {y_Numbers : (List Int)} {y_Rate : Int} {y_f_Type : Int} {y_Count : Int} {y_Body : (List Int)} {v3 : V} {v4 : V} {v5 : V} {v9 : V} (s3 : SlF dT_api_Tuple y_Tuples v3) (s4 : SlF (dI .u32) y_Abouts v4) (s5 : SlF (dI .i64) y_Numbers v5) (s9 : SlF (dI .u8) y_Body v9) : dT_struct_Kind_int_From_uint32_About_uint32_Tuples_api_Tuple_Abouts_uint32_Numbers_int_Rate_uint64_Type_int_Count_int_Body_uint8.R (⟨y_Kind, y_From, y_About, y_Tuples, y_Abouts, y_Numbers, y_Rate, y_f_Type, y_Count, y_Body⟩ : T_struct_Kind_int_From_uint32_About_uint32_Tuples_api_Tuple_Abouts_uint32_Numbers_int_Rate_uint64_Type_int_Count_int_Body_uint8) [.p (.int .i64 y_Kind), .p (.int .u32 y_From), .p (.int .u32 y_About), v3, v4, v5, .p (.int .u64 y_Rate), .p (.int .i64 y_f_Type), .p (.int .i64 y_Count), v9] := ⟨[.p (.int .i64 y_Kind)], [.p (.int .u32 y_From), .p (.int .u32 y_About), v3, v4, v5, .p (.int .u64 y_Rate), .p (.int .i64 y_f_Type), .p (.int .i64 y_Count), v9], rfl, rfl, ⟨[.p (.int .u32 y_From)], [.p (.int .u32 y_About), v3, v4, v5, .p (.int .u64 y_Rate), .p (.int .i64 y_f_Type), .p (.int .i64 y_Count), v9], rfl, rfl, ⟨[.p (.int .u32 y_About)], [v3, v4, v5, .p (.int .u64 y_Rate), .p (.int .i64 y_f_Type), .p (.int .i64 y_Count), v9], rfl, rfl, ⟨[v3], [v4, v5, .p (.int .u64 y_Rate), .p (.int .i64 y_f_Type), .p (.int .i64 y_Count), v9], rfl, ⟨v3, rfl, s3⟩, ⟨[v4], [v5, .p (.int .u64 y_Rate), .p (.int .i64 y_f_Type), .p (.int .i64 y_Count), v9], rfl, ⟨v4, rfl, s4⟩, ⟨[v5], [.p (.int .u64 y_Rate), .p (.int .i64 y_f_Type), .p (.int .i64 y_Count), v9], rfl, ⟨v5, rfl, s5⟩, ⟨[.p (.int .u64 y_Rate)], [.p (.int .i64 y_f_Type), .p (.int .i64 y_Count), v9], rfl, rfl, ⟨[.p (.int .i64 y_f_Type)], [.p (.int .i64 y_Count), v9], rfl, rfl, ⟨[.p (.int .i64 y_Count)], [v9], rfl, rfl, ⟨[v9], [], rfl, ⟨v9, rfl, s9⟩, rfl⟩⟩⟩⟩⟩⟩⟩⟩⟩⟩
structure T_api_Report where
  Kind : Int
  From : Int
  About : Int
  Tuples : (List T_api_Tuple)
  Abouts : (List Int)
  Numbers : (List Int)
  Rate : Int
  f_Type : Int
  Count : Int
  Body : (List Int)
def T_api_Report.tp (x : T_api_Report) : (Int × (Int × (Int × ((List T_api_Tuple) × ((List Int) × ((List Int) × (Int × (Int × (Int × ((List Int) × Unit)))))))))) := (x.Kind, (x.From, (x.About, (x.Tuples, (x.Abouts, (x.Numbers, (x.Rate, (x.f_Type, (x.Count, (x.Body, ()))))))))))
def dT_api_Report : Dt T_api_Report := (dP (dI .i64) (dP (dI .u32) (dP (dI .u32) (dP (dSl dT_api_Tuple) (dP (dSl (dI .u32)) (dP (dSl (dI .i64)) (dP (dI .u64) (dP (dI .i64) (dP (dI .i64) (dP (dSl (dI .u8)) dU)))))))))).via T_api_Report.tp
theorem dT_api_Report.inv {x : T_api_Report} {vs : List V} (h : dT_api_Report.R x vs) : ∃ v3 v4 v5 v9, vs = [.p (.int .i64 x.Kind), .p (.int .u32 x.From), .p (.int .u32 x.About), v3, v4, v5, .p (.int .u64 x.Rate), .p (.int .i64 x.f_Type), .p (.int .i64 x.Count), v9] ∧ SlF dT_api_Tuple x.Tuples v3 ∧ SlF (dI .u32) x.Abouts v4 ∧ SlF (dI .i64) x.Numbers v5 ∧ SlF (dI .u8) x.Body v9 := by
  obtain ⟨u0, w0, e0, h0, u1, w1, e1, h1, u2, w2, e2, h2, u3, w3, e3, h3, u4, w4, e4, h4, u5, w5, e5, h5, u6, w6, e6, h6, u7, w7, e7, h7, u8, w8, e8, h8, u9, w9, e9, h9, hend⟩ := h
  obtain rfl : u0 = [.p (.int .i64 x.Kind)] := h0
  obtain rfl : u1 = [.p (.int .u32 x.From)] := h1
  obtain rfl : u2 = [.p (.int .u32 x.About)] := h2
  obtain ⟨v3, rfl, s3⟩ := h3
  obtain ⟨v4, rfl, s4⟩ := h4
  obtain ⟨v5, rfl, s5⟩ := h5
  obtain rfl : u6 = [.p (.int .u64 x.Rate)] := h6
  obtain rfl : u7 = [.p (.int .i64 x.f_Type)] := h7
  obtain rfl : u8 = [.p (.int .i64 x.Count)] := h8
  obtain ⟨v9, rfl, s9⟩ := h9
  obtain rfl := (show _ = [] from hend)
  subst e9
  subst e8
  subst e7
  subst e6
  subst e5
  subst e4
  subst e3
  subst e2
  subst e1
  subst e0
  exact ⟨v3, v4, v5, v9, rfl, s3, s4, s5, s9⟩
theorem dT_api_Report.mk {y_Kind : Int} {y_From : Int} {y_About : Int} {y_Tuples : (List T_api_Tuple)} {y_Abouts : (List Int)} {y_Numbers : (List Int)} {y_Rate : Int} {y_f_Type : Int} {y_Count : Int} {y_Body : (List Int)} {v3 : V} {v4 : V} {v5 : V} {v9 : V} (s3 : SlF dT_api_Tuple y_Tuples v3) (s4 : SlF (dI .u32) y_Abouts v4) (s5 : SlF (dI .i64) y_Numbers v5) (s9 : SlF (dI .u8) y_Body v9) : dT_api_Report.R (⟨y_Kind, y_From, y_About, y_Tuples, y_Abouts, y_Numbers, y_Rate, y_f_Type, y_Count, y_Body⟩ : T_api_Report) [.p (.int .i64 y_Kind), .p (.int .u32 y_From), .p (.int .u32 y_About), v3, v4, v5, .p (.int .u64 y_Rate), .p (.int .i64 y_f_Type), .p (.int .i64 y_Count), v9] := ⟨[.p (.int .i64 y_Kind)], [.p (.int .u32 y_From), .p (.int .u32 y_About), v3, v4, v5, .p (.int .u64 y_Rate), .p (.int .i64 y_f_Type), .p (.int .i64 y_Count), v9], rfl, rfl, ⟨[.p (.int .u32 y_From)], [.p (.int .u32 y_About), v3, v4, v5, .p (.int .u64 y_Rate), .p (.int .i64 y_f_Type), .p (.int .i64 y_Count), v9], rfl, rfl, ⟨[.p (.int .u32 y_About)], [v3, v4, v5, .p (.int .u64 y_Rate), .p (.int .i64 y_f_Type), .p (.int .i64 y_Count), v9], rfl, rfl, ⟨[v3], [v4, v5, .p (.int .u64 y_Rate), .p (.int .i64 y_f_Type), .p (.int .i64 y_Count), v9], rfl, ⟨v3, rfl, s3⟩, ⟨[v4], [v5, .p (.int .u64 y_Rate), .p (.int .i64 y_f_Type), .p (.int .i64 y_Count), v9], rfl, ⟨v4, rfl, s4⟩, ⟨[v5], [.p (.int .u64 y_Rate), .p (.int .i64 y_f_Type), .p (.int .i64 y_Count), v9], rfl, ⟨v5, rfl, s5⟩, ⟨[.p (.int .u64 y_Rate)], [.p (.int .i64 y_f_Type), .p (.int .i64 y_Count), v9], rfl, rfl, ⟨[.p (.int .i64 y_f_Type)], [.p (.int .i64 y_Count), v9], rfl, rfl, ⟨[.p (.int .i64 y_Count)], [v9], rfl, rfl, ⟨[v9], [], rfl, ⟨v9, rfl, s9⟩, rfl⟩⟩⟩⟩⟩⟩⟩⟩⟩⟩
structure T_struct_Owner_uint32_Rate_uint64_Over_int where
  Owner : Int
  Rate : Int
  Over : Int
def T_struct_Owner_uint32_Rate_uint64_Over_int.tp (x : T_struct_Owner_uint32_Rate_uint64_Over_int) : (Int × (Int × (Int × Unit))) := (x.Owner, (x.Rate, (x.Over, ())))
def dT_struct_Owner_uint32_Rate_uint64_Over_int : Dt T_struct_Owner_uint32_Rate_uint64_Over_int := (dP (dI .u32) (dP (dI .u64) (dP (dI .i64) dU))).via T_struct_Owner_uint32_Rate_uint64_Over_int.tp
theorem dT_struct_Owner_uint32_Rate_uint64_Over_int.inv {x : T_struct_Owner_uint32_Rate_uint64_Over_int} {vs : List V} (h : dT_struct_Owner_uint32_Rate_uint64_Over_int.R x vs) : vs = [.p (.int .u32 x.Owner), .p (.int .u64 x.Rate), .p (.int .i64 x.Over)] := by
  obtain ⟨u0, w0, e0, h0, u1, w1, e1, h1, u2, w2, e2, h2, hend⟩ := h
  obtain rfl : u0 = [.p (.int .u32 x.Owner)] := h0
  obtain rfl : u1 = [.p (.int .u64 x.Rate)] := h1
  obtain rfl : u2 = [.p (.int .i64 x.Over)] := h2
  obtain rfl := (show _ = [] from hend)
  subst e2
  subst e1
  subst e0
  rfl
theorem dT_struct_Owner_uint32_Rate_uint64_Over_int.mk {y_Owner : Int} {y_Rate : Int} {y_Over : Int}  : dT_struct_Owner_uint32_Rate_uint64_Over_int.R (⟨y_Owner, y_Rate, y_Over⟩ : T_struct_Owner_uint32_Rate_uint64_Over_int) [.p (.int .u32 y_Owner), .p (.int .u64 y_Rate), .p (.int .i64 y_Over)] := ⟨[.p (.int .u32 y_Owner)], [.p (.int .u64 y_Rate), .p (.int .i64 y_Over)], rfl, rfl, ⟨[.p (.int .u64 y_Rate)], [.p (.int .i64 y_Over)], rfl, rfl, ⟨[.p (.int .i64 y_Over)], [], rfl, rfl, rfl⟩⟩⟩
structure T_struct_Kind_int_T_api_Tuple_N_int64 where
  Kind : Int
  T : T_api_Tuple
  N : Int
def T_struct_Kind_int_T_api_Tuple_N_int64.tp (x : T_struct_Kind_int_T_api_Tuple_N_int64) : (Int × (T_api_Tuple × (Int × Unit))) := (x.Kind, (x.T, (x.N, ())))
def dT_struct_Kind_int_T_api_Tuple_N_int64 : Dt T_struct_Kind_int_T_api_Tuple_N_int64 := (dP (dI .i64) (dP dT_api_Tuple (dP (dI .i64) dU))).via T_struct_Kind_int_T_api_Tuple_N_int64.tp
theorem dT_struct_Kind_int_T_api_Tuple_N_int64.inv {x : T_struct_Kind_int_T_api_Tuple_N_int64} {vs : List V} (h : dT_struct_Kind_int_T_api_Tuple_N_int64.R x vs) : vs = [.p (.int .i64 x.Kind), .p (.int .u32 x.T.Owner), .p (.int .u64 x.T.Rate), .p (.int .i64 x.T.Over), .p (.int .i64 x.N)] := by
  obtain ⟨u0, w0, e0, h0, u1, w1, e1, h1, u2, w2, e2, h2, hend⟩ := h
  obtain rfl : u0 = [.p (.int .i64 x.Kind)] := h0
  obtain rfl := dT_api_Tuple.inv h1
  obtain rfl : u2 = [.p (.int .i64 x.N)] := h2
  obtain rfl := (show _ = [] from hend)
  subst e2
  subst e1
  subst e0
  rfl
theorem dT_struct_Kind_int_T_api_Tuple_N_int64.mk {y_Kind : Int} {y_T_Owner : Int} {y_T_Rate : Int} {y_T_Over : Int} {y_N : Int}  : dT_struct_Kind_int_T_api_Tuple_N_int64.R (⟨y_Kind, ⟨y_T_Owner, y_T_Rate, y_T_Over⟩, y_N⟩ : T_struct_Kind_int_T_api_Tuple_N_int64) [.p (.int .i64 y_Kind), .p (.int .u32 y_T_Owner), .p (.int .u64 y_T_Rate), .p (.int .i64 y_T_Over), .p (.int .i64 y_N)] := ⟨[.p (.int .i64 y_Kind)], [.p (.int .u32 y_T_Owner), .p (.int .u64 y_T_Rate), .p (.int .i64 y_T_Over), .p (.int .i64 y_N)], rfl, rfl, ⟨[.p (.int .u32 y_T_Owner), .p (.int .u64 y_T_Rate), .p (.int .i64 y_T_Over)], [.p (.int .i64 y_N)], rfl, ⟨[.p (.int .u32 y_T_Owner)], [.p (.int .u64 y_T_Rate), .p (.int .i64 y_T_Over)], rfl, rfl, ⟨[.p (.int .u64 y_T_Rate)], [.p (.int .i64 y_T_Over)], rfl, rfl, ⟨[.p (.int .i64 y_T_Over)], [], rfl, rfl, rfl⟩⟩⟩, ⟨[.p (.int .i64 y_N)], [], rfl, rfl, rfl⟩⟩⟩
structure T_limelightlaw14_Ask where
  Kind : Int
  T : T_api_Tuple
  N : Int
def T_limelightlaw14_Ask.tp (x : T_limelightlaw14_Ask) : (Int × (T_api_Tuple × (Int × Unit))) := (x.Kind, (x.T, (x.N, ())))
def dT_limelightlaw14_Ask : Dt T_limelightlaw14_Ask := (dP (dI .i64) (dP dT_api_Tuple (dP (dI .i64) dU))).via T_limelightlaw14_Ask.tp
theorem dT_limelightlaw14_Ask.inv {x : T_limelightlaw14_Ask} {vs : List V} (h : dT_limelightlaw14_Ask.R x vs) : vs = [.p (.int .i64 x.Kind), .p (.int .u32 x.T.Owner), .p (.int .u64 x.T.Rate), .p (.int .i64 x.T.Over), .p (.int .i64 x.N)] := by
  obtain ⟨u0, w0, e0, h0, u1, w1, e1, h1, u2, w2, e2, h2, hend⟩ := h
  obtain rfl : u0 = [.p (.int .i64 x.Kind)] := h0
  obtain rfl := dT_api_Tuple.inv h1
  obtain rfl : u2 = [.p (.int .i64 x.N)] := h2
  obtain rfl := (show _ = [] from hend)
  subst e2
  subst e1
  subst e0
  rfl
theorem dT_limelightlaw14_Ask.mk {y_Kind : Int} {y_T_Owner : Int} {y_T_Rate : Int} {y_T_Over : Int} {y_N : Int}  : dT_limelightlaw14_Ask.R (⟨y_Kind, ⟨y_T_Owner, y_T_Rate, y_T_Over⟩, y_N⟩ : T_limelightlaw14_Ask) [.p (.int .i64 y_Kind), .p (.int .u32 y_T_Owner), .p (.int .u64 y_T_Rate), .p (.int .i64 y_T_Over), .p (.int .i64 y_N)] := ⟨[.p (.int .i64 y_Kind)], [.p (.int .u32 y_T_Owner), .p (.int .u64 y_T_Rate), .p (.int .i64 y_T_Over), .p (.int .i64 y_N)], rfl, rfl, ⟨[.p (.int .u32 y_T_Owner), .p (.int .u64 y_T_Rate), .p (.int .i64 y_T_Over)], [.p (.int .i64 y_N)], rfl, ⟨[.p (.int .u32 y_T_Owner)], [.p (.int .u64 y_T_Rate), .p (.int .i64 y_T_Over)], rfl, rfl, ⟨[.p (.int .u64 y_T_Rate)], [.p (.int .i64 y_T_Over)], rfl, rfl, ⟨[.p (.int .i64 y_T_Over)], [], rfl, rfl, rfl⟩⟩⟩, ⟨[.p (.int .i64 y_N)], [], rfl, rfl, rfl⟩⟩⟩
structure T_struct_Cap_int64_Remb_int64_L_api_Tuple_Until_int64 where
  Cap : Int
  Remb : Int
  f_L : (List T_api_Tuple)
  Until : (List Int)
def T_struct_Cap_int64_Remb_int64_L_api_Tuple_Until_int64.tp (x : T_struct_Cap_int64_Remb_int64_L_api_Tuple_Until_int64) : (Int × (Int × ((List T_api_Tuple) × ((List Int) × Unit)))) := (x.Cap, (x.Remb, (x.f_L, (x.Until, ()))))
def dT_struct_Cap_int64_Remb_int64_L_api_Tuple_Until_int64 : Dt T_struct_Cap_int64_Remb_int64_L_api_Tuple_Until_int64 := (dP (dI .i64) (dP (dI .i64) (dP (dSl dT_api_Tuple) (dP (dSl (dI .i64)) dU)))).via T_struct_Cap_int64_Remb_int64_L_api_Tuple_Until_int64.tp
theorem dT_struct_Cap_int64_Remb_int64_L_api_Tuple_Until_int64.inv {x : T_struct_Cap_int64_Remb_int64_L_api_Tuple_Until_int64} {vs : List V} (h : dT_struct_Cap_int64_Remb_int64_L_api_Tuple_Until_int64.R x vs) : ∃ v2 v3, vs = [.p (.int .i64 x.Cap), .p (.int .i64 x.Remb), v2, v3] ∧ SlF dT_api_Tuple x.f_L v2 ∧ SlF (dI .i64) x.Until v3 := by
  obtain ⟨u0, w0, e0, h0, u1, w1, e1, h1, u2, w2, e2, h2, u3, w3, e3, h3, hend⟩ := h
  obtain rfl : u0 = [.p (.int .i64 x.Cap)] := h0
  obtain rfl : u1 = [.p (.int .i64 x.Remb)] := h1
  obtain ⟨v2, rfl, s2⟩ := h2
  obtain ⟨v3, rfl, s3⟩ := h3
  obtain rfl := (show _ = [] from hend)
  subst e3
  subst e2
  subst e1
  subst e0
  exact ⟨v2, v3, rfl, s2, s3⟩
theorem dT_struct_Cap_int64_Remb_int64_L_api_Tuple_Until_int64.mk {y_Cap : Int} {y_Remb : Int} {y_f_L : (List T_api_Tuple)} {y_Until : (List Int)} {v2 : V} {v3 : V} (s2 : SlF dT_api_Tuple y_f_L v2) (s3 : SlF (dI .i64) y_Until v3) : dT_struct_Cap_int64_Remb_int64_L_api_Tuple_Until_int64.R (⟨y_Cap, y_Remb, y_f_L, y_Until⟩ : T_struct_Cap_int64_Remb_int64_L_api_Tuple_Until_int64) [.p (.int .i64 y_Cap), .p (.int .i64 y_Remb), v2, v3] := ⟨[.p (.int .i64 y_Cap)], [.p (.int .i64 y_Remb), v2, v3], rfl, rfl, ⟨[.p (.int .i64 y_Remb)], [v2, v3], rfl, rfl, ⟨[v2], [v3], rfl, ⟨v2, rfl, s2⟩, ⟨[v3], [], rfl, ⟨v3, rfl, s3⟩, rfl⟩⟩⟩⟩
structure T_limelightref13_Limit where
  Cap : Int
  Remb : Int
  f_L : (List T_api_Tuple)
  Until : (List Int)
def T_limelightref13_Limit.tp (x : T_limelightref13_Limit) : (Int × (Int × ((List T_api_Tuple) × ((List Int) × Unit)))) := (x.Cap, (x.Remb, (x.f_L, (x.Until, ()))))
def dT_limelightref13_Limit : Dt T_limelightref13_Limit := (dP (dI .i64) (dP (dI .i64) (dP (dSl dT_api_Tuple) (dP (dSl (dI .i64)) dU)))).via T_limelightref13_Limit.tp
theorem dT_limelightref13_Limit.inv {x : T_limelightref13_Limit} {vs : List V} (h : dT_limelightref13_Limit.R x vs) : ∃ v2 v3, vs = [.p (.int .i64 x.Cap), .p (.int .i64 x.Remb), v2, v3] ∧ SlF dT_api_Tuple x.f_L v2 ∧ SlF (dI .i64) x.Until v3 := by
  obtain ⟨u0, w0, e0, h0, u1, w1, e1, h1, u2, w2, e2, h2, u3, w3, e3, h3, hend⟩ := h
  obtain rfl : u0 = [.p (.int .i64 x.Cap)] := h0
  obtain rfl : u1 = [.p (.int .i64 x.Remb)] := h1
  obtain ⟨v2, rfl, s2⟩ := h2
  obtain ⟨v3, rfl, s3⟩ := h3
  obtain rfl := (show _ = [] from hend)
  subst e3
  subst e2
  subst e1
  subst e0
  exact ⟨v2, v3, rfl, s2, s3⟩
theorem dT_limelightref13_Limit.mk {y_Cap : Int} {y_Remb : Int} {y_f_L : (List T_api_Tuple)} {y_Until : (List Int)} {v2 : V} {v3 : V} (s2 : SlF dT_api_Tuple y_f_L v2) (s3 : SlF (dI .i64) y_Until v3) : dT_limelightref13_Limit.R (⟨y_Cap, y_Remb, y_f_L, y_Until⟩ : T_limelightref13_Limit) [.p (.int .i64 y_Cap), .p (.int .i64 y_Remb), v2, v3] := ⟨[.p (.int .i64 y_Cap)], [.p (.int .i64 y_Remb), v2, v3], rfl, rfl, ⟨[.p (.int .i64 y_Remb)], [v2, v3], rfl, rfl, ⟨[v2], [v3], rfl, ⟨v2, rfl, s2⟩, ⟨[v3], [], rfl, ⟨v3, rfl, s3⟩, rfl⟩⟩⟩⟩
structure T_struct_At_int64_Key_uint64 where
  f_At : Int
  Key : Int
def T_struct_At_int64_Key_uint64.tp (x : T_struct_At_int64_Key_uint64) : (Int × (Int × Unit)) := (x.f_At, (x.Key, ()))
def dT_struct_At_int64_Key_uint64 : Dt T_struct_At_int64_Key_uint64 := (dP (dI .i64) (dP (dI .u64) dU)).via T_struct_At_int64_Key_uint64.tp
theorem dT_struct_At_int64_Key_uint64.inv {x : T_struct_At_int64_Key_uint64} {vs : List V} (h : dT_struct_At_int64_Key_uint64.R x vs) : vs = [.p (.int .i64 x.f_At), .p (.int .u64 x.Key)] := by
  obtain ⟨u0, w0, e0, h0, u1, w1, e1, h1, hend⟩ := h
  obtain rfl : u0 = [.p (.int .i64 x.f_At)] := h0
  obtain rfl : u1 = [.p (.int .u64 x.Key)] := h1
  obtain rfl := (show _ = [] from hend)
  subst e1
  subst e0
  rfl
theorem dT_struct_At_int64_Key_uint64.mk {y_f_At : Int} {y_Key : Int}  : dT_struct_At_int64_Key_uint64.R (⟨y_f_At, y_Key⟩ : T_struct_At_int64_Key_uint64) [.p (.int .i64 y_f_At), .p (.int .u64 y_Key)] := ⟨[.p (.int .i64 y_f_At)], [.p (.int .u64 y_Key)], rfl, rfl, ⟨[.p (.int .u64 y_Key)], [], rfl, rfl, rfl⟩⟩
structure T_alarm_Due where
  f_At : Int
  Key : Int
def T_alarm_Due.tp (x : T_alarm_Due) : (Int × (Int × Unit)) := (x.f_At, (x.Key, ()))
def dT_alarm_Due : Dt T_alarm_Due := (dP (dI .i64) (dP (dI .u64) dU)).via T_alarm_Due.tp
theorem dT_alarm_Due.inv {x : T_alarm_Due} {vs : List V} (h : dT_alarm_Due.R x vs) : vs = [.p (.int .i64 x.f_At), .p (.int .u64 x.Key)] := by
  obtain ⟨u0, w0, e0, h0, u1, w1, e1, h1, hend⟩ := h
  obtain rfl : u0 = [.p (.int .i64 x.f_At)] := h0
  obtain rfl : u1 = [.p (.int .u64 x.Key)] := h1
  obtain rfl := (show _ = [] from hend)
  subst e1
  subst e0
  rfl
theorem dT_alarm_Due.mk {y_f_At : Int} {y_Key : Int}  : dT_alarm_Due.R (⟨y_f_At, y_Key⟩ : T_alarm_Due) [.p (.int .i64 y_f_At), .p (.int .u64 y_Key)] := ⟨[.p (.int .i64 y_f_At)], [.p (.int .u64 y_Key)], rfl, rfl, ⟨[.p (.int .u64 y_Key)], [], rfl, rfl, rfl⟩⟩
structure T_struct_l_alarm_Due where
  l : (List T_alarm_Due)
def T_struct_l_alarm_Due.tp (x : T_struct_l_alarm_Due) : ((List T_alarm_Due) × Unit) := (x.l, ())
def dT_struct_l_alarm_Due : Dt T_struct_l_alarm_Due := (dP (dSl dT_alarm_Due) dU).via T_struct_l_alarm_Due.tp
theorem dT_struct_l_alarm_Due.inv {x : T_struct_l_alarm_Due} {vs : List V} (h : dT_struct_l_alarm_Due.R x vs) : ∃ v0, vs = [v0] ∧ SlF dT_alarm_Due x.l v0 := by
  obtain ⟨u0, w0, e0, h0, hend⟩ := h
  obtain ⟨v0, rfl, s0⟩ := h0
  obtain rfl := (show _ = [] from hend)
  subst e0
  exact ⟨v0, rfl, s0⟩
theorem dT_struct_l_alarm_Due.mk {y_l : (List T_alarm_Due)} {v0 : V} (s0 : SlF dT_alarm_Due y_l v0) : dT_struct_l_alarm_Due.R (⟨y_l⟩ : T_struct_l_alarm_Due) [v0] := ⟨[v0], [], rfl, ⟨v0, rfl, s0⟩, rfl⟩
structure T_alarm_Table where
  l : (List T_alarm_Due)
def T_alarm_Table.tp (x : T_alarm_Table) : ((List T_alarm_Due) × Unit) := (x.l, ())
def dT_alarm_Table : Dt T_alarm_Table := (dP (dSl dT_alarm_Due) dU).via T_alarm_Table.tp
theorem dT_alarm_Table.inv {x : T_alarm_Table} {vs : List V} (h : dT_alarm_Table.R x vs) : ∃ v0, vs = [v0] ∧ SlF dT_alarm_Due x.l v0 := by
  obtain ⟨u0, w0, e0, h0, hend⟩ := h
  obtain ⟨v0, rfl, s0⟩ := h0
  obtain rfl := (show _ = [] from hend)
  subst e0
  exact ⟨v0, rfl, s0⟩
theorem dT_alarm_Table.mk {y_l : (List T_alarm_Due)} {v0 : V} (s0 : SlF dT_alarm_Due y_l v0) : dT_alarm_Table.R (⟨y_l⟩ : T_alarm_Table) [v0] := ⟨[v0], [], rfl, ⟨v0, rfl, s0⟩, rfl⟩
structure T_struct_b_uint8_at_int_bad_bool where
  b : (List Int)
  f_at : Int
  bad : Bool
def T_struct_b_uint8_at_int_bad_bool.tp (x : T_struct_b_uint8_at_int_bad_bool) : ((List Int) × (Int × (Bool × Unit))) := (x.b, (x.f_at, (x.bad, ())))
def dT_struct_b_uint8_at_int_bad_bool : Dt T_struct_b_uint8_at_int_bad_bool := (dP (dSl (dI .u8)) (dP (dI .i64) (dP dB dU))).via T_struct_b_uint8_at_int_bad_bool.tp
theorem dT_struct_b_uint8_at_int_bad_bool.inv {x : T_struct_b_uint8_at_int_bad_bool} {vs : List V} (h : dT_struct_b_uint8_at_int_bad_bool.R x vs) : ∃ v0, vs = [v0, .p (.int .i64 x.f_at), .p (.bool x.bad)] ∧ SlF (dI .u8) x.b v0 := by
  obtain ⟨u0, w0, e0, h0, u1, w1, e1, h1, u2, w2, e2, h2, hend⟩ := h
  obtain ⟨v0, rfl, s0⟩ := h0
  obtain rfl : u1 = [.p (.int .i64 x.f_at)] := h1
  obtain rfl : u2 = [.p (.bool x.bad)] := h2
  obtain rfl := (show _ = [] from hend)
  subst e2
  subst e1
  subst e0
  exact ⟨v0, rfl, s0⟩
theorem dT_struct_b_uint8_at_int_bad_bool.mk {y_b : (List Int)} {y_f_at : Int} {y_bad : Bool} {v0 : V} (s0 : SlF (dI .u8) y_b v0) : dT_struct_b_uint8_at_int_bad_bool.R (⟨y_b, y_f_at, y_bad⟩ : T_struct_b_uint8_at_int_bad_bool) [v0, .p (.int .i64 y_f_at), .p (.bool y_bad)] := ⟨[v0], [.p (.int .i64 y_f_at), .p (.bool y_bad)], rfl, ⟨v0, rfl, s0⟩, ⟨[.p (.int .i64 y_f_at)], [.p (.bool y_bad)], rfl, rfl, ⟨[.p (.bool y_bad)], [], rfl, rfl, rfl⟩⟩⟩
structure T_rtcp_reader where
  b : (List Int)
  f_at : Int
  bad : Bool
def T_rtcp_reader.tp (x : T_rtcp_reader) : ((List Int) × (Int × (Bool × Unit))) := (x.b, (x.f_at, (x.bad, ())))
def dT_rtcp_reader : Dt T_rtcp_reader := (dP (dSl (dI .u8)) (dP (dI .i64) (dP dB dU))).via T_rtcp_reader.tp
theorem dT_rtcp_reader.inv {x : T_rtcp_reader} {vs : List V} (h : dT_rtcp_reader.R x vs) : ∃ v0, vs = [v0, .p (.int .i64 x.f_at), .p (.bool x.bad)] ∧ SlF (dI .u8) x.b v0 := by
  obtain ⟨u0, w0, e0, h0, u1, w1, e1, h1, u2, w2, e2, h2, hend⟩ := h
  obtain ⟨v0, rfl, s0⟩ := h0
  obtain rfl : u1 = [.p (.int .i64 x.f_at)] := h1
  obtain rfl : u2 = [.p (.bool x.bad)] := h2
  obtain rfl := (show _ = [] from hend)
  subst e2
  subst e1
  subst e0
  exact ⟨v0, rfl, s0⟩
theorem dT_rtcp_reader.mk {y_b : (List Int)} {y_f_at : Int} {y_bad : Bool} {v0 : V} (s0 : SlF (dI .u8) y_b v0) : dT_rtcp_reader.R (⟨y_b, y_f_at, y_bad⟩ : T_rtcp_reader) [v0, .p (.int .i64 y_f_at), .p (.bool y_bad)] := ⟨[v0], [.p (.int .i64 y_f_at), .p (.bool y_bad)], rfl, ⟨v0, rfl, s0⟩, ⟨[.p (.int .i64 y_f_at)], [.p (.bool y_bad)], rfl, rfl, ⟨[.p (.bool y_bad)], [], rfl, rfl, rfl⟩⟩⟩
end Go.Ev
/- The seat's program, as the printed equations speak of it. -/
namespace Go.Ev
open Go.Proofs
/-- The struct types whose slice fields own their arrays. -/
def ownT : TypeId → Bool := fun t => [].contains t
/-- The functions whose results are frozen. -/
def frzF : FuncId → Bool := fun f => [18, 24, 25, 49, 56, 88, 91, 129, 45, 55, 14].contains f
/-- The functions whose arguments are frozen, the types of slices that are frozen as they are made. -/
def frzIn : FuncId → Bool := fun f => [25, 24, 19].contains f
def frzMk : TypeId → Bool := fun t => [].contains t
noncomputable def G : Cfg := ⟨Try.prog, ownT, frzF, frzIn, frzMk⟩
noncomputable def X0 : CallF := fun _ _ _ _ => none
theorem x_ok (B : Nat) : CallOk G B X0 := no_ext B
theorem mixed : G.P.follows .mixedOrders = true := by kernel_rfl
end Go.Ev
/- Equations, printed by tracer2.py. -/
namespace Go.Ev
open Go.Proofs
set_option linter.unusedVariables false
set_option maxRecDepth 100000
-- 21 limelight/limelightbook.Within
theorem limelightbook_Within_entry (rec : CallF) (loop : LoopV) (σ : Stamp) (x0 : Int) (x1 : Int) (x2 : Int) (h : H) : cvBody G rec loop 21 σ [(.p (.int .i64 x0)), (.p (.int .i64 x1)), (.p (.int .i64 x2))] h =
 (bif decide (x0 ≥ x1) then (some (decide (x0 ≤ x2))) else (some false)).bind fun b1 =>
 bif b1 then (
 fin false σ (List.replicate 33 [] :: h) [(.p (.int .i64 x0))])
 else (
 (remI .i64 x0 (IntKind.wrap .i64 ((IntKind.wrap .i64 (x2 - x1)) + 1))).bind fun t2 =>
 (castI .i64 t2).bind fun n3 =>
 bif decide (n3 < 0) then (
 fin false σ (List.replicate 33 [] :: h) [(.p (.int .i64 (IntKind.wrap .i64 (x1 + (IntKind.wrap .i64 ((IntKind.wrap .i64 ((IntKind.wrap .i64 (n3 + x2)) - x1)) + 1))))))])
 else (
 fin false σ (List.replicate 33 [] :: h) [(.p (.int .i64 (IntKind.wrap .i64 (x1 + n3))))])) := by kernel_rfl
end Go.Ev
/- Lifted by lift.py: limelightbook_Within as a plain function. -/
namespace Go.Ev
open Go.Proofs
set_option linter.unusedVariables false
set_option linter.unusedSimpArgs false
set_option maxRecDepth 100000
def p_limelightbook_Within (x0 : Int) (x1 : Int) (x2 : Int) : Option (Int) :=
(bif decide (x0 ≥ x1) then (some (decide (x0 ≤ x2))) else (some false)).bind fun b1 =>
bif b1 then (
some (x0))
else (
(remP x0 (IntKind.wrap .i64 ((IntKind.wrap .i64 (x2 - x1)) + 1))).bind fun n6 =>
bif decide (n6 < 0) then (
some ((IntKind.wrap .i64 (x1 + (IntKind.wrap .i64 ((IntKind.wrap .i64 ((IntKind.wrap .i64 (n6 + x2)) - x1)) + 1))))))
else (
some ((IntKind.wrap .i64 (x1 + n6)))))
theorem limelightbook_Within_ok {h : H} {σ : Stamp} (x0 : Int) (x1 : Int) (x2 : Int) : Sim (p_limelightbook_Within x0 x1 x2) (ev G X0 21 σ [(.p (.int .i64 x0)), (.p (.int .i64 x1)), (.p (.int .i64 x2))] h) (fun r s => s = ([.v (.p (.int .i64 r))], h)) := by
  refine Sim.ev rfl (Sim.ext (limelightbook_Within_entry _ _ _ _ _ _ _) ?_)
  rw [p_limelightbook_Within]
  have S0 : Fm 33 h [] [] [] (List.replicate 33 [] :: h) := Fm.start0
  refine Sim.ch (P := fun r y => r = y) ?_ (fun b1 y2 h3 h4 => ?_)
  · refine Sim.cd (fun hc => ?_) (fun hc => ?_)
    · exact Sim.ret rfl rfl
    · exact Sim.ret rfl rfl
  subst h4
  refine Sim.cd (fun hc5 => ?_) (fun hc5 => ?_)
  · exact Sim.fin (S0.finN (lv_cons (still_int _ _).lv lv_nil)) rfl
  refine Sim.bd fun n6 h7 => ?_
  refine Sim.op (remP_ok h7) ?_
  refine Sim.op (castI_p _ _) ?_
  refine Sim.cd (fun hc8 => ?_) (fun hc8 => ?_)
  · exact Sim.fin (S0.finN (lv_cons (still_int _ _).lv lv_nil)) rfl
  exact Sim.fin (S0.finN (lv_cons (still_int _ _).lv lv_nil)) rfl
end Go.Ev
namespace Go.Ev
theorem bytesS_len (s : ByteArray) : (bytesS s).length = s.size := by unfold bytesS; rw [List.length_map, Array.length_toList]; rfl
theorem within_lo {x hi : Int} (h0 : 0 ≤ hi) (h1 : hi < 2 ^ 40) : ∃ r, p_limelightbook_Within x 0 hi = some r ∧ 0 ≤ r ∧ r ≤ hi := by
  unfold p_limelightbook_Within
  by_cases h : 0 ≤ x ∧ x ≤ hi
  · refine ⟨x, ?_, h.1, h.2⟩
    have e1 : decide (x ≥ 0) = true := by simpa using h.1
    have e2 : decide (x ≤ hi) = true := by simpa using h.2
    simp only [e1, e2, cond_true, Option.bind_some]
  · have e : ∀ (a : Bool) (b : Bool), (a && b) = false → ((bif a then (some b) else (some false)) : Option Bool) = some false := by
      intro a b; cases a <;> cases b <;> simp
    rw [e (decide (x ≥ 0)) (decide (x ≤ hi)) (by simp; omega), Option.bind_some, cond_false]
    have w1 : IntKind.wrap .i64 (IntKind.wrap .i64 (hi - 0) + 1) = hi + 1 := by
      rw [wrap_i64 (n := hi - 0) (by omega) (by omega), wrap_i64 (by omega) (by omega)]; omega
    have hb : -(hi + 1) < x.tmod (hi + 1) ∧ x.tmod (hi + 1) < hi + 1 := by
      have h1 := Int.tmod_lt_of_pos x (show 0 < hi + 1 by omega)
      have h2 := Int.neg_tmod x (hi + 1)
      have h3 := Int.tmod_lt_of_pos (-x) (show 0 < hi + 1 by omega)
      omega
    rw [w1]
    unfold remP
    rw [if_neg (by omega), Option.bind_some]
    generalize x.tmod (hi + 1) = m at hb
    by_cases hm : m < 0
    · have : decide (m < 0) = true := by simpa using hm
      rw [this, cond_true]
      refine ⟨_, rfl, ?_⟩
      rw [wrap_i64 (n := m + hi) (by omega) (by omega), wrap_i64 (n := m + hi - 0) (by omega) (by omega), wrap_i64 (n := m + hi - 0 + 1) (by omega) (by omega), wrap_i64 (by omega) (by omega)]
      omega
    · have : decide (m < 0) = false := by simpa using hm
      rw [this, cond_false]
      refine ⟨_, rfl, ?_⟩
      rw [wrap_i64 (by omega) (by omega)]
      omega
end Go.Ev
/- Equations, printed by tracer2.py. -/
namespace Go.Ev
open Go.Proofs
set_option linter.unusedVariables false
set_option maxRecDepth 100000
-- 42 (*limelight/limelightkeep.Tape).Next
theorem limelightkeep_Tape_Next_entry (rec : CallF) (loop : LoopV) (σ : Stamp) (x0 : V) (x1 : Int) (h : H) : cvBody G rec loop 42 σ [x0, (.p (.int .i64 x1))] h =
 (nilChk x0).bind fun t1 =>
 (fA t1 1).bind fun t2 =>
 (ldO false 1 (List.replicate 40 [] :: h) t2).bind fun t3 =>
 (castI .i64 t3).bind fun n4 =>
 (nilChk x0).bind fun t5 =>
 (fA t5 0).bind fun t6 =>
 (ldO false 1 (List.replicate 40 [] :: h) t6).bind fun t7 =>
 (lenO t7).bind fun t8 =>
 (castI .i64 t8).bind fun n9 =>
 (bif decide (n4 ≥ n9) then (some true) else (some (decide (x1 < 1)))).bind fun b10 =>
 bif b10 then (
 fin false σ (List.replicate 40 [] :: h) [(.p (.int .i64 0))])
 else (
 (nilChk x0).bind fun t11 =>
 (fA t11 1).bind fun t12 =>
 (ldO false 1 (List.replicate 40 [] :: h) t12).bind fun t13 =>
 (castI .i64 t13).bind fun n14 =>
 (nilChk x0).bind fun t15 =>
 (fA t15 1).bind fun t16 =>
 ((stO true 1 (7 :: 0 :: 1 :: 1 :: 0 :: σ) (List.replicate 40 [] :: h) t16 (.p (.int .i64 (IntKind.wrap .i64 (n14 + 1))))).map fun h => (udf, h)).bind fun q17 =>
 (nilChk x0).bind fun t18 =>
 (fA t18 0).bind fun t19 =>
 (ldO false 1 q17.2 t19).bind fun t20 =>
 (nilChk x0).bind fun t21 =>
 (fA t21 1).bind fun t22 =>
 (ldO false 1 q17.2 t22).bind fun t23 =>
 (castI .i64 t23).bind fun n24 =>
 (iS 1 t20 (IntKind.wrap .i64 (n24 - 1))).bind fun t25 =>
 (ldO false 1 q17.2 t25).bind fun t26 =>
 (castI .i64 t26).bind fun n27 =>
 (callO rec 21 (11 :: 0 :: 1 :: 1 :: 1 :: 0 :: σ) [(.p (.int .i64 n27)), (.p (.int .i64 0)), (.p (.int .i64 1073741824))] q17.2 (some 37)).bind fun q28 =>
 (castI .i64 q28.1).bind fun n29 =>
 (remI .i64 n29 x1).bind fun t30 =>
 (castI .i64 t30).bind fun n31 =>
 fin false σ q28.2 [(.p (.int .i64 n31))]) := by kernel_rfl
end Go.Ev
/- Lifted by lift.py: limelightkeep_Tape_Next as a plain function. -/
namespace Go.Ev
open Go.Proofs
set_option linter.unusedVariables false
set_option linter.unusedSimpArgs false
set_option maxRecDepth 100000
def p_limelightkeep_Tape_Next (x0 : T_limelightkeep_Tape) (x1 : Int) : Option (Int × T_limelightkeep_Tape) :=
(bif decide (x0.f_At ≥ ((x0.f_L.length : Int))) then (some true) else (some (decide (x1 < 1)))).bind fun b1 =>
bif b1 then (
some (0, x0))
else (
(ix x0.f_L (IntKind.wrap .i64 ((IntKind.wrap .i64 (x0.f_At + 1)) - 1))).bind fun a9 =>
(p_limelightbook_Within a9 0 1073741824).bind fun r12 =>
(remP r12 x1).bind fun n17 =>
some (n17, (⟨x0.f_L, (IntKind.wrap .i64 (x0.f_At + 1))⟩ : T_limelightkeep_Tape)))
theorem limelightkeep_Tape_Next_ok {h : H} {σ : Stamp} (x0 : T_limelightkeep_Tape) {u0_0 : V} (hu0_0 : SlF (dI .i64) x0.f_L u0_0) {l0 : Loc} {o0 : Nat} (ha0 : AtC h l0 o0 (List.map C.v [u0_0, (.p (.int .i64 x0.f_At))])) (x1 : Int) : Sim (p_limelightkeep_Tape_Next x0 x1) (ev G X0 42 σ [(.ref l0 o0), (.p (.int .i64 x1))] h) (fun r s => ∃ (vb0_0 : V), SlF (dI .i64) r.2.f_L vb0_0 ∧ s = ([.v (.p (.int .i64 r.1))], pts h [⟨l0, o0, [.v vb0_0, .v (.p (.int .i64 r.2.f_At))]⟩])) := by
  refine Sim.ev rfl (Sim.ext (limelightkeep_Tape_Next_entry _ _ _ _ _ _) ?_)
  rw [p_limelightkeep_Tape_Next]
  have S0 : Fm 40 h [⟨l0, o0, List.map C.v [u0_0, (.p (.int .i64 x0.f_At))]⟩] [] [] (List.replicate 40 [] :: h) := Fm.start1 ha0
  refine Sim.op (nilChk_ref _ _) ?_
  refine Sim.op (fA_ref _ _ _) ?_
  refine Sim.op ((S0.atB (i := 0) rfl).ld (j := 1) rfl) ?_
  refine Sim.op (castI_p _ _) ?_
  refine Sim.op (nilChk_ref _ _) ?_
  refine Sim.op (fA_ref _ _ _) ?_
  refine Sim.op ((S0.atB (i := 0) rfl).ld (j := 0) rfl) ?_
  refine Sim.op ((hu0_0.h (List.replicate 40 [] :: h)).len) ?_
  refine Sim.op (castI_p _ _) ?_
  refine Sim.ch (P := fun r y => r = y) ?_ (fun b1 y2 h3 h4 => ?_)
  · refine Sim.cd (fun hc => ?_) (fun hc => ?_)
    · exact Sim.ret rfl rfl
    · exact Sim.ret rfl rfl
  subst h4
  refine Sim.cd (fun hc5 => ?_) (fun hc5 => ?_)
  · exact Sim.fin (S0.finN (lv_cons (still_int _ _).lv lv_nil)) ⟨u0_0, hu0_0, rfl⟩
  refine Sim.op (nilChk_ref _ _) ?_
  refine Sim.op (fA_ref _ _ _) ?_
  refine Sim.op ((S0.atB (i := 0) rfl).ld (j := 1) rfl) ?_
  refine Sim.op (castI_p _ _) ?_
  refine Sim.op (nilChk_ref _ _) ?_
  refine Sim.op (fA_ref _ _ _) ?_
  obtain ⟨H6, e7, S8⟩ := S0.stB (i := 0) (j := 1) (own := true) (σ := (7 :: 0 :: 1 :: 1 :: 0 :: σ)) (x := (.p (.int .i64 (IntKind.wrap .i64 (x0.f_At + 1))))) rfl (still_int _ _) rfl
  refine Sim.op (st_map e7) ?_
  refine Sim.op (nilChk_ref _ _) ?_
  refine Sim.op (fA_ref _ _ _) ?_
  refine Sim.op ((S8.atB (i := 0) rfl).ld (j := 0) rfl) ?_
  refine Sim.op (nilChk_ref _ _) ?_
  refine Sim.op (fA_ref _ _ _) ?_
  refine Sim.op ((S8.atB (i := 0) rfl).ld (j := 1) rfl) ?_
  refine Sim.op (castI_p _ _) ?_
  refine Sim.bd fun a9 h10 => ?_
  refine Sim.op ((hu0_0.h H6).iS h10 rfl) ?_
  obtain ⟨_, rfl, hE11⟩ := (hu0_0.h H6).el h10 rfl
  refine Sim.op (hE11.ld (j := 0) rfl) ?_
  refine Sim.op (castI_p _ _) ?_
  refine Sim.call (limelightbook_Within_ok a9 0 1073741824) fun r12 cs13 H14 h15 q16 => ?_
  cases q16
  refine Sim.op (castI_p _ _) ?_
  refine Sim.bd fun n17 h18 => ?_
  refine Sim.op (remP_ok h18) ?_
  refine Sim.op (castI_p _ _) ?_
  exact Sim.fin (S8.finN (lv_cons (still_int _ _).lv lv_nil)) ⟨u0_0, hu0_0, rfl⟩
end Go.Ev
namespace Go.Ev
/-- Bytes. -/
def isB (xs : List Int) : Prop := ∀ x ∈ xs, 0 ≤ x ∧ x < 256
def TP (t : T_limelightkeep_Tape) : Prop := 0 ≤ t.f_At ∧ t.f_At ≤ t.f_L.length ∧ t.f_L.length < 2 ^ 50
theorem next_tape {t : T_limelightkeep_Tape} (h : TP t) {n : Int} (h1 : 1 ≤ n) : ∃ r t', p_limelightkeep_Tape_Next t n = some (r, t') ∧ (0 ≤ r ∧ r < n) ∧ TP t' := by
  obtain ⟨a1, a2, a3⟩ := h
  unfold p_limelightkeep_Tape_Next
  have e2 : decide (n < 1) = false := by simp; omega
  by_cases hc : t.f_At ≥ t.f_L.length
  · have e1 : decide (t.f_At ≥ (t.f_L.length : Int)) = true := by simpa using hc
    simp only [e1, cond_true, Option.bind_some]
    exact ⟨0, t, rfl, ⟨by omega, by omega⟩, a1, a2, a3⟩
  · have e1 : decide (t.f_At ≥ (t.f_L.length : Int)) = false := by simpa using hc
    obtain ⟨i, hi⟩ : ∃ i : Nat, t.f_At = i := ⟨t.f_At.toNat, by omega⟩
    have hlt : i < t.f_L.length := by omega
    have w1 : IntKind.wrap .i64 (t.f_At + 1) = t.f_At + 1 := wrap_i64 (by omega) (by omega)
    have w2 : IntKind.wrap .i64 (t.f_At + 1 - 1) = (i : Int) := by rw [wrap_i64 (by omega) (by omega)]; omega
    have hx : ix t.f_L (i : Int) = some t.f_L[i] := ix_at (by simp [hlt])
    obtain ⟨r, hr, r0, r1⟩ := within_lo (x := t.f_L[i]) (hi := 1073741824) (by omega) (by omega)
    simp only [e1, e2, cond_false, Option.bind_some, w1, w2, hx, hr]
    unfold remP
    rw [if_neg (by omega), Option.bind_some]
    refine ⟨_, _, rfl, ⟨Int.tmod_nonneg _ r0, Int.tmod_lt_of_pos _ (by omega)⟩, ?_⟩
    unfold TP
    simp only
    omega
end Go.Ev
/- Equations, printed by tracer2.py. -/
namespace Go.Ev
open Go.Proofs
set_option linter.unusedVariables false
set_option maxRecDepth 100000
-- 129 limelight/octet.Cut
theorem octet_Cut_entry (rec : CallF) (loop : LoopV) (σ : Stamp) (x0 : V) (x1 : Int) (x2 : Int) (h : H) : cvBody G rec loop 129 σ [x0, (.p (.int .i64 x1)), (.p (.int .i64 x2))] h =
 (bif decide (x1 < 0) then (some true) else (some (decide (x2 < 0)))).bind fun b1 =>
 (bif b1 then (some true) else ((lenO x0).bind fun t2 =>
 (castI .i64 t2).bind fun n3 =>
 some (decide (x1 > n3)))).bind fun b4 =>
 (bif b4 then (some true) else ((lenO x0).bind fun t5 =>
 (castI .i64 t5).bind fun n6 =>
 some (decide (x2 > (IntKind.wrap .i64 (n6 - x1)))))).bind fun b7 =>
 bif b7 then (
 fin true σ (List.replicate 35 [] :: h) [(.p (.slice .none 0 0)), (.p (.bool false))])
 else (
 (slS 1 x0 (some x1) (some (IntKind.wrap .i64 (x1 + x2))) none).bind fun t8 =>
 (callO rec 95 (6 :: 0 :: 1 :: 1 :: 0 :: σ) [t8] (List.replicate 35 [] :: h) (some 34)).bind fun q9 =>
 fin true σ q9.2 [q9.1, (.p (.bool true))]) := by kernel_rfl
end Go.Ev
/- Equations, printed by tracer2.py. -/
namespace Go.Ev
open Go.Proofs
set_option linter.unusedVariables false
set_option maxRecDepth 100000
-- 95 slices.Clone[[]byte,byte]
theorem slices_Clone_Lbyte_byte_entry (rec : CallF) (loop : LoopV) (σ : Stamp) (x0 : V) (h : H) : cvBody G rec loop 95 σ [x0] h =
 (binV Try.prog (List.replicate 8 [] :: h) .eql 31 x0 (.p (.slice .none 0 0))).bind fun t1 =>
 (asB t1).bind fun b2 =>
 bif b2 then (
 fin false σ (List.replicate 8 [] :: h) [(.p (.slice .none 0 0))])
 else (
 (buildSliceV Try.prog 31 0 []).bind fun t3 =>
 (apO true 1 1 (2 :: 0 :: 1 :: 1 :: 0 :: σ) 7 (List.replicate 8 [] :: h) t3 x0).bind fun q4 =>
 fin false σ q4.2 [q4.1]) := by kernel_rfl
end Go.Ev
/- Lifted by lift.py: octet_Cut as a plain function. -/
namespace Go.Ev
open Go.Proofs
set_option linter.unusedVariables false
set_option linter.unusedSimpArgs false
set_option maxRecDepth 100000
def p_octet_Cut (x0 : (List Int)) (x1 : Int) (x2 : Int) : Option ((List Int) × Bool) :=
(bif decide (x1 < 0) then (some true) else (some (decide (x2 < 0)))).bind fun b1 =>
(bif b1 then (some true) else (some (decide (x1 > ((x0.length : Int)))))).bind fun b5 =>
(bif b5 then (some true) else (some (decide (x2 > (IntKind.wrap .i64 (((x0.length : Int)) - x1)))))).bind fun b9 =>
bif b9 then (
some ((([] : List Int)), false))
else (
(sub x0 x1 (IntKind.wrap .i64 (x1 + x2))).bind fun a14 =>
(p_clone 1 a14).bind fun r16 =>
some (r16, true))
theorem octet_Cut_ok {h : H} {σ : Stamp} (x0 : List Int) {u0 : V} (hu0 : SlH h (dI .u8) x0 u0) (x1 : Int) (x2 : Int) : Sim (p_octet_Cut x0 x1 x2) (ev G X0 129 σ [u0, (.p (.int .i64 x1)), (.p (.int .i64 x2))] h) (fun r s => ∃ (v0 : V), SlF (dI .u8) r.1 v0 ∧ s = ([.v v0, .v (.p (.bool r.2))], h)) := by
  refine Sim.ev rfl (Sim.ext (octet_Cut_entry _ _ _ _ _ _ _) ?_)
  rw [p_octet_Cut]
  have S0 : Fm 35 h [] [] [] (List.replicate 35 [] :: h) := Fm.start0
  refine Sim.ch (P := fun r y => r = y) ?_ (fun b1 y2 h3 h4 => ?_)
  · refine Sim.cd (fun hc => ?_) (fun hc => ?_)
    · exact Sim.ret rfl rfl
    · exact Sim.ret rfl rfl
  subst h4
  refine Sim.ch (P := fun r y => r = y) ?_ (fun b5 y6 h7 h8 => ?_)
  · refine Sim.cd (fun hc => ?_) (fun hc => ?_)
    · exact Sim.ret rfl rfl
    · refine Sim.op ((S0.low hu0).len) ?_
      refine Sim.op (castI_p _ _) ?_
      exact Sim.ret rfl rfl
  subst h8
  refine Sim.ch (P := fun r y => r = y) ?_ (fun b9 y10 h11 h12 => ?_)
  · refine Sim.cd (fun hc => ?_) (fun hc => ?_)
    · exact Sim.ret rfl rfl
    · refine Sim.op ((S0.low hu0).len) ?_
      refine Sim.op (castI_p _ _) ?_
      exact Sim.ret rfl rfl
  subst h12
  refine Sim.cd (fun hc13 => ?_) (fun hc13 => ?_)
  · exact Sim.fin (S0.finN (lv_cons (SlF.nil (dI .u8)).still.lv (lv_cons (still_bool _).lv lv_nil))) ⟨(.p (.slice none 0 0)), (SlF.nil (dI .u8)), rfl⟩
  refine Sim.bd fun a14 h15 => ?_
  refine Sim.op ((S0.low hu0).slS h15 rfl rfl rfl) ?_
  refine Sim.call (clone_ok (b := 1) (f := 95) (tt := 5) (e := 1) (τ := fun σ => _ :: _ :: _ :: _ :: _ :: σ) (fun x h => slices_Clone_Lbyte_byte_entry _ _ _ x h) ((S0.low hu0).sub h15 (e := 1) rfl) rfl (by decide) (by decide) (by decide) (by kernel_rfl) (by kernel_rfl) rfl) fun r16 cs17 H18 h19 q20 => ?_
  obtain ⟨c21, cs22, h23, h24, q20⟩ := q20
  cases q20
  obtain ⟨v25, H26, e27, S28⟩ := S0.land (dt := (dI .u8)) (d := 34) (e := 0) (n := 0) h23 h24 (by decide) rfl
  erw [e27]
  obtain ⟨v35, H30, e31, h33, S32⟩ := S28.expFrz (i := 0) (τ := 0 :: 1 :: σ) rfl rfl
  exact Sim.fin (S32.finE (Ex.st e31 (Ex.pl (still_bool _).lv Ex.nil))) ⟨v35, h33, rfl⟩
end Go.Ev
namespace Go.Ev
theorem cut_ok {xs : List Int} {a n : Nat} (h : a + n ≤ xs.length) (hl : xs.length < 2 ^ 39) : p_octet_Cut xs (a : Int) (n : Int) = some ((xs.drop a).take n, true) := by
  unfold p_octet_Cut
  have e1 : decide (((a : Nat) : Int) < 0) = false := by simp
  have e2 : decide (((n : Nat) : Int) < 0) = false := by simp
  have e3 : decide (((a : Nat) : Int) > (xs.length : Int)) = false := by simp; omega
  have e4 : decide (((n : Nat) : Int) > IntKind.wrap .i64 ((xs.length : Int) - (a : Int))) = false := by
    rw [wrap_i64 (by omega) (by omega)]; simp; omega
  have e5 : IntKind.wrap .i64 ((a : Int) + (n : Int)) = ((a + n : Nat) : Int) := by rw [wrap_i64 (by omega) (by omega)]; rfl
  simp only [e1, e2, e3, e4, e5, cond_false, Option.bind_some, sub_eq h]
  rw [clone_eq (by decide) (by rw [List.length_take, List.length_drop]; omega)]
  rfl
end Go.Ev
/- Equations, printed by tracer2.py. -/
namespace Go.Ev
open Go.Proofs
set_option linter.unusedVariables false
set_option maxRecDepth 100000
-- 57 limelight/octet.Put
noncomputable def octet_Put_c0 : Code := (codeAt (bodyOf Try.f57) [1, 1, 1, 0, 1, 0, 0])
def octet_Put_l0 : Lv := ⟨128, 64, [(0, 128)]⟩
noncomputable def octet_Put_k0 (rec : CallF) (loop : LoopV) (σ : Stamp) : Exit → Env → H → Option (List C × H) := (kBlock 0 (kSeq G rec loop (codeAt (bodyOf Try.f57) [1, 1, 1, 1]) ⟨64, 64, []⟩ (1 :: 1 :: 1 :: 0 :: σ) (finC G false Try.f57 (1 :: σ))))
theorem octet_Put_entry (rec : CallF) (loop : LoopV) (σ : Stamp) (x0 : V) (x1 : Int) (x2 : Int) (h : H) : cvBody G rec loop 57 σ [x0, (.p (.int .u64 x1)), (.p (.int .i64 x2))] h =
 (callO rec 95 (1 :: 0 :: 1 :: 0 :: σ) [x0] (List.replicate 34 [] :: h) (some 10)).bind fun q1 =>
 (bif decide (x2 < 1) then (some true) else (some (decide (x2 > 8)))).bind fun b2 =>
 bif b2 then (
 fin false σ q1.2 [q1.1])
 else (
 (loop octet_Put_c0 octet_Put_l0 (1 :: 0 :: 1 :: 1 :: 1 :: 0 :: σ) (envL [(1, (.p (.int .u64 x1))), (7, q1.1), (8, (.p (.int .i64 (IntKind.wrap .i64 (x2 - 1)))))]) q1.2).bind fun r3 => octet_Put_k0 rec loop σ r3.1 r3.2.1 r3.2.2) := by kernel_rfl
theorem octet_Put_r0 (rec : CallF) (loop : LoopV) (σ : Stamp) (x1 : Int) (x7 : V) (x8 : Int) (h : H) : cvRound G rec loop octet_Put_c0 octet_Put_l0 σ (envL [(1, (.p (.int .u64 x1))), (7, x7), (8, (.p (.int .i64 x8)))]) h =
 bif decide (x8 ≥ 0) then (
 (shiftV .shr .u64 x1 (IntKind.wrap .i64 (x8 * 8))).bind fun t4 =>
 (castI .u64 t4).bind fun n5 =>
 (buildSliceV Try.prog 31 1 [(0, (.p (.int .u8 (IntKind.wrap .u8 n5))))]).bind fun t6 =>
 (apO true 1 1 (7 :: 0 :: 1 :: 0 :: σ) 31 h x7 t6).bind fun q7 =>
 loop octet_Put_c0 octet_Put_l0 (1 :: σ) (envL [(1, (.p (.int .u64 x1))), (7, q7.1), (8, (.p (.int .i64 (IntKind.wrap .i64 (x8 - 1)))))]) q7.2)
 else (
 some ((.exit 0), (envL [(7, x7)]), h)) := by kernel_rfl
theorem octet_Put_a0_0 (rec : CallF) (loop : LoopV) (σ : Stamp) (x7 : V) (h : H) : octet_Put_k0 rec loop σ (.exit 0) (envL [(7, x7)]) h =
 (callO rec 58 (1 :: 0 :: 1 :: 1 :: 1 :: 1 :: 0 :: σ) [x7] h (some 33)).bind fun q8 =>
 fin false σ q8.2 [q8.1] := by kernel_rfl
end Go.Ev
/- Equations, printed by tracer2.py. -/
namespace Go.Ev
open Go.Proofs
set_option linter.unusedVariables false
set_option maxRecDepth 100000
-- 58 slices.Clip[[]byte,byte]
theorem slices_Clip_Lbyte_byte_entry (rec : CallF) (loop : LoopV) (σ : Stamp) (x0 : V) (h : H) : cvBody G rec loop 58 σ [x0] h =
 (lenO x0).bind fun t1 =>
 (castI .i64 t1).bind fun n2 =>
 (lenO x0).bind fun t3 =>
 (castI .i64 t3).bind fun n4 =>
 (slS 1 x0 none (some n2) (some n4)).bind fun t5 =>
 fin false σ (List.replicate 9 [] :: h) [t5] := by kernel_rfl
end Go.Ev
/- Lifted by lift.py: octet_Put as a plain function. -/
namespace Go.Ev
open Go.Proofs
set_option linter.unusedVariables false
set_option linter.unusedSimpArgs false
set_option maxRecDepth 100000
def p_octet_Put_l0 {β : Type} (k : Nat) (kE0 : (List Int) → Option β) (x1 : Int) (x7 : (List Int)) (x8 : Int) : Option β := match k with
| 0 => none
| k + 1 =>
bif decide (x8 ≥ 0) then (
(shP .shr .u64 x1 (IntKind.wrap .i64 (x8 * 8))).bind fun n32 =>
(ap 1 x7 ([(IntKind.wrap .u8 n32)])).bind fun a35 =>
p_octet_Put_l0 k kE0 x1 a35 (IntKind.wrap .i64 (x8 - 1)))
else (
kE0 x7)
def p_octet_Put (k : Nat) (x0 : (List Int)) (x1 : Int) (x2 : Int) : Option ((List Int)) :=
(p_clone 1 x0).bind fun r1 =>
(bif decide (x2 < 1) then (some true) else (some (decide (x2 > 8)))).bind fun b15 =>
bif b15 then (
some (r1))
else (
p_octet_Put_l0 k (fun r45_7 =>
some (r45_7)) x1 r1 (IntKind.wrap .i64 (x2 - 1)))
theorem octet_Put_l0_ok {h : H}  {β α : Type} {Q : β → α → Prop} {K : Exit × Env × H → Option α} {kE0 : (List Int) → Option β} (hE0 : ∀ (q7 : (List Int)) (v43 : V) (H41 : Go.Ev.H) (_ : Fm 34 h [] [] [⟨[10, 31], v43, (dI .u8), q7⟩] H41), Sim (kE0 q7) (K ((.exit 0), (envL [(7, v43)]), H41)) Q) (k : Nat) : ∀ (x1 : Int) (x7 : (List Int)) (x8 : Int) (v29 : V) (H27 : Go.Ev.H) (_ : Fm 34 h [] [] [⟨[10, 31], v29, (dI .u8), x7⟩] H27) {σ : Stamp}, Sim (p_octet_Put_l0 k kE0 x1 x7 x8) ((cvL G X0 octet_Put_c0 octet_Put_l0 σ (envL [(1, (.p (.int .u64 x1))), (7, v29), (8, (.p (.int .i64 x8)))]) H27).bind K) Q := by
  induction k with
  | zero => intros; exact Sim.no
  | succ k ih =>
    intro x1 x7 x8 v29 H27 S28 σ
    rw [p_octet_Put_l0]
    refine Sim.round (Sim.ext (octet_Put_r0 _ _ _ _ _ _ _) ?_)
    refine Sim.cd (fun hc31 => ?_) (fun hc31 => ?_)
    · refine Sim.bd fun n32 h33 => ?_
      refine Sim.op (shP_ok h33) ?_
      refine Sim.op (castI_p _ _) ?_
      have h34 : SlF (dI .u8) [(IntKind.wrap .u8 n32)] (.fz [(.p (.int .u8 (IntKind.wrap .u8 n32)))] 1 1 true) := SlF.lit (cs := [(.p (.int .u8 (IntKind.wrap .u8 n32)))]) (RL.cons (show (dI .u8).R (IntKind.wrap .u8 n32) [(.p (.int .u8 (IntKind.wrap .u8 n32)))] from rfl) RL.nil) rfl rfl true
      refine Sim.op (bldS (pt_cons rfl pt_nil) (by kernel_rfl : _ = some (.fz [(.p (.int .u8 (IntKind.wrap .u8 n32)))] 1 1 true))) ?_
      refine Sim.bd fun a35 h36 => ?_
      obtain ⟨v37, H38, e39, S40⟩ := S28.app (i := 0) (d := 31) (e := 1) (own := true) (σ := (7 :: 0 :: 1 :: 0 :: σ)) rfl (h34.h H27).y h36 rfl (by decide) (by decide) rfl
      refine Sim.op (e39) ?_
      exact ih x1 a35 (IntKind.wrap .i64 (x8 - 1)) v37 H38 (S40.wk2 all_nil (all_cons ⟨[31, 10, 31], by simp, at_mem 0 rfl⟩ all_nil))
    exact hE0 x7 v29 H27 (S28.wk2 all_nil (all_cons ⟨[10, 31], by simp, at_mem 0 rfl⟩ all_nil))
theorem octet_Put_ok (k : Nat) {h : H} {σ : Stamp} (x0 : List Int) {u0 : V} (hu0 : SlH h (dI .u8) x0 u0) (x1 : Int) (x2 : Int) : Sim (p_octet_Put k x0 x1 x2) (ev G X0 57 σ [u0, (.p (.int .u64 x1)), (.p (.int .i64 x2))] h) (fun r s => ∃ (c0 : C), ∃ (a0 : List V), OwnS c0 (dI .u8).sz r.length a0 ∧ (dI .u8).L r a0 ∧ s = ([c0], h)) := by
  refine Sim.ev rfl (Sim.ext (octet_Put_entry _ _ _ _ _ _ _) ?_)
  rw [p_octet_Put]
  have S0 : Fm 34 h [] [] [] (List.replicate 34 [] :: h) := Fm.start0
  refine Sim.call (clone_ok (b := 1) (f := 95) (tt := 5) (e := 1) (τ := fun σ => _ :: _ :: _ :: _ :: _ :: σ) (fun x h => slices_Clone_Lbyte_byte_entry _ _ _ x h) (S0.low hu0) rfl (by decide) (by decide) (by decide) (by kernel_rfl) (by kernel_rfl) rfl) fun r1 cs2 H3 h4 q5 => ?_
  obtain ⟨c6, cs7, h8, h9, q5⟩ := q5
  cases q5
  obtain ⟨v10, H11, e12, S13⟩ := S0.land (dt := (dI .u8)) (d := 10) (e := 0) (n := 0) h8 h9 (by decide) rfl
  erw [e12]
  refine Sim.ch (P := fun r y => r = y) ?_ (fun b15 y16 h17 h18 => ?_)
  · refine Sim.cd (fun hc => ?_) (fun hc => ?_)
    · exact Sim.ret rfl rfl
    · exact Sim.ret rfl rfl
  subst h18
  refine Sim.cd (fun hc19 => ?_) (fun hc19 => ?_)
  · obtain ⟨c25, cs26, H20, e21, h23, h24, S22⟩ := S13.expOwn (i := 0) (τ := 0 :: 1 :: σ) rfl rfl rfl
    exact Sim.fin (S22.finE (Ex.st e21 Ex.nil)) ⟨c25, cs26, h23, h24, rfl⟩
  refine Sim.as (octet_Put_l0_ok ?_ k x1 r1 (IntKind.wrap .i64 (x2 - 1)) v10 H11 (S13.wk2 all_nil (all_cons ⟨[10], by simp, at_mem 0 rfl⟩ all_nil))) 
  · intro r45_7 v48 H46 S47
    refine Sim.ext (octet_Put_a0_0 _ _ _ _ _) ?_
    obtain ⟨v50, e51, S52⟩ := clip_D (G := G) (X := X0) (i := 0) (f := 58) (fun x h => slices_Clip_Lbyte_byte_entry _ _ _ x h) S47 rfl rfl rfl
    refine Sim.op (e51) ?_
    obtain ⟨c58, cs59, H53, e54, h56, h57, S55⟩ := S52.expOwn (i := 0) (τ := 0 :: 1 :: σ) rfl rfl rfl
    exact Sim.fin (S55.finE (Ex.st e54 Ex.nil)) ⟨c58, cs59, h56, h57, rfl⟩
end Go.Ev
/- Equations, printed by tracer2.py. -/
namespace Go.Ev
open Go.Proofs
set_option linter.unusedVariables false
set_option maxRecDepth 100000
-- 96 limelight/octet.Get
noncomputable def octet_Get_c0 : Code := (codeAt (bodyOf Try.f96) [1, 1, 1, 1, 0, 1, 0, 0])
def octet_Get_l0 : Lv := ⟨1024, 192, [(0, 1024)]⟩
noncomputable def octet_Get_k0 (rec : CallF) (loop : LoopV) (σ : Stamp) : Exit → Env → H → Option (List C × H) := (kBlock 0 (kSeq G rec loop (codeAt (bodyOf Try.f96) [1, 1, 1, 1, 1]) ⟨192, 192, []⟩ (1 :: 1 :: 1 :: 1 :: 0 :: σ) (finC G false Try.f96 (1 :: σ))))
theorem octet_Get_entry (rec : CallF) (loop : LoopV) (σ : Stamp) (x0 : V) (x1 : Int) (x2 : Int) (h : H) : cvBody G rec loop 96 σ [x0, (.p (.int .i64 x1)), (.p (.int .i64 x2))] h =
 (callO rec 129 (3 :: 0 :: 1 :: 0 :: σ) [x0, (.p (.int .i64 x1)), (.p (.int .i64 x2))] (List.replicate 43 [] :: h) (some 17)).bind fun q1 =>
 (extV q1.1 0).bind fun t2 =>
 (extV q1.1 1).bind fun t3 =>
 (asB t3).bind fun b4 =>
 (bif !b4 then (some true) else (some (decide (x2 < 1)))).bind fun b5 =>
 (bif b5 then (some true) else (some (decide (x2 > 8)))).bind fun b6 =>
 bif b6 then (
 fin false σ q1.2 [(.p (.int .u64 0)), (.p (.bool false))])
 else (
 (lenO t2).bind fun t7 =>
 (castI .i64 t7).bind fun n8 =>
 (loop octet_Get_c0 octet_Get_l0 (1 :: 0 :: 1 :: 1 :: 1 :: 1 :: 0 :: σ) (envL [(10, (.p (.int .u64 0))), (30, t2), (31, (.p (.int .i64 n8))), (32, (.p (.int .i64 0)))]) q1.2).bind fun r9 => octet_Get_k0 rec loop σ r9.1 r9.2.1 r9.2.2) := by kernel_rfl
theorem octet_Get_r0 (rec : CallF) (loop : LoopV) (σ : Stamp) (x10 : Int) (x30 : V) (x31 : Int) (x32 : Int) (h : H) : cvRound G rec loop octet_Get_c0 octet_Get_l0 σ (envL [(10, (.p (.int .u64 x10))), (30, x30), (31, (.p (.int .i64 x31))), (32, (.p (.int .i64 x32)))]) h =
 bif decide (x32 < x31) then (
 (iS 1 x30 x32).bind fun t10 =>
 (ldO false 1 h t10).bind fun t11 =>
 (castI .u8 t11).bind fun n12 =>
 loop octet_Get_c0 octet_Get_l0 (1 :: σ) (envL [(10, (.p (.int .u64 (intBits .or .u64 (IntKind.wrap .u64 (x10 * 2 ^ 8)) (IntKind.wrap .u64 n12))))), (30, x30), (31, (.p (.int .i64 x31))), (32, (.p (.int .i64 (IntKind.wrap .i64 (x32 + 1)))))]) h)
 else (
 some ((.exit 0), (envL [(10, (.p (.int .u64 x10)))]), h)) := by kernel_rfl
theorem octet_Get_a0_0 (rec : CallF) (loop : LoopV) (σ : Stamp) (x10 : Int) (h : H) : octet_Get_k0 rec loop σ (.exit 0) (envL [(10, (.p (.int .u64 x10)))]) h =
 fin false σ h [(.p (.int .u64 x10)), (.p (.bool true))] := by kernel_rfl
end Go.Ev
/- Lifted by lift.py: octet_Get as a plain function. -/
namespace Go.Ev
open Go.Proofs
set_option linter.unusedVariables false
set_option linter.unusedSimpArgs false
set_option maxRecDepth 100000
def p_octet_Get_l0 {β : Type} (k : Nat) (kE0 : Int → Option β) (x10 : Int) (x30 : (List Int)) (x31 : Int) (x32 : Int) : Option β := match k with
| 0 => none
| k + 1 =>
bif decide (x32 < x31) then (
(ix x30 x32).bind fun a22 =>
p_octet_Get_l0 k kE0 (intBits .or .u64 (IntKind.wrap .u64 (x10 * 2 ^ 8)) (IntKind.wrap .u64 a22)) x30 x31 (IntKind.wrap .i64 (x32 + 1)))
else (
kE0 x10)
def p_octet_Get (k : Nat) (x0 : (List Int)) (x1 : Int) (x2 : Int) : Option (Int × Bool) :=
(p_octet_Cut x0 x1 x2).bind fun r1 =>
(bif !r1.2 then (some true) else (some (decide (x2 < 1)))).bind fun b8 =>
(bif b8 then (some true) else (some (decide (x2 > 8)))).bind fun b12 =>
bif b12 then (
some (0, false))
else (
p_octet_Get_l0 k (fun r27_10 =>
some (r27_10, true)) 0 r1.1 ((r1.1.length : Int)) 0)
theorem octet_Get_l0_ok {h : H}  {β α : Type} {Q : β → α → Prop} {K : Exit × Env × H → Option α} {kE0 : Int → Option β} (hE0 : ∀ (q10 : Int) (H25 : Go.Ev.H) (_ : Fm 43 h [] [] [] H25), Sim (kE0 q10) (K ((.exit 0), (envL [(10, (.p (.int .u64 q10)))]), H25)) Q) (k : Nat) : ∀ (x10 : Int) (x30 : (List Int)) (x31 : Int) (x32 : Int) (v19 : V) (h20 : SlF (dI .u8) x30 v19) (H17 : Go.Ev.H) (_ : Fm 43 h [] [] [] H17) {σ : Stamp}, Sim (p_octet_Get_l0 k kE0 x10 x30 x31 x32) ((cvL G X0 octet_Get_c0 octet_Get_l0 σ (envL [(10, (.p (.int .u64 x10))), (30, v19), (31, (.p (.int .i64 x31))), (32, (.p (.int .i64 x32)))]) H17).bind K) Q := by
  induction k with
  | zero => intros; exact Sim.no
  | succ k ih =>
    intro x10 x30 x31 x32 v19 h20 H17 S18 σ
    rw [p_octet_Get_l0]
    refine Sim.round (Sim.ext (octet_Get_r0 _ _ _ _ _ _ _ _) ?_)
    refine Sim.cd (fun hc21 => ?_) (fun hc21 => ?_)
    · refine Sim.bd fun a22 h23 => ?_
      refine Sim.op ((h20.h H17).iS h23 rfl) ?_
      obtain ⟨_, rfl, hE24⟩ := (h20.h H17).el h23 rfl
      refine Sim.op (hE24.ld (j := 0) rfl) ?_
      refine Sim.op (castI_p _ _) ?_
      exact ih (intBits .or .u64 (IntKind.wrap .u64 (x10 * 2 ^ 8)) (IntKind.wrap .u64 a22)) x30 x31 (IntKind.wrap .i64 (x32 + 1)) v19 h20 H17 (S18.wk2 all_nil all_nil)
    exact hE0 x10 H17 (S18.wk2 all_nil all_nil)
theorem octet_Get_ok (k : Nat) {h : H} {σ : Stamp} (x0 : List Int) {u0 : V} (hu0 : SlH h (dI .u8) x0 u0) (x1 : Int) (x2 : Int) : Sim (p_octet_Get k x0 x1 x2) (ev G X0 96 σ [u0, (.p (.int .i64 x1)), (.p (.int .i64 x2))] h) (fun r s => s = ([.v (.p (.int .u64 r.1)), .v (.p (.bool r.2))], h)) := by
  refine Sim.ev rfl (Sim.ext (octet_Get_entry _ _ _ _ _ _ _) ?_)
  rw [p_octet_Get]
  have S0 : Fm 43 h [] [] [] (List.replicate 43 [] :: h) := Fm.start0
  refine Sim.call (octet_Cut_ok x0 (S0.low hu0) x1 x2) fun r1 cs2 H3 h4 q5 => ?_
  obtain ⟨v6, h7, q5⟩ := q5
  cases q5
  refine Sim.op (rfl) ?_
  refine Sim.op (rfl) ?_
  refine Sim.op (asB_p _) ?_
  refine Sim.ch (P := fun r y => r = y) ?_ (fun b8 y9 h10 h11 => ?_)
  · refine Sim.cd (fun hc => ?_) (fun hc => ?_)
    · exact Sim.ret rfl rfl
    · exact Sim.ret rfl rfl
  subst h11
  refine Sim.ch (P := fun r y => r = y) ?_ (fun b12 y13 h14 h15 => ?_)
  · refine Sim.cd (fun hc => ?_) (fun hc => ?_)
    · exact Sim.ret rfl rfl
    · exact Sim.ret rfl rfl
  subst h15
  refine Sim.cd (fun hc16 => ?_) (fun hc16 => ?_)
  · exact Sim.fin (S0.finN (lv_cons (still_int _ _).lv (lv_cons (still_bool _).lv lv_nil))) rfl
  refine Sim.op ((h7.h (List.replicate 43 [] :: h)).len) ?_
  refine Sim.op (castI_p _ _) ?_
  refine Sim.as (octet_Get_l0_ok ?_ k 0 r1.1 ((r1.1.length : Int)) 0 v6 h7 (List.replicate 43 [] :: h) (S0.wk2 all_nil all_nil)) 
  · intro r27_10 H28 S29
    refine Sim.ext (octet_Get_a0_0 _ _ _ _ _) ?_
    exact Sim.fin (S29.finN (lv_cons (still_int _ _).lv (lv_cons (still_bool _).lv lv_nil))) rfl
end Go.Ev
namespace Go.Ev
set_option maxRecDepth 100000
/-! ### Numbers as bytes -/
def putB (n : Int) : Nat → List Int
  | 0 => []
  | s + 1 => (n / 256 ^ s % 256) :: putB n s
def getB : Int → List Int → Int
  | a, [] => a
  | a, b :: bs => getB (a * 256 + b) bs
theorem putB_len (n : Int) : ∀ s, (putB n s).length = s
  | 0 => rfl
  | s + 1 => by rw [putB, List.length_cons, putB_len n s]
theorem putB_isB (n : Int) : ∀ s, isB (putB n s)
  | 0 => fun x hx => by cases hx
  | s + 1 => fun x hx => by
    rcases List.mem_cons.1 hx with rfl | hx
    · exact ⟨Int.emod_nonneg _ (by decide), Int.emod_lt_of_pos _ (by decide)⟩
    · exact putB_isB n s x hx
theorem getB_putB (n : Int) (hn : 0 ≤ n) : ∀ (s : Nat) (a : Int), getB a (putB n s) = a * 256 ^ s + n % 256 ^ s
  | 0, a => by simp [putB, getB]
  | s + 1, a => by
    rw [putB, getB, getB_putB n hn s]
    have hp : (0 : Int) < 256 ^ s := Int.pow_pos (by decide)
    have h1 : n % 256 ^ (s + 1) = 256 ^ s * (n / 256 ^ s % 256) + n % 256 ^ s := by
      have e1 := Int.emod_add_mul_ediv n (256 ^ s)
      have e2 := Int.emod_add_mul_ediv (n / 256 ^ s) 256
      have e3 : n = (256 ^ s * (n / 256 ^ s % 256) + n % 256 ^ s) + 256 ^ (s + 1) * (n / 256 ^ s / 256) := by
        rw [Int.pow_succ]
        generalize n / 256 ^ s / 256 = q at *
        generalize n / 256 ^ s % 256 = r at *
        generalize hm : n / 256 ^ s = m at *
        generalize n % 256 ^ s = u at *
        rw [← e1, ← e2, Int.mul_add, Int.mul_assoc]
        omega
      have r1 := Int.emod_nonneg (n / 256 ^ s) (show (256 : Int) ≠ 0 by decide)
      have r2 := Int.emod_lt_of_pos (n / 256 ^ s) (show (0 : Int) < 256 by decide)
      have r3 := Int.emod_nonneg n (Int.ne_of_gt hp)
      have r4 := Int.emod_lt_of_pos n hp
      have lo : 0 ≤ 256 ^ s * (n / 256 ^ s % 256) + n % 256 ^ s := Int.add_nonneg (Int.mul_nonneg (Int.le_of_lt hp) r1) r3
      have hi : 256 ^ s * (n / 256 ^ s % 256) + n % 256 ^ s < 256 ^ (s + 1) := by
        have : 256 ^ s * (n / 256 ^ s % 256) ≤ 256 ^ s * 255 := Int.mul_le_mul_of_nonneg_left (by omega) (Int.le_of_lt hp)
        rw [Int.pow_succ]
        omega
      calc n % 256 ^ (s + 1) = ((256 ^ s * (n / 256 ^ s % 256) + n % 256 ^ s) + 256 ^ (s + 1) * (n / 256 ^ s / 256)) % 256 ^ (s + 1) := by rw [← e3]
        _ = (256 ^ s * (n / 256 ^ s % 256) + n % 256 ^ s) % 256 ^ (s + 1) := by rw [Int.add_mul_emod_self_left]
        _ = _ := Int.emod_eq_of_lt lo hi
    rw [h1, Int.pow_succ, Int.add_mul]
    generalize n / 256 ^ s % 256 = r
    generalize n % 256 ^ s = u
    rw [Int.mul_assoc, Int.mul_comm 256 (256 ^ s), Int.mul_comm r]
    omega
theorem wrap_u8_mod (n : Int) : IntKind.wrap .u8 n = n % 256 := by
  simp only [IntKind.wrap, IntKind.signed, IntKind.bits]
  simp
theorem put_l0 {β : Type} (kE0 : List Int → Option β) {n : Int} (hn : 0 ≤ n) : ∀ (s j : Nat) (out : List Int), s ≤ 8 → out.length + s < 2 ^ 39 → p_octet_Put_l0 (j + s + 1) kE0 n out ((s : Int) - 1) = kE0 (out ++ putB n s)
  | 0, j, out, _, _ => by
    rw [p_octet_Put_l0]
    have d : decide (((0 : Nat) : Int) - 1 ≥ 0) = false := by decide
    rw [d, cond_false, putB, List.append_nil]
  | s + 1, j, out, hs, ho => by
    rw [show j + (s + 1) + 1 = (j + s + 1) + 1 from rfl, p_octet_Put_l0]
    have d : decide (((s + 1 : Nat) : Int) - 1 ≥ 0) = true := decide_eq_true (by omega)
    have w1 : IntKind.wrap .i64 ((((s + 1 : Nat) : Int) - 1) * 8) = ((8 * s : Nat) : Int) := by rw [wrap_i64 (by omega) (by omega)]; omega
    have w2 : IntKind.wrap .i64 (((s + 1 : Nat) : Int) - 1 - 1) = (s : Int) - 1 := by rw [wrap_i64 (by omega) (by omega)]; omega
    have hsh : shP .shr .u64 n ((8 * s : Nat) : Int) = some (n / 256 ^ s) := by
      unfold shP
      rw [if_neg (by omega)]
      have : min (((8 * s : Nat) : Int).toNat) IntKind.u64.bits = 8 * s := by
        rw [Int.toNat_natCast]
        show min (8 * s) 64 = 8 * s
        omega
      simp only [this]
      have e : (2 : Int) ^ (8 * s) = 256 ^ s := by rw [Int.pow_mul]; rfl
      rw [e, Int.fdiv_eq_ediv_of_nonneg _ (Int.le_of_lt (Int.pow_pos (by decide)))]
    rw [d, cond_true, w1, hsh, Option.bind_some, wrap_u8_mod, ap_eq (by decide) (by simp only [List.length_cons, List.length_nil]; omega), Option.bind_some, w2, put_l0 kE0 hn s j _ (by omega) (by rw [List.length_append]; simp only [List.length_cons, List.length_nil]; omega), putB, List.append_assoc]
    rfl
theorem putO_ok {k : Nat} (hk : 10 ≤ k) {b : List Int} (hb : b.length < 1000) {n : Int} (hn : 0 ≤ n) {s : Nat} (h1 : 1 ≤ s) (h8 : s ≤ 8) : p_octet_Put k b n (s : Int) = some (b ++ putB n s) := by
  unfold p_octet_Put
  have d1 : decide ((s : Int) < 1) = false := decide_eq_false (by omega)
  have d2 : decide ((s : Int) > 8) = false := decide_eq_false (by omega)
  rw [clone_eq (by decide) (by omega), Option.bind_some]
  simp only [d1, d2, cond_false, Option.bind_some]
  rw [wrap_i64 (by omega) (by omega)]
  have := put_l0 (fun r => some r) hn s (k - s - 1) b h8 (by omega)
  rwa [show k - s - 1 + s + 1 = k by omega] at this
theorem wrap_u64 {n : Int} (h1 : 0 ≤ n) (h2 : n < 18446744073709551616) : IntKind.wrap .u64 n = n := by
  simp only [IntKind.wrap, IntKind.signed, IntKind.bits]
  simp
  omega
theorem wrap_u32 {n : Int} (h1 : 0 ≤ n) (h2 : n < 4294967296) : IntKind.wrap .u32 n = n := by
  simp only [IntKind.wrap, IntKind.signed, IntKind.bits]
  simp
  omega
theorem or_u64 {a b : Int} (ha : 0 ≤ a) (ha2 : a < 2 ^ 56) (hb : 0 ≤ b ∧ b < 256) : intBits .or .u64 (IntKind.wrap .u64 (a * 2 ^ 8)) (IntKind.wrap .u64 b) = a * 256 + b := by
  obtain ⟨m, rfl⟩ : ∃ m : Nat, a = m := ⟨a.toNat, by omega⟩
  obtain ⟨n, rfl⟩ : ∃ n : Nat, b = n := ⟨b.toNat, by omega⟩
  have w1 : IntKind.wrap .u64 ((m : Int) * 2 ^ 8) = ((m * 256 : Nat) : Int) := by rw [wrap_u64 (by omega) (by omega)]; omega
  have w2 : IntKind.wrap .u64 (n : Int) = (n : Int) := wrap_u64 (by omega) (by omega)
  rw [w1, w2]
  have hor : m * 256 ||| n = m * 256 + n := by
    have := Nat.shiftLeft_add_eq_or_of_lt (b := n) (i := 8) (by omega) m
    rw [Nat.shiftLeft_eq] at this
    exact this.symm
  have h1 : (BitVec.ofInt 64 ((m * 256 : Nat) : Int) ||| BitVec.ofInt 64 (n : Int)).toNat = m * 256 + n := by
    rw [BitVec.toNat_or, BitVec.toNat_ofInt, BitVec.toNat_ofInt]
    have e1 : (((m * 256 : Nat) : Int) % ((2 ^ 64 : Nat) : Int)).toNat = m * 256 := by rw [Int.emod_eq_of_lt (by omega) (by omega)]; rfl
    have e2 : (((n : Nat) : Int) % ((2 ^ 64 : Nat) : Int)).toNat = n := by rw [Int.emod_eq_of_lt (by omega) (by omega)]; rfl
    rw [e1, e2, hor]
  show IntKind.wrap .u64 (((BitVec.ofInt 64 ((m * 256 : Nat) : Int) ||| BitVec.ofInt 64 (n : Int)).toNat : Nat) : Int) = _
  rw [h1, show ((m * 256 + n : Nat) : Int) = (m : Int) * 256 + n by omega]
  exact wrap_u64 (by omega) (by omega)
theorem get_l0 {β : Type} (kE0 : Int → Option β) (xs : List Int) (hx : isB xs) (hl : xs.length ≤ 8) : ∀ (rest pre : List Int) (j : Nat) (a : Int), xs = pre ++ rest → 0 ≤ a → a < 256 ^ pre.length →
    p_octet_Get_l0 (j + rest.length + 1) kE0 a xs (xs.length : Int) (pre.length : Int) = kE0 (getB a rest)
  | [], pre, j, a, h, _, _ => by
    rw [p_octet_Get_l0]
    have h1 : decide ((pre.length : Int) < (xs.length : Int)) = false := by subst h; simp
    rw [h1, cond_false, getB]
  | b :: rest, pre, j, a, h, h0, ha => by
    have hplen : pre.length + 1 ≤ xs.length := by rw [h, List.length_append, List.length_cons]; omega
    rw [List.length_cons, show j + (rest.length + 1) + 1 = (j + rest.length + 1) + 1 from rfl, p_octet_Get_l0]
    have h1 : decide ((pre.length : Int) < (xs.length : Int)) = true := decide_eq_true (by omega)
    have h2 : ix xs (pre.length : Int) = some b := ix_mid' h rfl
    have h4 : IntKind.wrap .i64 ((pre.length : Int) + 1) = (((pre ++ [b]).length : Nat) : Int) := by rw [wrap_i64 (by omega) (by omega)]; simp
    have hb := hx b (by rw [h]; simp)
    have hpow : (256 : Int) ^ pre.length ≤ 256 ^ 7 := by
      have : (256 : Nat) ^ pre.length ≤ 256 ^ 7 := Nat.pow_le_pow_right (by omega) (by omega)
      exact_mod_cast this
    have h56 : a < 2 ^ 56 := by
      have : (256 : Int) ^ 7 = 2 ^ 56 := rfl
      omega
    rw [h1, cond_true, h2, Option.bind_some, or_u64 h0 h56 hb, h4, get_l0 kE0 xs hx hl rest (pre ++ [b]) j _ (by rw [h]; simp) (by omega) (by
      rw [List.length_append, List.length_cons, List.length_nil, Int.pow_succ]
      omega), getB]
theorem get_ok {k : Nat} (hk : 10 ≤ k) {xs : List Int} (hx : isB xs) (hl : xs.length < 2 ^ 30) {a n : Nat} (h : a + n ≤ xs.length) (h1 : 1 ≤ n) (h8 : n ≤ 8) : p_octet_Get k xs (a : Int) (n : Int) = some (getB 0 ((xs.drop a).take n), true) := by
  unfold p_octet_Get
  rw [cut_ok h (by omega), Option.bind_some]
  have d1 : decide ((n : Int) < 1) = false := decide_eq_false (by omega)
  have d2 : decide ((n : Int) > 8) = false := decide_eq_false (by omega)
  simp only [Bool.not_true, cond_false, d1, d2, Option.bind_some]
  have hlen : ((xs.drop a).take n).length = n := by rw [List.length_take, List.length_drop]; omega
  have hB : isB ((xs.drop a).take n) := fun x hx' => hx x (List.mem_of_mem_drop (List.mem_of_mem_take hx'))
  have := get_l0 (fun r => some (r, true)) ((xs.drop a).take n) hB (by omega) ((xs.drop a).take n) [] (k - n - 1) 0 rfl (by omega) (by simp)
  rw [hlen] at this ⊢
  rw [show k - n - 1 + n + 1 = k by omega] at this
  exact this
theorem ap_eq2 {α : Type} {b : Nat} {xs ys : List α} (hb : b ≤ 1000) (h : xs.length + ys.length < 2 ^ 30) : ap b xs ys = some (xs ++ ys) := by
  unfold ap
  refine if_pos ⟨?_, by omega⟩
  have : (xs.length + ys.length) * b ≤ (xs.length + ys.length) * 1000 := Nat.mul_le_mul_left _ hb
  omega
theorem or_add (k : IntKind) {j : Nat} {a b : Int} (ha : 0 ≤ a) (hb : 0 ≤ b) (hbj : b < 2 ^ j) (hs : a * 2 ^ j + b < 2 ^ k.bits) (hw : k.wrap (a * 2 ^ j + b) = a * 2 ^ j + b) : intBits .or k (a * 2 ^ j) b = a * 2 ^ j + b := by
  obtain ⟨m, rfl⟩ : ∃ m : Nat, a = m := ⟨a.toNat, by omega⟩
  obtain ⟨n, rfl⟩ : ∃ n : Nat, b = n := ⟨b.toNat, by omega⟩
  have c1 : ((m : Int) * 2 ^ j) = ((m * 2 ^ j : Nat) : Int) := by rw [Int.natCast_mul, Int.natCast_pow]; rfl
  have hbj' : n < 2 ^ j := by
    have : ((n : Nat) : Int) < ((2 ^ j : Nat) : Int) := by rw [Int.natCast_pow]; exact hbj
    exact Int.ofNat_lt.1 this
  have hor : m * 2 ^ j ||| n = m * 2 ^ j + n := by
    have := Nat.shiftLeft_add_eq_or_of_lt (b := n) (i := j) hbj' m
    rw [Nat.shiftLeft_eq] at this
    exact this.symm
  rw [c1] at hs hw ⊢
  have hs' : m * 2 ^ j + n < 2 ^ k.bits := by
    have : (((m * 2 ^ j + n : Nat)) : Int) < ((2 ^ k.bits : Nat) : Int) := by rw [Int.natCast_pow, Int.natCast_add]; exact hs
    exact Int.ofNat_lt.1 this
  have h1 : (BitVec.ofInt k.bits ((m * 2 ^ j : Nat) : Int) ||| BitVec.ofInt k.bits (n : Int)).toNat = m * 2 ^ j + n := by
    rw [BitVec.toNat_or, BitVec.toNat_ofInt, BitVec.toNat_ofInt]
    have e1 : (((m * 2 ^ j : Nat) : Int) % ((2 ^ k.bits : Nat) : Int)).toNat = m * 2 ^ j := by rw [Int.emod_eq_of_lt (Int.natCast_nonneg _) (Int.ofNat_lt.2 (by omega))]; rfl
    have e2 : (((n : Nat) : Int) % ((2 ^ k.bits : Nat) : Int)).toNat = n := by rw [Int.emod_eq_of_lt (Int.natCast_nonneg _) (Int.ofNat_lt.2 (by omega))]; rfl
    rw [e1, e2, hor]
  show k.wrap (((BitVec.ofInt k.bits ((m * 2 ^ j : Nat) : Int) ||| BitVec.ofInt k.bits (n : Int)).toNat : Nat) : Int) = _
  rw [h1, Int.natCast_add]
  exact hw
end Go.Ev
/- Equations, printed by tracer2.py. -/
namespace Go.Ev
open Go.Proofs
set_option linter.unusedVariables false
set_option maxRecDepth 100000
-- 100 limelight/rate.Down
theorem rate_Down_entry (rec : CallF) (loop : LoopV) (σ : Stamp) (x0 : Int) (x1 : Int) (h : H) : cvBody G rec loop 100 σ [(.p (.int .u64 x0)), (.p (.int .i64 x1))] h =
 (callO rec 128 (2 :: 0 :: 1 :: 0 :: σ) [(.p (.int .u64 x0)), (.p (.int .i64 x1))] (List.replicate 17 [] :: h) (some 10)).bind fun q1 =>
 (extV q1.1 0).bind fun t2 =>
 (castI .i64 t2).bind fun n3 =>
 (extV q1.1 1).bind fun t4 =>
 (castI .u32 t4).bind fun n5 =>
 (callO rec 135 (3 :: 0 :: 1 :: 1 :: 0 :: σ) [(.p (.int .i64 n3)), (.p (.int .u32 n5)), (.p (.int .i64 x1))] q1.2 (some 16)).bind fun q6 =>
 (castI .u64 q6.1).bind fun n7 =>
 fin false σ q6.2 [(.p (.int .u64 n7))] := by kernel_rfl
end Go.Ev
/- Equations, printed by tracer2.py. -/
namespace Go.Ev
open Go.Proofs
set_option linter.unusedVariables false
set_option maxRecDepth 100000
-- 135 limelight/rate.Open
theorem rate_Open_entry (rec : CallF) (loop : LoopV) (σ : Stamp) (x0 : Int) (x1 : Int) (x2 : Int) (h : H) : cvBody G rec loop 135 σ [(.p (.int .i64 x0)), (.p (.int .u32 x1)), (.p (.int .i64 x2))] h =
 (callO rec 150 (1 :: 0 :: 0 :: 1 :: 0 :: σ) [(.p (.int .i64 x2))] (List.replicate 36 [] :: h) (some 9)).bind fun q1 =>
 (asB q1.1).bind fun b2 =>
 (bif !b2 then (some true) else (some (decide (x0 < 0)))).bind fun b3 =>
 (bif b3 then (some true) else (some (decide (x0 > 63)))).bind fun b4 =>
 (bif b4 then (some true) else ((shiftV .shr .u32 x1 x2).bind fun t5 =>
 (castI .u32 t5).bind fun n6 =>
 some (decide (n6 > 0)))).bind fun b7 =>
 bif b7 then (
 fin false σ q1.2 [(.p (.int .u64 0))])
 else (
 (shiftV .shl .u64 (IntKind.wrap .u64 x1) x0).bind fun t8 =>
 (castI .u64 t8).bind fun n9 =>
 (shiftV .shr .u64 n9 x0).bind fun t10 =>
 (castI .u64 t10).bind fun n11 =>
 bif n11 != (IntKind.wrap .u64 x1) then (
 fin false σ q1.2 [(.p (.int .u64 18446744073709551615))])
 else (
 fin false σ q1.2 [(.p (.int .u64 n9))])) := by kernel_rfl
end Go.Ev
/- Equations, printed by tracer2.py. -/
namespace Go.Ev
open Go.Proofs
set_option linter.unusedVariables false
set_option maxRecDepth 100000
-- 150 limelight/rate.may
theorem rate_may_entry (rec : CallF) (loop : LoopV) (σ : Stamp) (x0 : Int) (h : H) : cvBody G rec loop 150 σ [(.p (.int .i64 x0))] h =
 (bif decide (x0 ≥ 1) then (some (decide (x0 ≤ 24))) else (some false)).bind fun b1 =>
 fin false σ (List.replicate 9 [] :: h) [(.p (.bool b1))] := by kernel_rfl
end Go.Ev
/- Lifted by lift.py: rate_may as a plain function. -/
namespace Go.Ev
open Go.Proofs
set_option linter.unusedVariables false
set_option linter.unusedSimpArgs false
set_option maxRecDepth 100000
def p_rate_may (x0 : Int) : Option (Bool) :=
(bif decide (x0 ≥ 1) then (some (decide (x0 ≤ 24))) else (some false)).bind fun b1 =>
some (b1)
theorem rate_may_ok {h : H} {σ : Stamp} (x0 : Int) : Sim (p_rate_may x0) (ev G X0 150 σ [(.p (.int .i64 x0))] h) (fun r s => s = ([.v (.p (.bool r))], h)) := by
  refine Sim.ev rfl (Sim.ext (rate_may_entry _ _ _ _ _) ?_)
  rw [p_rate_may]
  have S0 : Fm 9 h [] [] [] (List.replicate 9 [] :: h) := Fm.start0
  refine Sim.ch (P := fun r y => r = y) ?_ (fun b1 y2 h3 h4 => ?_)
  · refine Sim.cd (fun hc => ?_) (fun hc => ?_)
    · exact Sim.ret rfl rfl
    · exact Sim.ret rfl rfl
  subst h4
  exact Sim.fin (S0.finN (lv_cons (still_bool _).lv lv_nil)) rfl
end Go.Ev
/- Lifted by lift.py: rate_Open as a plain function. -/
namespace Go.Ev
open Go.Proofs
set_option linter.unusedVariables false
set_option linter.unusedSimpArgs false
set_option maxRecDepth 100000
def p_rate_Open (x0 : Int) (x1 : Int) (x2 : Int) : Option (Int) :=
(p_rate_may x2).bind fun r1 =>
(bif !r1 then (some true) else (some (decide (x0 < 0)))).bind fun b6 =>
(bif b6 then (some true) else (some (decide (x0 > 63)))).bind fun b10 =>
(bif b10 then (some true) else ((shP .shr .u32 x1 x2).bind fun n14 =>
some (decide (n14 > 0)))).bind fun b16 =>
bif b16 then (
some (0))
else (
(shP .shl .u64 (IntKind.wrap .u64 x1) x0).bind fun n21 =>
(shP .shr .u64 n21 x0).bind fun n23 =>
bif n23 != (IntKind.wrap .u64 x1) then (
some (18446744073709551615))
else (
some (n21)))
theorem rate_Open_ok {h : H} {σ : Stamp} (x0 : Int) (x1 : Int) (x2 : Int) : Sim (p_rate_Open x0 x1 x2) (ev G X0 135 σ [(.p (.int .i64 x0)), (.p (.int .u32 x1)), (.p (.int .i64 x2))] h) (fun r s => s = ([.v (.p (.int .u64 r))], h)) := by
  refine Sim.ev rfl (Sim.ext (rate_Open_entry _ _ _ _ _ _ _) ?_)
  rw [p_rate_Open]
  have S0 : Fm 36 h [] [] [] (List.replicate 36 [] :: h) := Fm.start0
  refine Sim.call (rate_may_ok x2) fun r1 cs2 H3 h4 q5 => ?_
  cases q5
  refine Sim.op (asB_p _) ?_
  refine Sim.ch (P := fun r y => r = y) ?_ (fun b6 y7 h8 h9 => ?_)
  · refine Sim.cd (fun hc => ?_) (fun hc => ?_)
    · exact Sim.ret rfl rfl
    · exact Sim.ret rfl rfl
  subst h9
  refine Sim.ch (P := fun r y => r = y) ?_ (fun b10 y11 h12 h13 => ?_)
  · refine Sim.cd (fun hc => ?_) (fun hc => ?_)
    · exact Sim.ret rfl rfl
    · exact Sim.ret rfl rfl
  subst h13
  refine Sim.ch (P := fun r y => r = y) ?_ (fun b16 y17 h18 h19 => ?_)
  · refine Sim.cd (fun hc => ?_) (fun hc => ?_)
    · exact Sim.ret rfl rfl
    · refine Sim.bd fun n14 h15 => ?_
      refine Sim.op (shP_ok h15) ?_
      refine Sim.op (castI_p _ _) ?_
      exact Sim.ret rfl rfl
  subst h19
  refine Sim.cd (fun hc20 => ?_) (fun hc20 => ?_)
  · exact Sim.fin (S0.finN (lv_cons (still_int _ _).lv lv_nil)) rfl
  refine Sim.bd fun n21 h22 => ?_
  refine Sim.op (shP_ok h22) ?_
  refine Sim.op (castI_p _ _) ?_
  refine Sim.bd fun n23 h24 => ?_
  refine Sim.op (shP_ok h24) ?_
  refine Sim.op (castI_p _ _) ?_
  refine Sim.cd (fun hc25 => ?_) (fun hc25 => ?_)
  · exact Sim.fin (S0.finN (lv_cons (still_int _ _).lv lv_nil)) rfl
  exact Sim.fin (S0.finN (lv_cons (still_int _ _).lv lv_nil)) rfl
end Go.Ev
/- Equations, printed by tracer2.py. -/
namespace Go.Ev
open Go.Proofs
set_option linter.unusedVariables false
set_option maxRecDepth 100000
-- 128 limelight/rate.Pack
noncomputable def rate_Pack_c0 : Code := (codeAt (bodyOf Try.f128) [1, 1, 1, 0, 0, 0])
def rate_Pack_l0 : Lv := ⟨65, 48, [(0, 65)]⟩
noncomputable def rate_Pack_k0 (rec : CallF) (loop : LoopV) (σ : Stamp) : Exit → Env → H → Option (List C × H) := (kBlock 0 (kSeq G rec loop (codeAt (bodyOf Try.f128) [1, 1, 1, 1]) ⟨48, 48, []⟩ (1 :: 1 :: 1 :: 0 :: σ) (finC G false Try.f128 (1 :: σ))))
theorem rate_Pack_entry (rec : CallF) (loop : LoopV) (σ : Stamp) (x0 : Int) (x1 : Int) (h : H) : cvBody G rec loop 128 σ [(.p (.int .u64 x0)), (.p (.int .i64 x1))] h =
 (callO rec 150 (1 :: 0 :: 0 :: 1 :: 0 :: σ) [(.p (.int .i64 x1))] (List.replicate 21 [] :: h) (some 8)).bind fun q1 =>
 (asB q1.1).bind fun b2 =>
 bif !b2 then (
 fin false σ q1.2 [(.p (.int .i64 0)), (.p (.int .u32 0))])
 else (
 (loop rate_Pack_c0 rate_Pack_l0 (0 :: 1 :: 1 :: 1 :: 0 :: σ) (envL [(0, (.p (.int .u64 x0))), (1, (.p (.int .i64 x1))), (6, (.p (.int .i64 0)))]) q1.2).bind fun r3 => rate_Pack_k0 rec loop σ r3.1 r3.2.1 r3.2.2) := by kernel_rfl
theorem rate_Pack_r0 (rec : CallF) (loop : LoopV) (σ : Stamp) (x0 : Int) (x1 : Int) (x6 : Int) (h : H) : cvRound G rec loop rate_Pack_c0 rate_Pack_l0 σ (envL [(0, (.p (.int .u64 x0))), (1, (.p (.int .i64 x1))), (6, (.p (.int .i64 x6)))]) h =
 (shiftV .shr .u64 x0 x1).bind fun t4 =>
 (castI .u64 t4).bind fun n5 =>
 bif decide (n5 > 0) then (
 loop rate_Pack_c0 rate_Pack_l0 (1 :: σ) (envL [(0, (.p (.int .u64 (Int.fdiv x0 (2 ^ 1))))), (1, (.p (.int .i64 x1))), (6, (.p (.int .i64 (IntKind.wrap .i64 (x6 + 1)))))]) h)
 else (
 some ((.exit 0), (envL [(0, (.p (.int .u64 x0))), (6, (.p (.int .i64 x6)))]), h)) := by kernel_rfl
theorem rate_Pack_a0_0 (rec : CallF) (loop : LoopV) (σ : Stamp) (x0 : Int) (x6 : Int) (h : H) : rate_Pack_k0 rec loop σ (.exit 0) (envL [(0, (.p (.int .u64 x0))), (6, (.p (.int .i64 x6)))]) h =
 fin false σ h [(.p (.int .i64 x6)), (.p (.int .u32 (IntKind.wrap .u32 x0)))] := by kernel_rfl
end Go.Ev
/- Lifted by lift.py: rate_Pack as a plain function. -/
namespace Go.Ev
open Go.Proofs
set_option linter.unusedVariables false
set_option linter.unusedSimpArgs false
set_option maxRecDepth 100000
def p_rate_Pack_l0 {β : Type} (k : Nat) (kE0 : Int → Int → Option β) (x0 : Int) (x1 : Int) (x6 : Int) : Option β := match k with
| 0 => none
| k + 1 =>
(shP .shr .u64 x0 x1).bind fun n9 =>
bif decide (n9 > 0) then (
p_rate_Pack_l0 k kE0 (Int.fdiv x0 (2 ^ 1)) x1 (IntKind.wrap .i64 (x6 + 1)))
else (
kE0 x0 x6)
def p_rate_Pack (k : Nat) (x0 : Int) (x1 : Int) : Option (Int × Int) :=
(p_rate_may x1).bind fun r1 =>
bif !r1 then (
some (0, 0))
else (
p_rate_Pack_l0 k (fun r14_0 r14_6 =>
some (r14_6, (IntKind.wrap .u32 r14_0))) x0 x1 0)
theorem rate_Pack_l0_ok {h : H}  {β α : Type} {Q : β → α → Prop} {K : Exit × Env × H → Option α} {kE0 : Int → Int → Option β} (hE0 : ∀ (q0 : Int) (q6 : Int) (H12 : Go.Ev.H) (_ : Fm 21 h [] [] [] H12), Sim (kE0 q0 q6) (K ((.exit 0), (envL [(0, (.p (.int .u64 q0))), (6, (.p (.int .i64 q6)))]), H12)) Q) (k : Nat) : ∀ (x0 : Int) (x1 : Int) (x6 : Int) (H7 : Go.Ev.H) (_ : Fm 21 h [] [] [] H7) {σ : Stamp}, Sim (p_rate_Pack_l0 k kE0 x0 x1 x6) ((cvL G X0 rate_Pack_c0 rate_Pack_l0 σ (envL [(0, (.p (.int .u64 x0))), (1, (.p (.int .i64 x1))), (6, (.p (.int .i64 x6)))]) H7).bind K) Q := by
  induction k with
  | zero => intros; exact Sim.no
  | succ k ih =>
    intro x0 x1 x6 H7 S8 σ
    rw [p_rate_Pack_l0]
    refine Sim.round (Sim.ext (rate_Pack_r0 _ _ _ _ _ _ _) ?_)
    refine Sim.bd fun n9 h10 => ?_
    refine Sim.op (shP_ok h10) ?_
    refine Sim.op (castI_p _ _) ?_
    refine Sim.cd (fun hc11 => ?_) (fun hc11 => ?_)
    · exact ih (Int.fdiv x0 (2 ^ 1)) x1 (IntKind.wrap .i64 (x6 + 1)) H7 (S8.wk2 all_nil all_nil)
    exact hE0 x0 x6 H7 (S8.wk2 all_nil all_nil)
theorem rate_Pack_ok (k : Nat) {h : H} {σ : Stamp} (x0 : Int) (x1 : Int) : Sim (p_rate_Pack k x0 x1) (ev G X0 128 σ [(.p (.int .u64 x0)), (.p (.int .i64 x1))] h) (fun r s => s = ([.v (.p (.int .i64 r.1)), .v (.p (.int .u32 r.2))], h)) := by
  refine Sim.ev rfl (Sim.ext (rate_Pack_entry _ _ _ _ _ _) ?_)
  rw [p_rate_Pack]
  have S0 : Fm 21 h [] [] [] (List.replicate 21 [] :: h) := Fm.start0
  refine Sim.call (rate_may_ok x1) fun r1 cs2 H3 h4 q5 => ?_
  cases q5
  refine Sim.op (asB_p _) ?_
  refine Sim.cd (fun hc6 => ?_) (fun hc6 => ?_)
  · exact Sim.fin (S0.finN (lv_cons (still_int _ _).lv (lv_cons (still_int _ _).lv lv_nil))) rfl
  refine Sim.as (rate_Pack_l0_ok ?_ k x0 x1 0 (List.replicate 21 [] :: h) (S0.wk2 all_nil all_nil)) 
  · intro r14_0 r14_6 H15 S16
    refine Sim.ext (rate_Pack_a0_0 _ _ _ _ _ _) ?_
    exact Sim.fin (S16.finN (lv_cons (still_int _ _).lv (lv_cons (still_int _ _).lv lv_nil))) rfl
end Go.Ev
/- Lifted by lift.py: rate_Down as a plain function. -/
namespace Go.Ev
open Go.Proofs
set_option linter.unusedVariables false
set_option linter.unusedSimpArgs false
set_option maxRecDepth 100000
def p_rate_Down (k : Nat) (x0 : Int) (x1 : Int) : Option (Int) :=
(p_rate_Pack k x0 x1).bind fun r1 =>
(p_rate_Open r1.1 r1.2 x1).bind fun r6 =>
some (r6)
theorem rate_Down_ok (k : Nat) {h : H} {σ : Stamp} (x0 : Int) (x1 : Int) : Sim (p_rate_Down k x0 x1) (ev G X0 100 σ [(.p (.int .u64 x0)), (.p (.int .i64 x1))] h) (fun r s => s = ([.v (.p (.int .u64 r))], h)) := by
  refine Sim.ev rfl (Sim.ext (rate_Down_entry _ _ _ _ _ _) ?_)
  rw [p_rate_Down]
  have S0 : Fm 17 h [] [] [] (List.replicate 17 [] :: h) := Fm.start0
  refine Sim.call (rate_Pack_ok k x0 x1) fun r1 cs2 H3 h4 q5 => ?_
  cases q5
  refine Sim.op (rfl) ?_
  refine Sim.op (castI_p _ _) ?_
  refine Sim.op (rfl) ?_
  refine Sim.op (castI_p _ _) ?_
  refine Sim.call (rate_Open_ok r1.1 r1.2 x1) fun r6 cs7 H8 h9 q10 => ?_
  cases q10
  refine Sim.op (castI_p _ _) ?_
  exact Sim.fin (S0.finN (lv_cons (still_int _ _).lv lv_nil)) rfl
end Go.Ev
/- Equations, printed by tracer2.py. -/
namespace Go.Ev
open Go.Proofs
set_option linter.unusedVariables false
set_option maxRecDepth 100000
-- 44 limelight/limelightref1.Down
theorem limelightref1_Down_entry (rec : CallF) (loop : LoopV) (σ : Stamp) (x0 : Int) (x1 : Int) (h : H) : cvBody G rec loop 44 σ [(.p (.int .u64 x0)), (.p (.int .i64 x1))] h =
 (callO rec 84 (2 :: 0 :: 1 :: 0 :: σ) [(.p (.int .u64 x0)), (.p (.int .i64 x1))] (List.replicate 17 [] :: h) (some 10)).bind fun q1 =>
 (extV q1.1 0).bind fun t2 =>
 (castI .i64 t2).bind fun n3 =>
 (extV q1.1 1).bind fun t4 =>
 (castI .u32 t4).bind fun n5 =>
 (callO rec 27 (3 :: 0 :: 1 :: 1 :: 0 :: σ) [(.p (.int .i64 n3)), (.p (.int .u32 n5)), (.p (.int .i64 x1))] q1.2 (some 16)).bind fun q6 =>
 (castI .u64 q6.1).bind fun n7 =>
 fin false σ q6.2 [(.p (.int .u64 n7))] := by kernel_rfl
end Go.Ev
/- Equations, printed by tracer2.py. -/
namespace Go.Ev
open Go.Proofs
set_option linter.unusedVariables false
set_option maxRecDepth 100000
-- 27 limelight/limelightref1.Open
theorem limelightref1_Open_entry (rec : CallF) (loop : LoopV) (σ : Stamp) (x0 : Int) (x1 : Int) (x2 : Int) (h : H) : cvBody G rec loop 27 σ [(.p (.int .i64 x0)), (.p (.int .u32 x1)), (.p (.int .i64 x2))] h =
 (bif decide (x2 < 1) then (some true) else (some (decide (x2 > 24)))).bind fun b1 =>
 (bif b1 then (some true) else (some (decide (x0 < 0)))).bind fun b2 =>
 (bif b2 then (some true) else (some (decide (x0 > 63)))).bind fun b3 =>
 (bif b3 then (some true) else ((shiftV .shl .u32 1 (IntKind.wrap .u64 x2)).bind fun t4 =>
 (castI .u32 t4).bind fun n5 =>
 some (decide (x1 ≥ n5)))).bind fun b6 =>
 bif b6 then (
 fin false σ (List.replicate 42 [] :: h) [(.p (.int .u64 0))])
 else (
 (shiftV .shl .u64 (IntKind.wrap .u64 x1) (IntKind.wrap .u64 x0)).bind fun t7 =>
 (castI .u64 t7).bind fun n8 =>
 (shiftV .shr .u64 n8 (IntKind.wrap .u64 x0)).bind fun t9 =>
 (castI .u64 t9).bind fun n10 =>
 bif n10 != (IntKind.wrap .u64 x1) then (
 fin false σ (List.replicate 42 [] :: h) [(.p (.int .u64 18446744073709551615))])
 else (
 fin false σ (List.replicate 42 [] :: h) [(.p (.int .u64 n8))])) := by kernel_rfl
end Go.Ev
/- Lifted by lift.py: limelightref1_Open as a plain function. -/
namespace Go.Ev
open Go.Proofs
set_option linter.unusedVariables false
set_option linter.unusedSimpArgs false
set_option maxRecDepth 100000
def p_limelightref1_Open (x0 : Int) (x1 : Int) (x2 : Int) : Option (Int) :=
(bif decide (x2 < 1) then (some true) else (some (decide (x2 > 24)))).bind fun b1 =>
(bif b1 then (some true) else (some (decide (x0 < 0)))).bind fun b5 =>
(bif b5 then (some true) else (some (decide (x0 > 63)))).bind fun b9 =>
(bif b9 then (some true) else ((shP .shl .u32 1 (IntKind.wrap .u64 x2)).bind fun n13 =>
some (decide (x1 ≥ n13)))).bind fun b15 =>
bif b15 then (
some (0))
else (
(shP .shl .u64 (IntKind.wrap .u64 x1) (IntKind.wrap .u64 x0)).bind fun n20 =>
(shP .shr .u64 n20 (IntKind.wrap .u64 x0)).bind fun n22 =>
bif n22 != (IntKind.wrap .u64 x1) then (
some (18446744073709551615))
else (
some (n20)))
theorem limelightref1_Open_ok {h : H} {σ : Stamp} (x0 : Int) (x1 : Int) (x2 : Int) : Sim (p_limelightref1_Open x0 x1 x2) (ev G X0 27 σ [(.p (.int .i64 x0)), (.p (.int .u32 x1)), (.p (.int .i64 x2))] h) (fun r s => s = ([.v (.p (.int .u64 r))], h)) := by
  refine Sim.ev rfl (Sim.ext (limelightref1_Open_entry _ _ _ _ _ _ _) ?_)
  rw [p_limelightref1_Open]
  have S0 : Fm 42 h [] [] [] (List.replicate 42 [] :: h) := Fm.start0
  refine Sim.ch (P := fun r y => r = y) ?_ (fun b1 y2 h3 h4 => ?_)
  · refine Sim.cd (fun hc => ?_) (fun hc => ?_)
    · exact Sim.ret rfl rfl
    · exact Sim.ret rfl rfl
  subst h4
  refine Sim.ch (P := fun r y => r = y) ?_ (fun b5 y6 h7 h8 => ?_)
  · refine Sim.cd (fun hc => ?_) (fun hc => ?_)
    · exact Sim.ret rfl rfl
    · exact Sim.ret rfl rfl
  subst h8
  refine Sim.ch (P := fun r y => r = y) ?_ (fun b9 y10 h11 h12 => ?_)
  · refine Sim.cd (fun hc => ?_) (fun hc => ?_)
    · exact Sim.ret rfl rfl
    · exact Sim.ret rfl rfl
  subst h12
  refine Sim.ch (P := fun r y => r = y) ?_ (fun b15 y16 h17 h18 => ?_)
  · refine Sim.cd (fun hc => ?_) (fun hc => ?_)
    · exact Sim.ret rfl rfl
    · refine Sim.bd fun n13 h14 => ?_
      refine Sim.op (shP_ok h14) ?_
      refine Sim.op (castI_p _ _) ?_
      exact Sim.ret rfl rfl
  subst h18
  refine Sim.cd (fun hc19 => ?_) (fun hc19 => ?_)
  · exact Sim.fin (S0.finN (lv_cons (still_int _ _).lv lv_nil)) rfl
  refine Sim.bd fun n20 h21 => ?_
  refine Sim.op (shP_ok h21) ?_
  refine Sim.op (castI_p _ _) ?_
  refine Sim.bd fun n22 h23 => ?_
  refine Sim.op (shP_ok h23) ?_
  refine Sim.op (castI_p _ _) ?_
  refine Sim.cd (fun hc24 => ?_) (fun hc24 => ?_)
  · exact Sim.fin (S0.finN (lv_cons (still_int _ _).lv lv_nil)) rfl
  exact Sim.fin (S0.finN (lv_cons (still_int _ _).lv lv_nil)) rfl
end Go.Ev
/- Equations, printed by tracer2.py. -/
namespace Go.Ev
open Go.Proofs
set_option linter.unusedVariables false
set_option maxRecDepth 100000
-- 84 limelight/limelightref1.Pack
noncomputable def limelightref1_Pack_c0 : Code := (codeAt (bodyOf Try.f84) [1, 1, 1, 0, 0, 0])
def limelightref1_Pack_l0 : Lv := ⟨65, 48, [(0, 65)]⟩
noncomputable def limelightref1_Pack_k0 (rec : CallF) (loop : LoopV) (σ : Stamp) : Exit → Env → H → Option (List C × H) := (kBlock 0 (kSeq G rec loop (codeAt (bodyOf Try.f84) [1, 1, 1, 1]) ⟨48, 48, []⟩ (1 :: 1 :: 1 :: 0 :: σ) (finC G false Try.f84 (1 :: σ))))
theorem limelightref1_Pack_entry (rec : CallF) (loop : LoopV) (σ : Stamp) (x0 : Int) (x1 : Int) (h : H) : cvBody G rec loop 84 σ [(.p (.int .u64 x0)), (.p (.int .i64 x1))] h =
 (bif decide (x1 < 1) then (some true) else (some (decide (x1 > 24)))).bind fun b1 =>
 bif b1 then (
 fin false σ (List.replicate 29 [] :: h) [(.p (.int .i64 0)), (.p (.int .u32 0))])
 else (
 (loop limelightref1_Pack_c0 limelightref1_Pack_l0 (0 :: 1 :: 1 :: 1 :: 0 :: σ) (envL [(0, (.p (.int .u64 x0))), (1, (.p (.int .i64 x1))), (6, (.p (.int .i64 0)))]) (List.replicate 29 [] :: h)).bind fun r2 => limelightref1_Pack_k0 rec loop σ r2.1 r2.2.1 r2.2.2) := by kernel_rfl
theorem limelightref1_Pack_r0 (rec : CallF) (loop : LoopV) (σ : Stamp) (x0 : Int) (x1 : Int) (x6 : Int) (h : H) : cvRound G rec loop limelightref1_Pack_c0 limelightref1_Pack_l0 σ (envL [(0, (.p (.int .u64 x0))), (1, (.p (.int .i64 x1))), (6, (.p (.int .i64 x6)))]) h =
 (shiftV .shr .u64 x0 (IntKind.wrap .u64 x6)).bind fun t3 =>
 (castI .u64 t3).bind fun n4 =>
 (shiftV .shl .u64 1 (IntKind.wrap .u64 x1)).bind fun t5 =>
 (castI .u64 t5).bind fun n6 =>
 bif decide (n4 ≥ n6) then (
 loop limelightref1_Pack_c0 limelightref1_Pack_l0 (1 :: σ) (envL [(0, (.p (.int .u64 x0))), (1, (.p (.int .i64 x1))), (6, (.p (.int .i64 (IntKind.wrap .i64 (x6 + 1)))))]) h)
 else (
 some ((.exit 0), (envL [(0, (.p (.int .u64 x0))), (6, (.p (.int .i64 x6)))]), h)) := by kernel_rfl
theorem limelightref1_Pack_a0_0 (rec : CallF) (loop : LoopV) (σ : Stamp) (x0 : Int) (x6 : Int) (h : H) : limelightref1_Pack_k0 rec loop σ (.exit 0) (envL [(0, (.p (.int .u64 x0))), (6, (.p (.int .i64 x6)))]) h =
 (shiftV .shr .u64 x0 (IntKind.wrap .u64 x6)).bind fun t7 =>
 (castI .u64 t7).bind fun n8 =>
 fin false σ h [(.p (.int .i64 x6)), (.p (.int .u32 (IntKind.wrap .u32 n8)))] := by kernel_rfl
end Go.Ev
/- Lifted by lift.py: limelightref1_Pack as a plain function. -/
namespace Go.Ev
open Go.Proofs
set_option linter.unusedVariables false
set_option linter.unusedSimpArgs false
set_option maxRecDepth 100000
def p_limelightref1_Pack_l0 {β : Type} (k : Nat) (kE0 : Int → Int → Option β) (x0 : Int) (x1 : Int) (x6 : Int) : Option β := match k with
| 0 => none
| k + 1 =>
(shP .shr .u64 x0 (IntKind.wrap .u64 x6)).bind fun n8 =>
(shP .shl .u64 1 (IntKind.wrap .u64 x1)).bind fun n10 =>
bif decide (n8 ≥ n10) then (
p_limelightref1_Pack_l0 k kE0 x0 x1 (IntKind.wrap .i64 (x6 + 1)))
else (
kE0 x0 x6)
def p_limelightref1_Pack (k : Nat) (x0 : Int) (x1 : Int) : Option (Int × Int) :=
(bif decide (x1 < 1) then (some true) else (some (decide (x1 > 24)))).bind fun b1 =>
bif b1 then (
some (0, 0))
else (
p_limelightref1_Pack_l0 k (fun r15_0 r15_6 =>
(shP .shr .u64 r15_0 (IntKind.wrap .u64 r15_6)).bind fun n18 =>
some (r15_6, (IntKind.wrap .u32 n18))) x0 x1 0)
theorem limelightref1_Pack_l0_ok {h : H}  {β α : Type} {Q : β → α → Prop} {K : Exit × Env × H → Option α} {kE0 : Int → Int → Option β} (hE0 : ∀ (q0 : Int) (q6 : Int) (H13 : Go.Ev.H) (_ : Fm 29 h [] [] [] H13), Sim (kE0 q0 q6) (K ((.exit 0), (envL [(0, (.p (.int .u64 q0))), (6, (.p (.int .i64 q6)))]), H13)) Q) (k : Nat) : ∀ (x0 : Int) (x1 : Int) (x6 : Int) (H6 : Go.Ev.H) (_ : Fm 29 h [] [] [] H6) {σ : Stamp}, Sim (p_limelightref1_Pack_l0 k kE0 x0 x1 x6) ((cvL G X0 limelightref1_Pack_c0 limelightref1_Pack_l0 σ (envL [(0, (.p (.int .u64 x0))), (1, (.p (.int .i64 x1))), (6, (.p (.int .i64 x6)))]) H6).bind K) Q := by
  induction k with
  | zero => intros; exact Sim.no
  | succ k ih =>
    intro x0 x1 x6 H6 S7 σ
    rw [p_limelightref1_Pack_l0]
    refine Sim.round (Sim.ext (limelightref1_Pack_r0 _ _ _ _ _ _ _) ?_)
    refine Sim.bd fun n8 h9 => ?_
    refine Sim.op (shP_ok h9) ?_
    refine Sim.op (castI_p _ _) ?_
    refine Sim.bd fun n10 h11 => ?_
    refine Sim.op (shP_ok h11) ?_
    refine Sim.op (castI_p _ _) ?_
    refine Sim.cd (fun hc12 => ?_) (fun hc12 => ?_)
    · exact ih x0 x1 (IntKind.wrap .i64 (x6 + 1)) H6 (S7.wk2 all_nil all_nil)
    exact hE0 x0 x6 H6 (S7.wk2 all_nil all_nil)
theorem limelightref1_Pack_ok (k : Nat) {h : H} {σ : Stamp} (x0 : Int) (x1 : Int) : Sim (p_limelightref1_Pack k x0 x1) (ev G X0 84 σ [(.p (.int .u64 x0)), (.p (.int .i64 x1))] h) (fun r s => s = ([.v (.p (.int .i64 r.1)), .v (.p (.int .u32 r.2))], h)) := by
  refine Sim.ev rfl (Sim.ext (limelightref1_Pack_entry _ _ _ _ _ _) ?_)
  rw [p_limelightref1_Pack]
  have S0 : Fm 29 h [] [] [] (List.replicate 29 [] :: h) := Fm.start0
  refine Sim.ch (P := fun r y => r = y) ?_ (fun b1 y2 h3 h4 => ?_)
  · refine Sim.cd (fun hc => ?_) (fun hc => ?_)
    · exact Sim.ret rfl rfl
    · exact Sim.ret rfl rfl
  subst h4
  refine Sim.cd (fun hc5 => ?_) (fun hc5 => ?_)
  · exact Sim.fin (S0.finN (lv_cons (still_int _ _).lv (lv_cons (still_int _ _).lv lv_nil))) rfl
  refine Sim.as (limelightref1_Pack_l0_ok ?_ k x0 x1 0 (List.replicate 29 [] :: h) (S0.wk2 all_nil all_nil)) 
  · intro r15_0 r15_6 H16 S17
    refine Sim.ext (limelightref1_Pack_a0_0 _ _ _ _ _ _) ?_
    refine Sim.bd fun n18 h19 => ?_
    refine Sim.op (shP_ok h19) ?_
    refine Sim.op (castI_p _ _) ?_
    exact Sim.fin (S17.finN (lv_cons (still_int _ _).lv (lv_cons (still_int _ _).lv lv_nil))) rfl
end Go.Ev
/- Lifted by lift.py: limelightref1_Down as a plain function. -/
namespace Go.Ev
open Go.Proofs
set_option linter.unusedVariables false
set_option linter.unusedSimpArgs false
set_option maxRecDepth 100000
def p_limelightref1_Down (k : Nat) (x0 : Int) (x1 : Int) : Option (Int) :=
(p_limelightref1_Pack k x0 x1).bind fun r1 =>
(p_limelightref1_Open r1.1 r1.2 x1).bind fun r6 =>
some (r6)
theorem limelightref1_Down_ok (k : Nat) {h : H} {σ : Stamp} (x0 : Int) (x1 : Int) : Sim (p_limelightref1_Down k x0 x1) (ev G X0 44 σ [(.p (.int .u64 x0)), (.p (.int .i64 x1))] h) (fun r s => s = ([.v (.p (.int .u64 r))], h)) := by
  refine Sim.ev rfl (Sim.ext (limelightref1_Down_entry _ _ _ _ _ _) ?_)
  rw [p_limelightref1_Down]
  have S0 : Fm 17 h [] [] [] (List.replicate 17 [] :: h) := Fm.start0
  refine Sim.call (limelightref1_Pack_ok k x0 x1) fun r1 cs2 H3 h4 q5 => ?_
  cases q5
  refine Sim.op (rfl) ?_
  refine Sim.op (castI_p _ _) ?_
  refine Sim.op (rfl) ?_
  refine Sim.op (castI_p _ _) ?_
  refine Sim.call (limelightref1_Open_ok r1.1 r1.2 x1) fun r6 cs7 H8 h9 q10 => ?_
  cases q10
  refine Sim.op (castI_p _ _) ?_
  exact Sim.fin (S0.finN (lv_cons (still_int _ _).lv lv_nil)) rfl
end Go.Ev
/- Equations, printed by tracer2.py. -/
namespace Go.Ev
open Go.Proofs
set_option linter.unusedVariables false
set_option maxRecDepth 100000
-- 94 limelight/rtcp.packed
theorem rtcp_packed_entry (rec : CallF) (loop : LoopV) (σ : Stamp) (x0 : Int) (x1 : Int) (x2 : Int) (x3 : Int) (h : H) : cvBody G rec loop 94 σ [(.p (.int .u64 x0)), (.p (.int .i64 x1)), (.p (.int .i64 x2)), (.p (.int .u64 x3))] h =
 (callO rec 128 (2 :: 0 :: 1 :: 0 :: σ) [(.p (.int .u64 x0)), (.p (.int .i64 x1))] (List.replicate 30 [] :: h) (some 14)).bind fun q1 =>
 (extV q1.1 0).bind fun t2 =>
 (castI .i64 t2).bind fun n3 =>
 (extV q1.1 1).bind fun t4 =>
 (castI .u32 t4).bind fun n5 =>
 (shiftV .shl .u64 (IntKind.wrap .u64 n3) (IntKind.wrap .i64 (x1 + x2))).bind fun t6 =>
 (castI .u64 t6).bind fun n7 =>
 (shiftV .shl .u64 (IntKind.wrap .u64 n5) x2).bind fun t8 =>
 (castI .u64 t8).bind fun n9 =>
 fin false σ q1.2 [(.p (.int .u64 (intBits .or .u64 (intBits .or .u64 n7 n9) x3)))] := by kernel_rfl
end Go.Ev
/- Lifted by lift.py: rtcp_packed as a plain function. -/
namespace Go.Ev
open Go.Proofs
set_option linter.unusedVariables false
set_option linter.unusedSimpArgs false
set_option maxRecDepth 100000
def p_rtcp_packed (k : Nat) (x0 : Int) (x1 : Int) (x2 : Int) (x3 : Int) : Option (Int) :=
(p_rate_Pack k x0 x1).bind fun r1 =>
(shP .shl .u64 (IntKind.wrap .u64 r1.1) (IntKind.wrap .i64 (x1 + x2))).bind fun n6 =>
(shP .shl .u64 (IntKind.wrap .u64 r1.2) x2).bind fun n8 =>
some ((intBits .or .u64 (intBits .or .u64 n6 n8) x3))
theorem rtcp_packed_ok (k : Nat) {h : H} {σ : Stamp} (x0 : Int) (x1 : Int) (x2 : Int) (x3 : Int) : Sim (p_rtcp_packed k x0 x1 x2 x3) (ev G X0 94 σ [(.p (.int .u64 x0)), (.p (.int .i64 x1)), (.p (.int .i64 x2)), (.p (.int .u64 x3))] h) (fun r s => s = ([.v (.p (.int .u64 r))], h)) := by
  refine Sim.ev rfl (Sim.ext (rtcp_packed_entry _ _ _ _ _ _ _ _) ?_)
  rw [p_rtcp_packed]
  have S0 : Fm 30 h [] [] [] (List.replicate 30 [] :: h) := Fm.start0
  refine Sim.call (rate_Pack_ok k x0 x1) fun r1 cs2 H3 h4 q5 => ?_
  cases q5
  refine Sim.op (rfl) ?_
  refine Sim.op (castI_p _ _) ?_
  refine Sim.op (rfl) ?_
  refine Sim.op (castI_p _ _) ?_
  refine Sim.bd fun n6 h7 => ?_
  refine Sim.op (shP_ok h7) ?_
  refine Sim.op (castI_p _ _) ?_
  refine Sim.bd fun n8 h9 => ?_
  refine Sim.op (shP_ok h9) ?_
  refine Sim.op (castI_p _ _) ?_
  exact Sim.fin (S0.finN (lv_cons (still_int _ _).lv lv_nil)) rfl
end Go.Ev
/- Equations, printed by tracer2.py. -/
namespace Go.Ev
open Go.Proofs
set_option linter.unusedVariables false
set_option maxRecDepth 100000
-- 151 (*limelight/rtcp.reader).rate
theorem rtcp_reader_rate_entry (rec : CallF) (loop : LoopV) (σ : Stamp) (x0 : V) (x1 : Int) (x2 : Int) (h : H) : cvBody G rec loop 151 σ [x0, (.p (.int .u64 x1)), (.p (.int .i64 x2))] h =
 (shiftV .shr .u64 x1 x2).bind fun t1 =>
 (castI .u64 t1).bind fun n2 =>
 (shiftV .shl .u64 1 x2).bind fun t3 =>
 (castI .u64 t3).bind fun n4 =>
 (callO rec 135 (3 :: 0 :: 1 :: 1 :: 0 :: σ) [(.p (.int .i64 (IntKind.wrap .i64 n2))), (.p (.int .u32 (IntKind.wrap .u32 (intBits .and .u64 x1 (IntKind.wrap .u64 (n4 - 1)))))), (.p (.int .i64 x2))] (List.replicate 40 [] :: h) (some 23)).bind fun q5 =>
 (castI .u64 q5.1).bind fun n6 =>
 (nilChk x0).bind fun t7 =>
 (fA t7 2).bind fun t8 =>
 (ldO false 1 q5.2 t8).bind fun t9 =>
 (asB t9).bind fun b10 =>
 (bif b10 then (some true) else ((shiftV .shr .u64 n6 (IntKind.wrap .i64 n2)).bind fun t11 =>
 (castI .u64 t11).bind fun n12 =>
 some (n12 != (IntKind.wrap .u64 (IntKind.wrap .u32 (intBits .and .u64 x1 (IntKind.wrap .u64 (n4 - 1)))))))).bind fun b13 =>
 (nilChk x0).bind fun t14 =>
 (fA t14 2).bind fun t15 =>
 ((stO true 1 (15 :: 0 :: 1 :: 1 :: 1 :: 0 :: σ) q5.2 t15 (.p (.bool b13))).map fun h => (udf, h)).bind fun q16 =>
 fin false σ q16.2 [(.p (.int .u64 n6))] := by kernel_rfl
end Go.Ev
/- Lifted by lift.py: rtcp_reader_rate as a plain function. -/
namespace Go.Ev
open Go.Proofs
set_option linter.unusedVariables false
set_option linter.unusedSimpArgs false
set_option maxRecDepth 100000
def p_rtcp_reader_rate (x0 : T_rtcp_reader) (x1 : Int) (x2 : Int) : Option (Int × T_rtcp_reader) :=
(shP .shr .u64 x1 x2).bind fun n1 =>
(shP .shl .u64 1 x2).bind fun n3 =>
(p_rate_Open (IntKind.wrap .i64 n1) (IntKind.wrap .u32 (intBits .and .u64 x1 (IntKind.wrap .u64 (n3 - 1)))) x2).bind fun r5 =>
(bif x0.bad then (some true) else ((shP .shr .u64 r5 (IntKind.wrap .i64 n1)).bind fun n10 =>
some (n10 != (IntKind.wrap .u64 (IntKind.wrap .u32 (intBits .and .u64 x1 (IntKind.wrap .u64 (n3 - 1)))))))).bind fun b12 =>
some (r5, (⟨x0.b, x0.f_at, b12⟩ : T_rtcp_reader))
theorem rtcp_reader_rate_ok {h : H} {σ : Stamp} (x0 : T_rtcp_reader) {u0_0 : V} (hu0_0 : SlF (dI .u8) x0.b u0_0) {l0 : Loc} {o0 : Nat} (ha0 : AtC h l0 o0 (List.map C.v [u0_0, (.p (.int .i64 x0.f_at)), (.p (.bool x0.bad))])) (x1 : Int) (x2 : Int) : Sim (p_rtcp_reader_rate x0 x1 x2) (ev G X0 151 σ [(.ref l0 o0), (.p (.int .u64 x1)), (.p (.int .i64 x2))] h) (fun r s => ∃ (vb0_0 : V), SlF (dI .u8) r.2.b vb0_0 ∧ s = ([.v (.p (.int .u64 r.1))], pts h [⟨l0, o0, [.v vb0_0, .v (.p (.int .i64 r.2.f_at)), .v (.p (.bool r.2.bad))]⟩])) := by
  refine Sim.ev rfl (Sim.ext (rtcp_reader_rate_entry _ _ _ _ _ _ _) ?_)
  rw [p_rtcp_reader_rate]
  have S0 : Fm 40 h [⟨l0, o0, List.map C.v [u0_0, (.p (.int .i64 x0.f_at)), (.p (.bool x0.bad))]⟩] [] [] (List.replicate 40 [] :: h) := Fm.start1 ha0
  refine Sim.bd fun n1 h2 => ?_
  refine Sim.op (shP_ok h2) ?_
  refine Sim.op (castI_p _ _) ?_
  refine Sim.bd fun n3 h4 => ?_
  refine Sim.op (shP_ok h4) ?_
  refine Sim.op (castI_p _ _) ?_
  refine Sim.call (rate_Open_ok (IntKind.wrap .i64 n1) (IntKind.wrap .u32 (intBits .and .u64 x1 (IntKind.wrap .u64 (n3 - 1)))) x2) fun r5 cs6 H7 h8 q9 => ?_
  cases q9
  refine Sim.op (castI_p _ _) ?_
  refine Sim.op (nilChk_ref _ _) ?_
  refine Sim.op (fA_ref _ _ _) ?_
  refine Sim.op ((S0.atB (i := 0) rfl).ld (j := 2) rfl) ?_
  refine Sim.op (asB_p _) ?_
  refine Sim.ch (P := fun r y => r = y) ?_ (fun b12 y13 h14 h15 => ?_)
  · refine Sim.cd (fun hc => ?_) (fun hc => ?_)
    · exact Sim.ret rfl rfl
    · refine Sim.bd fun n10 h11 => ?_
      refine Sim.op (shP_ok h11) ?_
      refine Sim.op (castI_p _ _) ?_
      exact Sim.ret rfl rfl
  subst h15
  refine Sim.op (nilChk_ref _ _) ?_
  refine Sim.op (fA_ref _ _ _) ?_
  obtain ⟨H16, e17, S18⟩ := S0.stB (i := 0) (j := 2) (own := true) (σ := (15 :: 0 :: 1 :: 1 :: 1 :: 0 :: σ)) (x := (.p (.bool b12))) rfl (still_bool _) rfl
  refine Sim.op (st_map e17) ?_
  exact Sim.fin (S18.finN (lv_cons (still_int _ _).lv lv_nil)) ⟨u0_0, hu0_0, rfl⟩
end Go.Ev
namespace Go.Ev
set_option maxRecDepth 100000
theorem shr_p (k : IntKind) (a b : Nat) (hb : b ≤ k.bits) : shP .shr k (a : Int) (b : Int) = some ((a / 2 ^ b : Nat) : Int) := by
  unfold shP
  rw [if_neg (by omega)]
  have : min (((b : Nat) : Int).toNat) k.bits = b := by rw [Int.toNat_natCast]; omega
  simp only [this, fdiv_nat]
theorem shl_p64 (a b : Nat) (hb : b ≤ 64) : shP .shl .u64 (a : Int) (b : Int) = some ((a * 2 ^ b % 2 ^ 64 : Nat) : Int) := by
  unfold shP
  rw [if_neg (by omega)]
  have : min (((b : Nat) : Int).toNat) IntKind.u64.bits = b := by rw [Int.toNat_natCast]; show min b 64 = b; omega
  simp only [this]
  rw [show ((a : Int) * 2 ^ b) = ((a * 2 ^ b : Nat) : Int) by rw [Int.natCast_mul, Int.natCast_pow]; rfl, wrapU64_nat]
theorem shl_p32 (a b : Nat) (hb : b ≤ 32) : shP .shl .u32 (a : Int) (b : Int) = some ((a * 2 ^ b % 2 ^ 32 : Nat) : Int) := by
  unfold shP
  rw [if_neg (by omega)]
  have : min (((b : Nat) : Int).toNat) IntKind.u32.bits = b := by rw [Int.toNat_natCast]; show min b 32 = b; omega
  simp only [this]
  rw [show ((a : Int) * 2 ^ b) = ((a * 2 ^ b : Nat) : Int) by rw [Int.natCast_mul, Int.natCast_pow]; rfl, wrapU32_nat]
/-- A mantissa and an exponent that fit. -/
structure FR (b e m : Nat) : Prop where
  hm : m < 2 ^ b
  he : e ≤ 63
  hn : m * 2 ^ e < 2 ^ 64
structure NR (b e m : Nat) : Prop extends FR b e m where
  hz : 0 < e → 2 ^ (b - 1) ≤ m
def okRate (b : Nat) (n : Int) : Prop := ∃ e m, NR b e m ∧ n = ((m * 2 ^ e : Nat) : Int)
theorem may_ok {b : Nat} (h1 : 1 ≤ b) (h2 : b ≤ 24) : p_rate_may (b : Int) = some true := by
  unfold p_rate_may
  have d1 : decide ((b : Int) ≥ 1) = true := decide_eq_true (by omega)
  have d2 : decide ((b : Int) ≤ 24) = true := decide_eq_true (by omega)
  rw [d1, d2]; rfl
theorem pow24 {b : Nat} (h2 : b ≤ 24) : 2 ^ b ≤ 16777216 := Nat.pow_le_pow_right (n := 2) (by omega) h2
theorem packN_l0 {β : Type} (kE0 : Int → Int → Option β) {b m : Nat} (h1 : 1 ≤ b) (h2 : b ≤ 24) (hm : m < 2 ^ b) : ∀ (e j c : Nat), (0 < e → 2 ^ (b - 1) ≤ m) → c + e < 1000 →
    p_rate_Pack_l0 (j + e + 1) kE0 ((m * 2 ^ e : Nat) : Int) (b : Int) (c : Int) = kE0 (m : Int) ((c + e : Nat) : Int)
  | 0, j, c, _, _ => by
    rw [p_rate_Pack_l0, shr_p _ _ _ (by show b ≤ 64; omega), Option.bind_some, Nat.pow_zero, Nat.mul_one, Nat.div_eq_of_lt hm]
    rfl
  | e + 1, j, c, hz, hc => by
    rw [show j + (e + 1) + 1 = (j + e + 1) + 1 from rfl, p_rate_Pack_l0, shr_p _ _ _ (by show b ≤ 64; omega), Option.bind_some]
    have hz' := hz (by omega)
    have hp : 2 ^ b = 2 ^ (b - 1) * 2 := by rw [← Nat.pow_succ]; congr 1; omega
    have hge : 2 ^ b ≤ m * 2 ^ (e + 1) := by
      rw [hp, Nat.pow_succ, ← Nat.mul_assoc]
      have : m * 1 ≤ m * 2 ^ e := Nat.mul_le_mul_left _ (Nat.two_pow_pos e)
      omega
    have hpos : 0 < m * 2 ^ (e + 1) / 2 ^ b := Nat.div_pos hge (Nat.two_pow_pos b)
    have d : decide (((m * 2 ^ (e + 1) / 2 ^ b : Nat) : Int) > 0) = true := decide_eq_true (by omega)
    have e1 : Int.fdiv ((m * 2 ^ (e + 1) : Nat) : Int) (2 ^ 1) = ((m * 2 ^ e : Nat) : Int) := by
      rw [fdiv_nat, Nat.pow_succ, ← Nat.mul_assoc, Nat.pow_one, Nat.mul_div_cancel _ (by omega)]
    have e2 : IntKind.wrap .i64 ((c : Int) + 1) = ((c + 1 : Nat) : Int) := by rw [wrap_i64 (by omega) (by omega)]; omega
    rw [d, cond_true, e1, e2, packN_l0 kE0 h1 h2 hm e j (c + 1) (fun _ => hz') (by omega)]
    congr 2
    omega
theorem packN {k b e m : Nat} (hk : 70 ≤ k) (h1 : 1 ≤ b) (h2 : b ≤ 24) (h : NR b e m) : p_rate_Pack k ((m * 2 ^ e : Nat) : Int) (b : Int) = some ((e : Int), (m : Int)) := by
  unfold p_rate_Pack
  rw [may_ok h1 h2, Option.bind_some, Bool.not_true, cond_false]
  have := packN_l0 (fun r12_0 r12_6 => some (r12_6, (IntKind.wrap .u32 r12_0))) h1 h2 h.hm e (k - e - 1) 0 h.hz (by have := h.he; omega)
  rw [show k - e - 1 + e + 1 = k by have := h.he; omega] at this
  refine this.trans ?_
  have hm := h.hm
  have := pow24 h2
  rw [wrap_u32 (by omega) (by omega), Nat.zero_add]
theorem openF {b e m : Nat} (h1 : 1 ≤ b) (h2 : b ≤ 24) (h : FR b e m) : p_rate_Open (e : Int) (m : Int) (b : Int) = some ((m * 2 ^ e : Nat) : Int) := by
  unfold p_rate_Open
  have hm := h.hm
  have hp := pow24 h2
  have he := h.he
  have d1 : decide ((e : Int) < 0) = false := decide_eq_false (by omega)
  have d2 : decide ((e : Int) > 63) = false := decide_eq_false (by omega)
  rw [may_ok h1 h2, Option.bind_some, Bool.not_true, cond_false]
  simp only [d1, d2, cond_false, Option.bind_some, shr_p .u32 m b (by show b ≤ 32; omega), Nat.div_eq_of_lt hm]
  rw [wrap_u64 (by omega) (by omega)]
  simp only [show decide (((0 : Nat) : Int) > 0) = false from rfl, cond_false, shl_p64 m e (by omega), Option.bind_some, Nat.mod_eq_of_lt h.hn, shr_p .u64 (m * 2 ^ e) e (by show e ≤ 64; omega), Nat.mul_div_cancel m (Nat.two_pow_pos e), bne_self_eq_false]
theorem refOpenF {b e m : Nat} (h1 : 1 ≤ b) (h2 : b ≤ 24) (h : FR b e m) : p_limelightref1_Open (e : Int) (m : Int) (b : Int) = some ((m * 2 ^ e : Nat) : Int) := by
  unfold p_limelightref1_Open
  have hm := h.hm
  have hp := pow24 h2
  have he := h.he
  have d0 : decide ((b : Int) < 1) = false := decide_eq_false (by omega)
  have d3 : decide ((b : Int) > 24) = false := decide_eq_false (by omega)
  have d1 : decide ((e : Int) < 0) = false := decide_eq_false (by omega)
  have d2 : decide ((e : Int) > 63) = false := decide_eq_false (by omega)
  have s1 : shP .shl .u32 1 (b : Int) = some ((2 ^ b : Nat) : Int) := by
    have := shl_p32 1 b (by omega)
    rwa [Nat.one_mul, Nat.mod_eq_of_lt (by omega)] at this
  have d4 : decide ((m : Int) ≥ ((2 ^ b : Nat) : Int)) = false := decide_eq_false (by omega)
  have w1 : IntKind.wrap .u64 (b : Int) = (b : Int) := wrap_u64 (by omega) (by omega)
  have w2 : IntKind.wrap .u64 (m : Int) = (m : Int) := wrap_u64 (by omega) (by omega)
  have w3 : IntKind.wrap .u64 (e : Int) = (e : Int) := wrap_u64 (by omega) (by omega)
  simp only [d0, d1, d2, d3, cond_false, Option.bind_some, w1, w2, w3, s1, d4, shl_p64 m e (by omega), Nat.mod_eq_of_lt h.hn, shr_p .u64 (m * 2 ^ e) e (by show e ≤ 64; omega), Nat.mul_div_cancel m (Nat.two_pow_pos e), bne_self_eq_false]
theorem downN {k b : Nat} (hk : 70 ≤ k) (h1 : 1 ≤ b) (h2 : b ≤ 24) {n : Int} (h : okRate b n) : p_rate_Down k n (b : Int) = some n := by
  obtain ⟨e, m, h, rfl⟩ := h
  unfold p_rate_Down
  rw [packN hk h1 h2 h, Option.bind_some, openF h1 h2 h.toFR]
  rfl
theorem refPack_l0 {β : Type} (kE0 : Int → Int → Option β) {b x : Nat} (h1 : 1 ≤ b) (h2 : b ≤ 24) : ∀ (d j c : Nat), x < 2 ^ (b + c + d) → (0 < c → 2 ^ (b - 1) ≤ x / 2 ^ c) → c + d ≤ 63 →
    ∃ e : Nat, p_limelightref1_Pack_l0 (j + d + 1) kE0 (x : Int) (b : Int) (c : Int) = kE0 (x : Int) (e : Int) ∧ e ≤ c + d ∧ x / 2 ^ e < 2 ^ b ∧ (0 < e → 2 ^ (b - 1) ≤ x / 2 ^ e)
  | d, j, c, hx, hz, hc => by
    have hp := pow24 h2
    have w1 : IntKind.wrap .u64 (b : Int) = (b : Int) := wrap_u64 (by omega) (by omega)
    have w2 : IntKind.wrap .u64 (c : Int) = (c : Int) := wrap_u64 (by omega) (by omega)
    have s1 : shP .shl .u64 1 (b : Int) = some ((2 ^ b : Nat) : Int) := by
      have := shl_p64 1 b (by omega)
      rwa [Nat.one_mul, Nat.mod_eq_of_lt (by omega)] at this
    by_cases hl : x / 2 ^ c < 2 ^ b
    · refine ⟨c, ?_, by omega, hl, hz⟩
      have dd : decide (((x / 2 ^ c : Nat) : Int) ≥ ((2 ^ b : Nat) : Int)) = false := decide_eq_false (by omega)
      rw [p_limelightref1_Pack_l0]
      simp only [w1, w2, shr_p .u64 x c (by show c ≤ 64; omega), s1, Option.bind_some, dd, cond_false]
    · cases d with
      | zero =>
        refine absurd ?_ hl
        rw [Nat.div_lt_iff_lt_mul (Nat.two_pow_pos c), ← Nat.pow_add]
        exact hx
      | succ d =>
        have dd : decide (((x / 2 ^ c : Nat) : Int) ≥ ((2 ^ b : Nat) : Int)) = true := decide_eq_true (by omega)
        have hp2 : 2 ^ b = 2 ^ (b - 1) * 2 := by rw [← Nat.pow_succ]; congr 1; omega
        have hdiv : x / 2 ^ (c + 1) = x / 2 ^ c / 2 := by rw [Nat.pow_succ, Nat.div_div_eq_div_mul]
        obtain ⟨e, he, h3, h4, h5⟩ := refPack_l0 kE0 h1 h2 d j (c + 1) (by rw [show b + (c + 1) + d = b + c + (d + 1) by omega]; exact hx) (fun _ => by rw [hdiv]; omega) (by omega)
        have e2 : IntKind.wrap .i64 ((c : Int) + 1) = ((c + 1 : Nat) : Int) := by rw [wrap_i64 (by omega) (by omega)]; omega
        refine ⟨e, ?_, by omega, h4, h5⟩
        rw [show j + (d + 1) + 1 = (j + d + 1) + 1 from rfl, p_limelightref1_Pack_l0]
        simp only [w1, w2, shr_p .u64 x c (by show c ≤ 64; omega), s1, Option.bind_some, dd, cond_true, e2]
        exact he
theorem refDown {k b : Nat} (hk : 70 ≤ k) (h1 : 1 ≤ b) (h2 : b ≤ 24) (x : Nat) (hx : x < 2 ^ 64) : ∃ n, p_limelightref1_Down k (x : Int) (b : Int) = some n ∧ okRate b n := by
  obtain ⟨e, he, h3, h4, h5⟩ := refPack_l0 (fun r13_0 r13_6 => (shP .shr .u64 r13_0 (IntKind.wrap .u64 r13_6)).bind fun n16 => some (r13_6, (IntKind.wrap .u32 n16))) (x := x) h1 h2 63 (k - 64) 0 (by rw [Nat.add_zero]; exact Nat.lt_of_lt_of_le hx (Nat.pow_le_pow_right (by omega) (by omega))) (fun h => absurd h (by omega)) (by omega)
  have hp := pow24 h2
  have hle : x / 2 ^ e * 2 ^ e ≤ x := Nat.div_mul_le_self _ _
  have hN : NR b e (x / 2 ^ e) := ⟨⟨h4, by omega, by omega⟩, h5⟩
  refine ⟨_, ?_, e, x / 2 ^ e, hN, rfl⟩
  unfold p_limelightref1_Down p_limelightref1_Pack
  have d0 : decide ((b : Int) < 1) = false := decide_eq_false (by omega)
  have d3 : decide ((b : Int) > 24) = false := decide_eq_false (by omega)
  rw [show k - 64 + 63 + 1 = k by omega] at he
  rw [show ((0 : Nat) : Int) = 0 from rfl] at he
  simp only [d0, d3, cond_false, Option.bind_some]
  rw [he, wrap_u64 (n := (e : Int)) (by omega) (by omega), shr_p .u64 x e (by show e ≤ 64; omega), Option.bind_some, Option.bind_some]
  have hO := refOpenF h1 h2 hN.toFR
  generalize x / 2 ^ e = m at *
  rw [wrap_u32 (by omega) (by omega), hO]
  rfl
/-- A rate's word. -/
theorem readRate {b e m : Nat} (h1 : 1 ≤ b) (h2 : b ≤ 24) (h : FR b e m) (r : T_rtcp_reader) : p_rtcp_reader_rate r ((e * 2 ^ b + m : Nat) : Int) (b : Int) = some (((m * 2 ^ e : Nat) : Int), ⟨r.b, r.f_at, r.bad⟩) := by
  unfold p_rtcp_reader_rate
  have hm := h.hm
  have hp := pow24 h2
  have he := h.he
  have q1 : (e * 2 ^ b + m) / 2 ^ b = e := by
    rw [Nat.add_comm, Nat.add_mul_div_right _ _ (Nat.two_pow_pos b), Nat.div_eq_of_lt hm, Nat.zero_add]
  have q2 : (e * 2 ^ b + m) % 2 ^ b = m := by
    rw [Nat.add_comm, Nat.add_mul_mod_self_right, Nat.mod_eq_of_lt hm]
  have s1 : shP .shl .u64 1 (b : Int) = some ((2 ^ b : Nat) : Int) := by
    have := shl_p64 1 b (by omega)
    rwa [Nat.one_mul, Nat.mod_eq_of_lt (by omega)] at this
  have hpos := Nat.two_pow_pos b
  have w1 : IntKind.wrap .u64 (((2 ^ b : Nat) : Int) - 1) = ((2 ^ b - 1 : Nat) : Int) := by rw [wrap_u64 (by omega) (by omega)]; omega
  have a1 : intBits .and .u64 ((e * 2 ^ b + m : Nat) : Int) ((2 ^ b - 1 : Nat) : Int) = (m : Int) := by
    rw [and_mask (n := b) _ rfl (by show b < 64; omega)]
    rw [show ((2 : Int) ^ b) = ((2 ^ b : Nat) : Int) by rw [Int.natCast_pow]; rfl, ← Int.natCast_emod, q2]
  have w2 : IntKind.wrap .u32 (m : Int) = (m : Int) := wrap_u32 (by omega) (by omega)
  have w3 : IntKind.wrap .i64 (e : Int) = (e : Int) := wrap_i64 (by omega) (by omega)
  have w4 : IntKind.wrap .u64 (m : Int) = (m : Int) := wrap_u64 (by omega) (by omega)
  rw [shr_p .u64 _ b (by show b ≤ 64; omega), q1, Option.bind_some, s1, Option.bind_some, w1, a1, w2, w3, openF h1 h2 h, Option.bind_some, w4, shr_p .u64 _ e (by show e ≤ 64; omega), Nat.mul_div_cancel m (Nat.two_pow_pos e)]
  cases r.bad <;> simp
/-- A rate's word, written. -/
theorem packedN {k b e m c : Nat} (hk : 70 ≤ k) (h1 : 1 ≤ b) (h2 : b ≤ 24) (h : NR b e m) {low : Nat} (hl : low < 2 ^ c) (hc : c ≤ 9) (hb : b + c ≤ 32) : p_rtcp_packed k ((m * 2 ^ e : Nat) : Int) (b : Int) (c : Int) (low : Int) = some (((e * 2 ^ b + m) * 2 ^ c + low : Nat) : Int) := by
  unfold p_rtcp_packed
  have hm := h.hm
  have hp := pow24 h2
  have he := h.he
  have w1 : IntKind.wrap .u64 (e : Int) = (e : Int) := wrap_u64 (by omega) (by omega)
  have w2 : IntKind.wrap .u64 (m : Int) = (m : Int) := wrap_u64 (by omega) (by omega)
  have w3 : IntKind.wrap .i64 ((b : Int) + (c : Int)) = ((b + c : Nat) : Int) := by rw [wrap_i64 (by omega) (by omega)]; rfl
  have hbc : 2 ^ (b + c) ≤ 4294967296 := Nat.pow_le_pow_right (n := 2) (by omega) hb
  have hbc' : e * 2 ^ (b + c) ≤ 63 * 4294967296 := Nat.mul_le_mul he hbc
  have hmc : m * 2 ^ c + low < 2 ^ (b + c) := by
    rw [Nat.pow_add]
    have : (m + 1) * 2 ^ c ≤ 2 ^ b * 2 ^ c := Nat.mul_le_mul_right _ hm
    rw [Nat.add_mul, Nat.one_mul] at this
    omega
  have s1 := shl_p64 e (b + c) (by omega)
  rw [Nat.mod_eq_of_lt (by omega)] at s1
  have s2 := shl_p64 m c (by omega)
  rw [Nat.mod_eq_of_lt (by omega)] at s2
  have hc9 : 2 ^ c ≤ 2 ^ 9 := Nat.pow_le_pow_right (n := 2) (by omega) hc
  have cst : ∀ j : Nat, ((2 : Int) ^ j) = ((2 ^ j : Nat) : Int) := fun j => by rw [Int.natCast_pow]; rfl
  have hb64 : IntKind.u64.bits = 64 := rfl
  have o1 : intBits .or .u64 ((e * 2 ^ (b + c) : Nat) : Int) ((m * 2 ^ c : Nat) : Int) = (((e * 2 ^ b + m) * 2 ^ c : Nat) : Int) := by
    have := or_add .u64 (j := b + c) (a := (e : Int)) (b := ((m * 2 ^ c : Nat) : Int)) (by omega) (by omega) (by rw [cst]; omega) (by rw [cst, hb64, ← Int.natCast_mul]; omega) (by rw [cst, ← Int.natCast_mul]; exact wrap_u64 (by omega) (by omega))
    rw [cst, ← Int.natCast_mul] at this
    rw [this, ← Int.natCast_add, Nat.add_mul, Nat.mul_assoc, ← Nat.pow_add]
  have hsum : (e * 2 ^ b + m) * 2 ^ c + low = e * 2 ^ (b + c) + (m * 2 ^ c + low) := by rw [Nat.add_mul, Nat.mul_assoc, ← Nat.pow_add]; omega
  have o2 : intBits .or .u64 (((e * 2 ^ b + m) * 2 ^ c : Nat) : Int) (low : Int) = (((e * 2 ^ b + m) * 2 ^ c + low : Nat) : Int) := by
    have := or_add .u64 (j := c) (a := ((e * 2 ^ b + m : Nat) : Int)) (b := (low : Int)) (by omega) (by omega) (by rw [cst]; omega) (by rw [cst, hb64, ← Int.natCast_mul]; omega) (by rw [cst, ← Int.natCast_mul]; exact wrap_u64 (by omega) (by omega))
    rw [cst, ← Int.natCast_mul] at this
    rw [this, ← Int.natCast_add]
  rw [packN hk h1 h2 h, Option.bind_some, w1, w3, s1, Option.bind_some, w2, s2, Option.bind_some, o1, o2]
end Go.Ev
/- Equations, printed by tracer2.py. -/
namespace Go.Ev
open Go.Proofs
set_option linter.unusedVariables false
set_option maxRecDepth 100000
-- 24 limelight/rtcp.Bytes
noncomputable def rtcp_Bytes_c0 : Code := (codeAt (bodyOf Try.f24) [1, 1, 1, 0, 1, 0, 0])
def rtcp_Bytes_l0 : Lv := ⟨17, 12, [(0, 17)]⟩
noncomputable def rtcp_Bytes_k0 (rec : CallF) (loop : LoopV) (σ : Stamp) : Exit → Env → H → Option (List C × H) := (kBlock 0 (kSeq G rec loop (codeAt (bodyOf Try.f24) [1, 1, 1, 1]) ⟨12, 12, []⟩ (1 :: 1 :: 1 :: 0 :: σ) (finC G true Try.f24 (1 :: σ))))
noncomputable def rtcp_Bytes_c1 : Code := (codeAt (bodyOf Try.f24) [1, 1, 1, 1, 0, 1, 0, 0])
def rtcp_Bytes_l1 : Lv := ⟨16, 12, [(2, 16)]⟩
noncomputable def rtcp_Bytes_k1 (rec : CallF) (loop : LoopV) (σ : Stamp) : Exit → Env → H → Option (List C × H) := (kBlock 2 (kSeq G rec loop (codeAt (bodyOf Try.f24) [1, 1, 1, 1, 1]) ⟨12, 12, []⟩ (1 :: 1 :: 1 :: 1 :: 0 :: σ) (finC G true Try.f24 (1 :: σ))))
theorem rtcp_Bytes_entry (rec : CallF) (loop : LoopV) (σ : Stamp) (x0 : V) (h : H) : cvBody G rec loop 24 σ [x0] h =
 (lenO x0).bind fun t1 =>
 (castI .i64 t1).bind fun n2 =>
 bif n2 == 0 then (
 fin true σ (List.replicate 62 [] :: h) [(.p (.slice .none 0 0)), (.p (.int .i64 1))])
 else (
 (lenO x0).bind fun t3 =>
 (castI .i64 t3).bind fun n4 =>
 (loop rtcp_Bytes_c0 rtcp_Bytes_l0 (1 :: 0 :: 1 :: 1 :: 1 :: 0 :: σ) (envL [(0, x0), (4, (.p (.slice .none 0 0))), (16, x0), (17, (.p (.int .i64 n4))), (18, (.p (.int .i64 0)))]) (List.replicate 62 [] :: h)).bind fun r5 => rtcp_Bytes_k0 rec loop σ r5.1 r5.2.1 r5.2.2) := by kernel_rfl
theorem rtcp_Bytes_r0 (rec : CallF) (loop : LoopV) (σ : Stamp) (x0 : V) (x4 : V) (x16 : V) (x17 : Int) (x18 : Int) (h : H) : cvRound G rec loop rtcp_Bytes_c0 rtcp_Bytes_l0 σ (envL [(0, x0), (4, x4), (16, x16), (17, (.p (.int .i64 x17))), (18, (.p (.int .i64 x18)))]) h =
 bif decide (x18 < x17) then (
 (iS 10 x16 x18).bind fun t6 =>
 (ldO true 10 h t6).bind fun t7 =>
 (some (alO [.p (.int .i64 0), .p (.int .u32 0), .p (.int .u32 0), .p (.slice none 0 0), .p (.slice none 0 0), .p (.slice none 0 0), .p (.int .u64 0), .p (.int .i64 0), .p (.int .i64 0), .p (.slice none 0 0)] (2 :: 0 :: 0 :: 1 :: 1 :: 0 :: σ) 6 h)).bind fun q8 =>
 ((stO false 10 (3 :: 0 :: 0 :: 1 :: 1 :: 0 :: σ) q8.2 q8.1 t7).map fun h => (udf, h)).bind fun q9 =>
 (ldO true 10 q9.2 q8.1).bind fun t10 =>
 (callO rec 28 (1 :: 0 :: 1 :: 0 :: 1 :: 1 :: 0 :: σ) [t10] q9.2 (some 23)).bind fun q11 =>
 (castI .i64 q11.1).bind fun n12 =>
 bif n12 != 0 then (
 some (.ret, (envL [(2, (.p (.slice .none 0 0))), (3, (.p (.int .i64 n12)))]), q11.2))
 else (
 loop rtcp_Bytes_c0 rtcp_Bytes_l0 (1 :: σ) (envL [(0, x0), (4, x4), (16, x16), (17, (.p (.int .i64 x17))), (18, (.p (.int .i64 (IntKind.wrap .i64 (x18 + 1)))))]) q11.2))
 else (
 some ((.exit 0), (envL [(0, x0), (4, x4)]), h)) := by kernel_rfl
theorem rtcp_Bytes_a0_0 (rec : CallF) (loop : LoopV) (σ : Stamp) (x0 : V) (x4 : V) (h : H) : rtcp_Bytes_k0 rec loop σ (.exit 0) (envL [(0, x0), (4, x4)]) h =
 (lenO x0).bind fun t13 =>
 (castI .i64 t13).bind fun n14 =>
 (loop rtcp_Bytes_c1 rtcp_Bytes_l1 (1 :: 0 :: 1 :: 1 :: 1 :: 1 :: 0 :: σ) (envL [(4, x4), (28, x0), (29, (.p (.int .i64 n14))), (30, (.p (.int .i64 0)))]) h).bind fun r15 => rtcp_Bytes_k1 rec loop σ r15.1 r15.2.1 r15.2.2 := by kernel_rfl
theorem rtcp_Bytes_a0_ret (rec : CallF) (loop : LoopV) (σ : Stamp) (x2 : V) (x3 : Int) (h : H) : rtcp_Bytes_k0 rec loop σ .ret (envL [(2, x2), (3, (.p (.int .i64 x3)))]) h =
 fin true σ h [x2, (.p (.int .i64 x3))] := by kernel_rfl
theorem rtcp_Bytes_r1 (rec : CallF) (loop : LoopV) (σ : Stamp) (x4 : V) (x28 : V) (x29 : Int) (x30 : Int) (h : H) : cvRound G rec loop rtcp_Bytes_c1 rtcp_Bytes_l1 σ (envL [(4, x4), (28, x28), (29, (.p (.int .i64 x29))), (30, (.p (.int .i64 x30)))]) h =
 bif decide (x30 < x29) then (
 (iS 10 x28 x30).bind fun t16 =>
 (ldO true 10 h t16).bind fun t17 =>
 (some (alO [.p (.int .i64 0), .p (.int .u32 0), .p (.int .u32 0), .p (.slice none 0 0), .p (.slice none 0 0), .p (.slice none 0 0), .p (.int .u64 0), .p (.int .i64 0), .p (.int .i64 0), .p (.slice none 0 0)] (2 :: 0 :: 0 :: 1 :: 1 :: 0 :: σ) 9 h)).bind fun q18 =>
 ((stO false 10 (3 :: 0 :: 0 :: 1 :: 1 :: 0 :: σ) q18.2 q18.1 t17).map fun h => (udf, h)).bind fun q19 =>
 (ldO true 10 q19.2 q18.1).bind fun t20 =>
 (callO rec 56 (1 :: 0 :: 1 :: 0 :: 1 :: 1 :: 0 :: σ) [t20] q19.2 (some 36)).bind fun q21 =>
 (extV q21.1 0).bind fun t22 =>
 (extV q21.1 1).bind fun t23 =>
 (castI .i64 t23).bind fun n24 =>
 (extV q21.1 2).bind fun t25 =>
 (castI .i64 t25).bind fun n26 =>
 (buildSliceV Try.prog 31 2 [(0, (.p (.int .u8 (IntKind.wrap .u8 (intBits .or .i64 128 n26))))), (1, (.p (.int .u8 (IntKind.wrap .u8 n24))))]).bind fun t27 =>
 (apO true 1 1 (7 :: 0 :: 1 :: 1 :: 0 :: 1 :: 1 :: 0 :: σ) 47 q21.2 x4 t27).bind fun q28 =>
 (lenO t22).bind fun t29 =>
 (castI .i64 t29).bind fun n30 =>
 (callO rec 57 (5 :: 0 :: 1 :: 1 :: 1 :: 0 :: 1 :: 1 :: 0 :: σ) [q28.1, (.p (.int .u64 (IntKind.wrap .u64 (IntKind.wrap .i64 (Int.tdiv n30 4))))), (.p (.int .i64 2))] q28.2 (some 53)).bind fun q31 =>
 (apO true 1 1 (7 :: 0 :: 1 :: 1 :: 1 :: 0 :: 1 :: 1 :: 0 :: σ) 55 q31.2 q31.1 t22).bind fun q32 =>
 (lenO q32.1).bind fun t33 =>
 (castI .i64 t33).bind fun n34 =>
 bif decide (n34 > 1500) then (
 some (.ret, (envL [(2, (.p (.slice .none 0 0))), (3, (.p (.int .i64 3)))]), q32.2))
 else (
 loop rtcp_Bytes_c1 rtcp_Bytes_l1 (1 :: σ) (envL [(4, q32.1), (28, x28), (29, (.p (.int .i64 x29))), (30, (.p (.int .i64 (IntKind.wrap .i64 (x30 + 1)))))]) q32.2))
 else (
 some ((.exit 2), (envL [(4, x4)]), h)) := by kernel_rfl
theorem rtcp_Bytes_a1_2 (rec : CallF) (loop : LoopV) (σ : Stamp) (x4 : V) (h : H) : rtcp_Bytes_k1 rec loop σ (.exit 2) (envL [(4, x4)]) h =
 (callO rec 58 (1 :: 0 :: 1 :: 1 :: 1 :: 1 :: 1 :: 0 :: σ) [x4] h (some 61)).bind fun q35 =>
 fin true σ q35.2 [q35.1, (.p (.int .i64 0))] := by kernel_rfl
theorem rtcp_Bytes_a1_ret (rec : CallF) (loop : LoopV) (σ : Stamp) (x2 : V) (x3 : Int) (h : H) : rtcp_Bytes_k1 rec loop σ .ret (envL [(2, x2), (3, (.p (.int .i64 x3)))]) h =
 fin true σ h [x2, (.p (.int .i64 x3))] := by kernel_rfl
end Go.Ev
/- Equations, printed by tracer2.py. -/
namespace Go.Ev
open Go.Proofs
set_option linter.unusedVariables false
set_option maxRecDepth 100000
-- 28 limelight/rtcp.Right
theorem rtcp_Right_entry (rec : CallF) (loop : LoopV) (σ : Stamp) (x0 : V) (h : H) : cvBody G rec loop 28 σ [x0] h =
 (boxO false (0 :: 0 :: 0 :: σ) 1 (List.replicate 20 [] :: h) x0).bind fun q1 =>
 (fA q1.1 0).bind fun t2 =>
 (ldO false 1 q1.2 t2).bind fun t3 =>
 (castI .i64 t3).bind fun n4 =>
 (bif decide (n4 < 1) then (some true) else ((fA q1.1 0).bind fun t5 =>
 (ldO false 1 q1.2 t5).bind fun t6 =>
 (castI .i64 t6).bind fun n7 =>
 some (decide (n7 > 6)))).bind fun b8 =>
 bif b8 then (
 fin false σ q1.2 [(.p (.int .i64 12))])
 else (
 (ldO true 10 q1.2 q1.1).bind fun t9 =>
 (callO rec 61 (1 :: 0 :: 1 :: 0 :: 1 :: 0 :: σ) [t9] q1.2 (some 14)).bind fun q10 =>
 (asB q10.1).bind fun b11 =>
 bif !b11 then (
 fin false σ q10.2 [(.p (.int .i64 1))])
 else (
 (ldO true 10 q10.2 q1.1).bind fun t12 =>
 (callO rec 62 (1 :: 0 :: 1 :: 1 :: 0 :: 1 :: 0 :: σ) [t12] q10.2 (some 18)).bind fun q13 =>
 (asB q13.1).bind fun b14 =>
 bif !b14 then (
 fin false σ q13.2 [(.p (.int .i64 12))])
 else (
 fin false σ q13.2 [(.p (.int .i64 0))]))) := by kernel_rfl
end Go.Ev
/- Equations, printed by tracer2.py. -/
namespace Go.Ev
open Go.Proofs
set_option linter.unusedVariables false
set_option maxRecDepth 100000
-- 62 limelight/rtcp.fields
theorem rtcp_fields_entry (rec : CallF) (loop : LoopV) (σ : Stamp) (x0 : V) (h : H) : cvBody G rec loop 62 σ [x0] h =
 (boxO false (0 :: 0 :: 0 :: σ) 1 (List.replicate 98 [] :: h) x0).bind fun q1 =>
 (fA q1.1 0).bind fun t2 =>
 (ldO false 1 q1.2 t2).bind fun t3 =>
 (castI .i64 t3).bind fun n4 =>
 (bif n4 == 1 then (some true) else ((fA q1.1 0).bind fun t5 =>
 (ldO false 1 q1.2 t5).bind fun t6 =>
 (castI .i64 t6).bind fun n7 =>
 some (n7 == 2))).bind fun b8 =>
 (fA q1.1 0).bind fun t9 =>
 (ldO false 1 q1.2 t9).bind fun t10 =>
 (castI .i64 t10).bind fun n11 =>
 (bif b8 then (some true) else ((fA q1.1 3).bind fun t12 =>
 (ldO false 1 q1.2 t12).bind fun t13 =>
 (lenO t13).bind fun t14 =>
 (castI .i64 t14).bind fun n15 =>
 some (n15 == 0))).bind fun b16 =>
 (bif b16 then ((fA q1.1 0).bind fun t17 =>
 (ldO false 1 q1.2 t17).bind fun t18 =>
 (castI .i64 t18).bind fun n19 =>
 (bif n19 == 3 then (some true) else ((fA q1.1 2).bind fun t20 =>
 (ldO false 1 q1.2 t20).bind fun t21 =>
 (castI .u32 t21).bind fun n22 =>
 some (n22 == 0))).bind fun b23 =>
 some b23) else (some false)).bind fun b24 =>
 (bif b24 then ((fA q1.1 0).bind fun t25 =>
 (ldO false 1 q1.2 t25).bind fun t26 =>
 (castI .i64 t26).bind fun n27 =>
 (bif n27 == 4 then (some true) else ((fA q1.1 5).bind fun t28 =>
 (ldO false 1 q1.2 t28).bind fun t29 =>
 (lenO t29).bind fun t30 =>
 (castI .i64 t30).bind fun n31 =>
 some (n31 == 0))).bind fun b32 =>
 some b32) else (some false)).bind fun b33 =>
 (bif b33 then ((fA q1.1 0).bind fun t34 =>
 (ldO false 1 q1.2 t34).bind fun t35 =>
 (castI .i64 t35).bind fun n36 =>
 (bif n36 == 4 then (some true) else ((fA q1.1 0).bind fun t37 =>
 (ldO false 1 q1.2 t37).bind fun t38 =>
 (castI .i64 t38).bind fun n39 =>
 some (n39 == 5))).bind fun b40 =>
 (bif b40 then (some true) else ((fA q1.1 4).bind fun t41 =>
 (ldO false 1 q1.2 t41).bind fun t42 =>
 (lenO t42).bind fun t43 =>
 (castI .i64 t43).bind fun n44 =>
 some (n44 == 0))).bind fun b45 =>
 some b45) else (some false)).bind fun b46 =>
 (bif b46 then ((fA q1.1 0).bind fun t47 =>
 (ldO false 1 q1.2 t47).bind fun t48 =>
 (castI .i64 t48).bind fun n49 =>
 (bif n49 == 5 then (some true) else ((fA q1.1 6).bind fun t50 =>
 (ldO false 1 q1.2 t50).bind fun t51 =>
 (castI .u64 t51).bind fun n52 =>
 some (n52 == 0))).bind fun b53 =>
 some b53) else (some false)).bind fun b54 =>
 (bif b54 then ((bif n11 == 6 then (some true) else ((fA q1.1 7).bind fun t55 =>
 (ldO false 1 q1.2 t55).bind fun t56 =>
 (castI .i64 t56).bind fun n57 =>
 (bif n57 == 0 then ((fA q1.1 8).bind fun t58 =>
 (ldO false 1 q1.2 t58).bind fun t59 =>
 (castI .i64 t59).bind fun n60 =>
 some (n60 == 0)) else (some false)).bind fun b61 =>
 (bif b61 then ((fA q1.1 9).bind fun t62 =>
 (ldO false 1 q1.2 t62).bind fun t63 =>
 (lenO t63).bind fun t64 =>
 (castI .i64 t64).bind fun n65 =>
 some (n65 == 0)) else (some false)).bind fun b66 =>
 some b66)).bind fun b67 =>
 some b67) else (some false)).bind fun b68 =>
 (bif b68 then ((bif !(n11 == 6) then (some true) else ((fA q1.1 1).bind fun t69 =>
 (ldO false 1 q1.2 t69).bind fun t70 =>
 (castI .u32 t70).bind fun n71 =>
 some (n71 == 0))).bind fun b72 =>
 some b72) else (some false)).bind fun b73 =>
 fin false σ q1.2 [(.p (.bool b73))] := by kernel_rfl
end Go.Ev
/- Lifted by lift.py: rtcp_fields as a plain function. -/
namespace Go.Ev
open Go.Proofs
set_option linter.unusedVariables false
set_option linter.unusedSimpArgs false
set_option maxRecDepth 100000
def p_rtcp_fields (x0 : T_api_Report) : Option (Bool) :=
(bif x0.Kind == 1 then (some true) else (some (x0.Kind == 2))).bind fun b13 =>
(bif b13 then (some true) else (some (((x0.Tuples.length : Int)) == 0))).bind fun b17 =>
(bif b17 then ((bif x0.Kind == 3 then (some true) else (some (x0.About == 0))).bind fun b21 =>
some b21) else (some false)).bind fun b25 =>
(bif b25 then ((bif x0.Kind == 4 then (some true) else (some (((x0.Numbers.length : Int)) == 0))).bind fun b29 =>
some b29) else (some false)).bind fun b33 =>
(bif b33 then ((bif x0.Kind == 4 then (some true) else (some (x0.Kind == 5))).bind fun b37 =>
(bif b37 then (some true) else (some (((x0.Abouts.length : Int)) == 0))).bind fun b41 =>
some b41) else (some false)).bind fun b45 =>
(bif b45 then ((bif x0.Kind == 5 then (some true) else (some (x0.Rate == 0))).bind fun b49 =>
some b49) else (some false)).bind fun b53 =>
(bif b53 then ((bif x0.Kind == 6 then (some true) else ((bif x0.f_Type == 0 then (some (x0.Count == 0)) else (some false)).bind fun b57 =>
(bif b57 then (some (((x0.Body.length : Int)) == 0)) else (some false)).bind fun b61 =>
some b61)).bind fun b65 =>
some b65) else (some false)).bind fun b69 =>
(bif b69 then ((bif !(x0.Kind == 6) then (some true) else (some (x0.From == 0))).bind fun b73 =>
some b73) else (some false)).bind fun b77 =>
some (b77)
theorem rtcp_fields_ok {h : H} {σ : Stamp} (x0 : T_api_Report) {u0 : List V} (hu0 : dT_api_Report.R x0 u0) : Sim (p_rtcp_fields x0) (ev G X0 62 σ [(.agg u0)] h) (fun r s => s = ([.v (.p (.bool r))], h)) := by
  refine Sim.ev rfl (Sim.ext (rtcp_fields_entry _ _ _ _ _) ?_)
  rw [p_rtcp_fields]
  obtain ⟨v1, v3, v5, v7, rfl, h2, h4, h6, h8⟩ := dT_api_Report.inv hu0
  have S0 : Fm 98 h [] [] [] (List.replicate 98 [] :: h) := Fm.start0
  obtain ⟨H9, e10, S11⟩ := S0.box (own := false) (d := 1) (s := (0 :: 0 :: 0 :: σ)) (xs := [(.p (.int .i64 x0.Kind)), (.p (.int .u32 x0.From)), (.p (.int .u32 x0.About)), v1, v3, v5, (.p (.int .u64 x0.Rate)), (.p (.int .i64 x0.f_Type)), (.p (.int .i64 x0.Count)), v7]) (stills_cons (still_int _ _) (stills_cons (still_int _ _) (stills_cons (still_int _ _) (stills_cons h2.still (stills_cons h4.still (stills_cons h6.still (stills_cons (still_int _ _) (stills_cons (still_int _ _) (stills_cons (still_int _ _) (stills_cons h8.still stills_nil)))))))))) (by decide) rfl
  refine Sim.op (e10) ?_
  refine Sim.op (fA_ref _ _ _) ?_
  refine Sim.op ((S11.atG (i := 0) rfl).ld (j := 0) rfl) ?_
  refine Sim.op (castI_p _ _) ?_
  refine Sim.ch (P := fun r y => r = y) ?_ (fun b13 y14 h15 h16 => ?_)
  · refine Sim.cd (fun hc => ?_) (fun hc => ?_)
    · exact Sim.ret rfl rfl
    · refine Sim.op (fA_ref _ _ _) ?_
      refine Sim.op ((S11.atG (i := 0) rfl).ld (j := 0) rfl) ?_
      refine Sim.op (castI_p _ _) ?_
      exact Sim.ret rfl rfl
  subst h16
  refine Sim.op (fA_ref _ _ _) ?_
  refine Sim.op ((S11.atG (i := 0) rfl).ld (j := 0) rfl) ?_
  refine Sim.op (castI_p _ _) ?_
  refine Sim.ch (P := fun r y => r = y) ?_ (fun b17 y18 h19 h20 => ?_)
  · refine Sim.cd (fun hc => ?_) (fun hc => ?_)
    · exact Sim.ret rfl rfl
    · refine Sim.op (fA_ref _ _ _) ?_
      refine Sim.op ((S11.atG (i := 0) rfl).ld (j := 3) rfl) ?_
      refine Sim.op ((h2.h H9).len) ?_
      refine Sim.op (castI_p _ _) ?_
      exact Sim.ret rfl rfl
  subst h20
  refine Sim.ch (P := fun r y => r = y) ?_ (fun b25 y26 h27 h28 => ?_)
  · refine Sim.cd (fun hc => ?_) (fun hc => ?_)
    · refine Sim.op (fA_ref _ _ _) ?_
      refine Sim.op ((S11.atG (i := 0) rfl).ld (j := 0) rfl) ?_
      refine Sim.op (castI_p _ _) ?_
      refine Sim.ch (P := fun r y => r = y) ?_ (fun b21 y22 h23 h24 => ?_)
      · refine Sim.cd (fun hc => ?_) (fun hc => ?_)
        · exact Sim.ret rfl rfl
        · refine Sim.op (fA_ref _ _ _) ?_
          refine Sim.op ((S11.atG (i := 0) rfl).ld (j := 2) rfl) ?_
          refine Sim.op (castI_p _ _) ?_
          exact Sim.ret rfl rfl
      subst h24
      exact Sim.ret rfl rfl
    · exact Sim.ret rfl rfl
  subst h28
  refine Sim.ch (P := fun r y => r = y) ?_ (fun b33 y34 h35 h36 => ?_)
  · refine Sim.cd (fun hc => ?_) (fun hc => ?_)
    · refine Sim.op (fA_ref _ _ _) ?_
      refine Sim.op ((S11.atG (i := 0) rfl).ld (j := 0) rfl) ?_
      refine Sim.op (castI_p _ _) ?_
      refine Sim.ch (P := fun r y => r = y) ?_ (fun b29 y30 h31 h32 => ?_)
      · refine Sim.cd (fun hc => ?_) (fun hc => ?_)
        · exact Sim.ret rfl rfl
        · refine Sim.op (fA_ref _ _ _) ?_
          refine Sim.op ((S11.atG (i := 0) rfl).ld (j := 5) rfl) ?_
          refine Sim.op ((h6.h H9).len) ?_
          refine Sim.op (castI_p _ _) ?_
          exact Sim.ret rfl rfl
      subst h32
      exact Sim.ret rfl rfl
    · exact Sim.ret rfl rfl
  subst h36
  refine Sim.ch (P := fun r y => r = y) ?_ (fun b45 y46 h47 h48 => ?_)
  · refine Sim.cd (fun hc => ?_) (fun hc => ?_)
    · refine Sim.op (fA_ref _ _ _) ?_
      refine Sim.op ((S11.atG (i := 0) rfl).ld (j := 0) rfl) ?_
      refine Sim.op (castI_p _ _) ?_
      refine Sim.ch (P := fun r y => r = y) ?_ (fun b37 y38 h39 h40 => ?_)
      · refine Sim.cd (fun hc => ?_) (fun hc => ?_)
        · exact Sim.ret rfl rfl
        · refine Sim.op (fA_ref _ _ _) ?_
          refine Sim.op ((S11.atG (i := 0) rfl).ld (j := 0) rfl) ?_
          refine Sim.op (castI_p _ _) ?_
          exact Sim.ret rfl rfl
      subst h40
      refine Sim.ch (P := fun r y => r = y) ?_ (fun b41 y42 h43 h44 => ?_)
      · refine Sim.cd (fun hc => ?_) (fun hc => ?_)
        · exact Sim.ret rfl rfl
        · refine Sim.op (fA_ref _ _ _) ?_
          refine Sim.op ((S11.atG (i := 0) rfl).ld (j := 4) rfl) ?_
          refine Sim.op ((h4.h H9).len) ?_
          refine Sim.op (castI_p _ _) ?_
          exact Sim.ret rfl rfl
      subst h44
      exact Sim.ret rfl rfl
    · exact Sim.ret rfl rfl
  subst h48
  refine Sim.ch (P := fun r y => r = y) ?_ (fun b53 y54 h55 h56 => ?_)
  · refine Sim.cd (fun hc => ?_) (fun hc => ?_)
    · refine Sim.op (fA_ref _ _ _) ?_
      refine Sim.op ((S11.atG (i := 0) rfl).ld (j := 0) rfl) ?_
      refine Sim.op (castI_p _ _) ?_
      refine Sim.ch (P := fun r y => r = y) ?_ (fun b49 y50 h51 h52 => ?_)
      · refine Sim.cd (fun hc => ?_) (fun hc => ?_)
        · exact Sim.ret rfl rfl
        · refine Sim.op (fA_ref _ _ _) ?_
          refine Sim.op ((S11.atG (i := 0) rfl).ld (j := 6) rfl) ?_
          refine Sim.op (castI_p _ _) ?_
          exact Sim.ret rfl rfl
      subst h52
      exact Sim.ret rfl rfl
    · exact Sim.ret rfl rfl
  subst h56
  refine Sim.ch (P := fun r y => r = y) ?_ (fun b69 y70 h71 h72 => ?_)
  · refine Sim.cd (fun hc => ?_) (fun hc => ?_)
    · refine Sim.ch (P := fun r y => r = y) ?_ (fun b65 y66 h67 h68 => ?_)
      · refine Sim.cd (fun hc => ?_) (fun hc => ?_)
        · exact Sim.ret rfl rfl
        · refine Sim.op (fA_ref _ _ _) ?_
          refine Sim.op ((S11.atG (i := 0) rfl).ld (j := 7) rfl) ?_
          refine Sim.op (castI_p _ _) ?_
          refine Sim.ch (P := fun r y => r = y) ?_ (fun b57 y58 h59 h60 => ?_)
          · refine Sim.cd (fun hc => ?_) (fun hc => ?_)
            · refine Sim.op (fA_ref _ _ _) ?_
              refine Sim.op ((S11.atG (i := 0) rfl).ld (j := 8) rfl) ?_
              refine Sim.op (castI_p _ _) ?_
              exact Sim.ret rfl rfl
            · exact Sim.ret rfl rfl
          subst h60
          refine Sim.ch (P := fun r y => r = y) ?_ (fun b61 y62 h63 h64 => ?_)
          · refine Sim.cd (fun hc => ?_) (fun hc => ?_)
            · refine Sim.op (fA_ref _ _ _) ?_
              refine Sim.op ((S11.atG (i := 0) rfl).ld (j := 9) rfl) ?_
              refine Sim.op ((h8.h H9).len) ?_
              refine Sim.op (castI_p _ _) ?_
              exact Sim.ret rfl rfl
            · exact Sim.ret rfl rfl
          subst h64
          exact Sim.ret rfl rfl
      subst h68
      exact Sim.ret rfl rfl
    · exact Sim.ret rfl rfl
  subst h72
  refine Sim.ch (P := fun r y => r = y) ?_ (fun b77 y78 h79 h80 => ?_)
  · refine Sim.cd (fun hc => ?_) (fun hc => ?_)
    · refine Sim.ch (P := fun r y => r = y) ?_ (fun b73 y74 h75 h76 => ?_)
      · refine Sim.cd (fun hc => ?_) (fun hc => ?_)
        · exact Sim.ret rfl rfl
        · refine Sim.op (fA_ref _ _ _) ?_
          refine Sim.op ((S11.atG (i := 0) rfl).ld (j := 1) rfl) ?_
          refine Sim.op (castI_p _ _) ?_
          exact Sim.ret rfl rfl
      subst h76
      exact Sim.ret rfl rfl
    · exact Sim.ret rfl rfl
  subst h80
  exact Sim.fin (S11.finN (lv_cons (still_bool _).lv lv_nil)) rfl
end Go.Ev
/- Equations, printed by tracer2.py. -/
namespace Go.Ev
open Go.Proofs
set_option linter.unusedVariables false
set_option maxRecDepth 100000
-- 61 limelight/rtcp.values
theorem rtcp_values_entry (rec : CallF) (loop : LoopV) (σ : Stamp) (x0 : V) (h : H) : cvBody G rec loop 61 σ [x0] h =
 (boxO false (0 :: 0 :: 0 :: σ) 1 (List.replicate 100 [] :: h) x0).bind fun q1 =>
 (fA q1.1 0).bind fun t2 =>
 (ldO false 1 q1.2 t2).bind fun t3 =>
 (castI .i64 t3).bind fun n4 =>
 bif n4 == 1 then (
 bif n4 == 1 then (
 (fA q1.1 3).bind fun t5 =>
 (ldO false 1 q1.2 t5).bind fun t6 =>
 (lenO t6).bind fun t7 =>
 (castI .i64 t7).bind fun n8 =>
 (bif decide (n8 ≤ 6) then ((fA q1.1 3).bind fun t9 =>
 (ldO false 1 q1.2 t9).bind fun t10 =>
 (callO rec 98 (7 :: 0 :: 1 :: 1 :: 0 :: 1 :: 0 :: σ) [t10, (.clo 99 [])] q1.2 (some 15)).bind fun q11 =>
 (asB q11.1).bind fun b12 =>
 some ((.p (.bool (!b12))), q11.2)) else (some ((.p (.bool false)), q1.2))).bind fun q13 =>
 (asB q13.1).bind fun b14 =>
 fin false σ q13.2 [(.p (.bool b14))])
 else (
 bif n4 == 4 then (
 (fA q1.1 5).bind fun t15 =>
 (ldO false 1 q1.2 t15).bind fun t16 =>
 (lenO t16).bind fun t17 =>
 (castI .i64 t17).bind fun n18 =>
 (fA q1.1 4).bind fun t19 =>
 (ldO false 1 q1.2 t19).bind fun t20 =>
 (lenO t20).bind fun t21 =>
 (castI .i64 t21).bind fun n22 =>
 (bif n18 == n22 then ((fA q1.1 4).bind fun t23 =>
 (ldO false 1 q1.2 t23).bind fun t24 =>
 (lenO t24).bind fun t25 =>
 (castI .i64 t25).bind fun n26 =>
 some (decide (n26 ≥ 1))) else (some false)).bind fun b27 =>
 (bif b27 then ((fA q1.1 4).bind fun t28 =>
 (ldO false 1 q1.2 t28).bind fun t29 =>
 (lenO t29).bind fun t30 =>
 (castI .i64 t30).bind fun n31 =>
 some (decide (n31 ≤ 16))) else (some false)).bind fun b32 =>
 (bif b32 then ((fA q1.1 5).bind fun t33 =>
 (ldO false 1 q1.2 t33).bind fun t34 =>
 (callO rec 101 (22 :: 0 :: 1 :: 1 :: 1 :: 0 :: 1 :: 0 :: σ) [t34, (.clo 102 [])] q1.2 (some 42)).bind fun q35 =>
 (asB q35.1).bind fun b36 =>
 some ((.p (.bool (!b36))), q35.2)) else (some ((.p (.bool false)), q1.2))).bind fun q37 =>
 (asB q37.1).bind fun b38 =>
 fin false σ q37.2 [(.p (.bool b38))])
 else (
 bif n4 == 5 then (
 (fA q1.1 4).bind fun t39 =>
 (ldO false 1 q1.2 t39).bind fun t40 =>
 (lenO t40).bind fun t41 =>
 (castI .i64 t41).bind fun n42 =>
 (bif decide (n42 ≤ 16) then ((fA q1.1 6).bind fun t43 =>
 (ldO false 1 q1.2 t43).bind fun t44 =>
 (castI .u64 t44).bind fun n45 =>
 (fA q1.1 6).bind fun t46 =>
 (ldO false 1 q1.2 t46).bind fun t47 =>
 (castI .u64 t47).bind fun n48 =>
 (callO rec 100 (7 :: 0 :: 1 :: 1 :: 1 :: 1 :: 0 :: 1 :: 0 :: σ) [(.p (.int .u64 n45)), (.p (.int .i64 18))] q1.2 (some 54)).bind fun q49 =>
 (castI .u64 q49.1).bind fun n50 =>
 need (ldO false 1 q49.2 t46 = some (.p (.int .u64 n48))) (
 some ((.p (.bool (n50 == n48))), q49.2))) else (some ((.p (.bool false)), q1.2))).bind fun q51 =>
 (asB q51.1).bind fun b52 =>
 fin false σ q51.2 [(.p (.bool b52))])
 else (
 bif n4 == 6 then (
 (fA q1.1 7).bind fun t53 =>
 (ldO false 1 q1.2 t53).bind fun t54 =>
 (castI .i64 t54).bind fun n55 =>
 (bif decide (n55 ≥ 192) then ((fA q1.1 7).bind fun t56 =>
 (ldO false 1 q1.2 t56).bind fun t57 =>
 (castI .i64 t57).bind fun n58 =>
 some (decide (n58 ≤ 223))) else (some false)).bind fun b59 =>
 (bif b59 then ((fA q1.1 8).bind fun t60 =>
 (ldO false 1 q1.2 t60).bind fun t61 =>
 (castI .i64 t61).bind fun n62 =>
 some (decide (n62 ≥ 0))) else (some false)).bind fun b63 =>
 (bif b63 then ((fA q1.1 8).bind fun t64 =>
 (ldO false 1 q1.2 t64).bind fun t65 =>
 (castI .i64 t65).bind fun n66 =>
 some (decide (n66 ≤ 31))) else (some false)).bind fun b67 =>
 (bif b67 then ((fA q1.1 9).bind fun t68 =>
 (ldO false 1 q1.2 t68).bind fun t69 =>
 (lenO t69).bind fun t70 =>
 (castI .i64 t70).bind fun n71 =>
 some ((Int.tmod n71 4) == 0)) else (some false)).bind fun b72 =>
 (bif b72 then ((fA q1.1 9).bind fun t73 =>
 (ldO false 1 q1.2 t73).bind fun t74 =>
 (lenO t74).bind fun t75 =>
 (castI .i64 t75).bind fun n76 =>
 some (decide (n76 ≤ 262140))) else (some false)).bind fun b77 =>
 (bif b77 then ((fA q1.1 7).bind fun t78 =>
 (ldO false 1 q1.2 t78).bind fun t79 =>
 (castI .i64 t79).bind fun n80 =>
 (fA q1.1 8).bind fun t81 =>
 (ldO false 1 q1.2 t81).bind fun t82 =>
 (castI .i64 t82).bind fun n83 =>
 (callO rec 103 (36 :: 0 :: 1 :: 1 :: 1 :: 1 :: 1 :: 0 :: 1 :: 0 :: σ) [(.p (.int .i64 n80)), (.p (.int .i64 n83))] q1.2 (some 97)).bind fun q84 =>
 (castI .i64 q84.1).bind fun n85 =>
 some ((.p (.bool (n85 == 6))), q84.2)) else (some ((.p (.bool false)), q1.2))).bind fun q86 =>
 (asB q86.1).bind fun b87 =>
 fin false σ q86.2 [(.p (.bool b87))])
 else (
 fin false σ q1.2 [(.p (.bool true))])))))
 else (
 bif n4 == 2 then (
 (fA q1.1 3).bind fun t88 =>
 (ldO false 1 q1.2 t88).bind fun t89 =>
 (lenO t89).bind fun t90 =>
 (castI .i64 t90).bind fun n91 =>
 (bif decide (n91 ≤ 6) then ((fA q1.1 3).bind fun t92 =>
 (ldO false 1 q1.2 t92).bind fun t93 =>
 (callO rec 98 (7 :: 0 :: 1 :: 1 :: 0 :: 1 :: 0 :: σ) [t93, (.clo 99 [])] q1.2 (some 15)).bind fun q94 =>
 (asB q94.1).bind fun b95 =>
 some ((.p (.bool (!b95))), q94.2)) else (some ((.p (.bool false)), q1.2))).bind fun q96 =>
 (asB q96.1).bind fun b97 =>
 fin false σ q96.2 [(.p (.bool b97))])
 else (
 bif n4 == 4 then (
 (fA q1.1 5).bind fun t98 =>
 (ldO false 1 q1.2 t98).bind fun t99 =>
 (lenO t99).bind fun t100 =>
 (castI .i64 t100).bind fun n101 =>
 (fA q1.1 4).bind fun t102 =>
 (ldO false 1 q1.2 t102).bind fun t103 =>
 (lenO t103).bind fun t104 =>
 (castI .i64 t104).bind fun n105 =>
 (bif n101 == n105 then ((fA q1.1 4).bind fun t106 =>
 (ldO false 1 q1.2 t106).bind fun t107 =>
 (lenO t107).bind fun t108 =>
 (castI .i64 t108).bind fun n109 =>
 some (decide (n109 ≥ 1))) else (some false)).bind fun b110 =>
 (bif b110 then ((fA q1.1 4).bind fun t111 =>
 (ldO false 1 q1.2 t111).bind fun t112 =>
 (lenO t112).bind fun t113 =>
 (castI .i64 t113).bind fun n114 =>
 some (decide (n114 ≤ 16))) else (some false)).bind fun b115 =>
 (bif b115 then ((fA q1.1 5).bind fun t116 =>
 (ldO false 1 q1.2 t116).bind fun t117 =>
 (callO rec 101 (22 :: 0 :: 1 :: 1 :: 1 :: 0 :: 1 :: 0 :: σ) [t117, (.clo 102 [])] q1.2 (some 42)).bind fun q118 =>
 (asB q118.1).bind fun b119 =>
 some ((.p (.bool (!b119))), q118.2)) else (some ((.p (.bool false)), q1.2))).bind fun q120 =>
 (asB q120.1).bind fun b121 =>
 fin false σ q120.2 [(.p (.bool b121))])
 else (
 bif n4 == 5 then (
 (fA q1.1 4).bind fun t122 =>
 (ldO false 1 q1.2 t122).bind fun t123 =>
 (lenO t123).bind fun t124 =>
 (castI .i64 t124).bind fun n125 =>
 (bif decide (n125 ≤ 16) then ((fA q1.1 6).bind fun t126 =>
 (ldO false 1 q1.2 t126).bind fun t127 =>
 (castI .u64 t127).bind fun n128 =>
 (fA q1.1 6).bind fun t129 =>
 (ldO false 1 q1.2 t129).bind fun t130 =>
 (castI .u64 t130).bind fun n131 =>
 (callO rec 100 (7 :: 0 :: 1 :: 1 :: 1 :: 1 :: 0 :: 1 :: 0 :: σ) [(.p (.int .u64 n128)), (.p (.int .i64 18))] q1.2 (some 54)).bind fun q132 =>
 (castI .u64 q132.1).bind fun n133 =>
 need (ldO false 1 q132.2 t129 = some (.p (.int .u64 n131))) (
 some ((.p (.bool (n133 == n131))), q132.2))) else (some ((.p (.bool false)), q1.2))).bind fun q134 =>
 (asB q134.1).bind fun b135 =>
 fin false σ q134.2 [(.p (.bool b135))])
 else (
 bif n4 == 6 then (
 (fA q1.1 7).bind fun t136 =>
 (ldO false 1 q1.2 t136).bind fun t137 =>
 (castI .i64 t137).bind fun n138 =>
 (bif decide (n138 ≥ 192) then ((fA q1.1 7).bind fun t139 =>
 (ldO false 1 q1.2 t139).bind fun t140 =>
 (castI .i64 t140).bind fun n141 =>
 some (decide (n141 ≤ 223))) else (some false)).bind fun b142 =>
 (bif b142 then ((fA q1.1 8).bind fun t143 =>
 (ldO false 1 q1.2 t143).bind fun t144 =>
 (castI .i64 t144).bind fun n145 =>
 some (decide (n145 ≥ 0))) else (some false)).bind fun b146 =>
 (bif b146 then ((fA q1.1 8).bind fun t147 =>
 (ldO false 1 q1.2 t147).bind fun t148 =>
 (castI .i64 t148).bind fun n149 =>
 some (decide (n149 ≤ 31))) else (some false)).bind fun b150 =>
 (bif b150 then ((fA q1.1 9).bind fun t151 =>
 (ldO false 1 q1.2 t151).bind fun t152 =>
 (lenO t152).bind fun t153 =>
 (castI .i64 t153).bind fun n154 =>
 some ((Int.tmod n154 4) == 0)) else (some false)).bind fun b155 =>
 (bif b155 then ((fA q1.1 9).bind fun t156 =>
 (ldO false 1 q1.2 t156).bind fun t157 =>
 (lenO t157).bind fun t158 =>
 (castI .i64 t158).bind fun n159 =>
 some (decide (n159 ≤ 262140))) else (some false)).bind fun b160 =>
 (bif b160 then ((fA q1.1 7).bind fun t161 =>
 (ldO false 1 q1.2 t161).bind fun t162 =>
 (castI .i64 t162).bind fun n163 =>
 (fA q1.1 8).bind fun t164 =>
 (ldO false 1 q1.2 t164).bind fun t165 =>
 (castI .i64 t165).bind fun n166 =>
 (callO rec 103 (36 :: 0 :: 1 :: 1 :: 1 :: 1 :: 1 :: 0 :: 1 :: 0 :: σ) [(.p (.int .i64 n163)), (.p (.int .i64 n166))] q1.2 (some 97)).bind fun q167 =>
 (castI .i64 q167.1).bind fun n168 =>
 some ((.p (.bool (n168 == 6))), q167.2)) else (some ((.p (.bool false)), q1.2))).bind fun q169 =>
 (asB q169.1).bind fun b170 =>
 fin false σ q169.2 [(.p (.bool b170))])
 else (
 fin false σ q1.2 [(.p (.bool true))]))))) := by kernel_rfl
end Go.Ev
/- Equations, printed by tracer2.py. -/
namespace Go.Ev
open Go.Proofs
set_option linter.unusedVariables false
set_option maxRecDepth 100000
-- 103 limelight/rtcp.kind
theorem rtcp_kind_entry (rec : CallF) (loop : LoopV) (σ : Stamp) (x0 : Int) (x1 : Int) (h : H) : cvBody G rec loop 103 σ [(.p (.int .i64 x0)), (.p (.int .i64 x1))] h =
 (bif x0 == 205 then (some (x1 == 3)) else (some false)).bind fun b1 =>
 bif b1 then (
 fin false σ (List.replicate 40 [] :: h) [(.p (.int .i64 1))])
 else (
 (bif x0 == 205 then (some (x1 == 4)) else (some false)).bind fun b2 =>
 bif b2 then (
 fin false σ (List.replicate 40 [] :: h) [(.p (.int .i64 2))])
 else (
 (bif x0 == 206 then (some (x1 == 1)) else (some false)).bind fun b3 =>
 bif b3 then (
 fin false σ (List.replicate 40 [] :: h) [(.p (.int .i64 3))])
 else (
 (bif x0 == 206 then (some (x1 == 4)) else (some false)).bind fun b4 =>
 bif b4 then (
 fin false σ (List.replicate 40 [] :: h) [(.p (.int .i64 4))])
 else (
 (bif x0 == 206 then (some (x1 == 15)) else (some false)).bind fun b5 =>
 bif b5 then (
 fin false σ (List.replicate 40 [] :: h) [(.p (.int .i64 5))])
 else (
 fin false σ (List.replicate 40 [] :: h) [(.p (.int .i64 6))]))))) := by kernel_rfl
end Go.Ev
/- Lifted by lift.py: rtcp_kind as a plain function. -/
namespace Go.Ev
open Go.Proofs
set_option linter.unusedVariables false
set_option linter.unusedSimpArgs false
set_option maxRecDepth 100000
def p_rtcp_kind (x0 : Int) (x1 : Int) : Option (Int) :=
(bif x0 == 205 then (some (x1 == 3)) else (some false)).bind fun b1 =>
bif b1 then (
some (1))
else (
(bif x0 == 205 then (some (x1 == 4)) else (some false)).bind fun b6 =>
bif b6 then (
some (2))
else (
(bif x0 == 206 then (some (x1 == 1)) else (some false)).bind fun b11 =>
bif b11 then (
some (3))
else (
(bif x0 == 206 then (some (x1 == 4)) else (some false)).bind fun b16 =>
bif b16 then (
some (4))
else (
(bif x0 == 206 then (some (x1 == 15)) else (some false)).bind fun b21 =>
bif b21 then (
some (5))
else (
some (6))))))
theorem rtcp_kind_ok {h : H} {σ : Stamp} (x0 : Int) (x1 : Int) : Sim (p_rtcp_kind x0 x1) (ev G X0 103 σ [(.p (.int .i64 x0)), (.p (.int .i64 x1))] h) (fun r s => s = ([.v (.p (.int .i64 r))], h)) := by
  refine Sim.ev rfl (Sim.ext (rtcp_kind_entry _ _ _ _ _ _) ?_)
  rw [p_rtcp_kind]
  have S0 : Fm 40 h [] [] [] (List.replicate 40 [] :: h) := Fm.start0
  refine Sim.ch (P := fun r y => r = y) ?_ (fun b1 y2 h3 h4 => ?_)
  · refine Sim.cd (fun hc => ?_) (fun hc => ?_)
    · exact Sim.ret rfl rfl
    · exact Sim.ret rfl rfl
  subst h4
  refine Sim.cd (fun hc5 => ?_) (fun hc5 => ?_)
  · exact Sim.fin (S0.finN (lv_cons (still_int _ _).lv lv_nil)) rfl
  refine Sim.ch (P := fun r y => r = y) ?_ (fun b6 y7 h8 h9 => ?_)
  · refine Sim.cd (fun hc => ?_) (fun hc => ?_)
    · exact Sim.ret rfl rfl
    · exact Sim.ret rfl rfl
  subst h9
  refine Sim.cd (fun hc10 => ?_) (fun hc10 => ?_)
  · exact Sim.fin (S0.finN (lv_cons (still_int _ _).lv lv_nil)) rfl
  refine Sim.ch (P := fun r y => r = y) ?_ (fun b11 y12 h13 h14 => ?_)
  · refine Sim.cd (fun hc => ?_) (fun hc => ?_)
    · exact Sim.ret rfl rfl
    · exact Sim.ret rfl rfl
  subst h14
  refine Sim.cd (fun hc15 => ?_) (fun hc15 => ?_)
  · exact Sim.fin (S0.finN (lv_cons (still_int _ _).lv lv_nil)) rfl
  refine Sim.ch (P := fun r y => r = y) ?_ (fun b16 y17 h18 h19 => ?_)
  · refine Sim.cd (fun hc => ?_) (fun hc => ?_)
    · exact Sim.ret rfl rfl
    · exact Sim.ret rfl rfl
  subst h19
  refine Sim.cd (fun hc20 => ?_) (fun hc20 => ?_)
  · exact Sim.fin (S0.finN (lv_cons (still_int _ _).lv lv_nil)) rfl
  refine Sim.ch (P := fun r y => r = y) ?_ (fun b21 y22 h23 h24 => ?_)
  · refine Sim.cd (fun hc => ?_) (fun hc => ?_)
    · exact Sim.ret rfl rfl
    · exact Sim.ret rfl rfl
  subst h24
  refine Sim.cd (fun hc25 => ?_) (fun hc25 => ?_)
  · exact Sim.fin (S0.finN (lv_cons (still_int _ _).lv lv_nil)) rfl
  exact Sim.fin (S0.finN (lv_cons (still_int _ _).lv lv_nil)) rfl
end Go.Ev
/- Equations, printed by tracer2.py. -/
namespace Go.Ev
open Go.Proofs
set_option linter.unusedVariables false
set_option maxRecDepth 100000
-- 98 slices.ContainsFunc[[]limelight/api.Tuple,limelight/api.Tuple]
theorem slices_ContainsFunc_Lapi_Tuple_api_Tuple_entry (rec : CallF) (loop : LoopV) (σ : Stamp) (x0 : V) (x1 : V) (h : H) : cvBody G rec loop 98 σ [x0, x1] h =
 (callO rec 120 (2 :: 0 :: 1 :: 0 :: σ) [x0, x1] (List.replicate 9 [] :: h) (some 7)).bind fun q1 =>
 (castI .i64 q1.1).bind fun n2 =>
 fin false σ q1.2 [(.p (.bool (decide (n2 ≥ 0))))] := by kernel_rfl
end Go.Ev
/- Equations, printed by tracer2.py. -/
namespace Go.Ev
open Go.Proofs
set_option linter.unusedVariables false
set_option maxRecDepth 100000
-- 120 slices.IndexFunc[[]limelight/api.Tuple,limelight/api.Tuple]
noncomputable def slices_IndexFunc_Lapi_Tuple_api_Tuple_c0 : Code := (codeAt (bodyOf Try.f120) [1, 0, 1, 0, 0])
def slices_IndexFunc_Lapi_Tuple_api_Tuple_l0 : Lv := ⟨0, 16, [(0, 0)]⟩
noncomputable def slices_IndexFunc_Lapi_Tuple_api_Tuple_k0 (rec : CallF) (loop : LoopV) (σ : Stamp) : Exit → Env → H → Option (List C × H) := (kBlock 0 (kSeq G rec loop (codeAt (bodyOf Try.f120) [1, 1]) ⟨16, 16, []⟩ (1 :: 0 :: σ) (finC G false Try.f120 (1 :: σ))))
theorem slices_IndexFunc_Lapi_Tuple_api_Tuple_entry (rec : CallF) (loop : LoopV) (σ : Stamp) (x0 : V) (x1 : V) (h : H) : cvBody G rec loop 120 σ [x0, x1] h =
 (lenO x0).bind fun t1 =>
 (castI .i64 t1).bind fun n2 =>
 (loop slices_IndexFunc_Lapi_Tuple_api_Tuple_c0 slices_IndexFunc_Lapi_Tuple_api_Tuple_l0 (1 :: 0 :: 1 :: 0 :: σ) (envL [(0, x0), (1, x1), (7, (.p (.int .i64 n2))), (8, (.p (.int .i64 0)))]) (List.replicate 19 [] :: h)).bind fun r3 => slices_IndexFunc_Lapi_Tuple_api_Tuple_k0 rec loop σ r3.1 r3.2.1 r3.2.2 := by kernel_rfl
theorem slices_IndexFunc_Lapi_Tuple_api_Tuple_r0 (rec : CallF) (loop : LoopV) (σ : Stamp) (x0 : V) (x1 : V) (x7 : Int) (x8 : Int) (h : H) : cvRound G rec loop slices_IndexFunc_Lapi_Tuple_api_Tuple_c0 slices_IndexFunc_Lapi_Tuple_api_Tuple_l0 σ (envL [(0, x0), (1, x1), (7, (.p (.int .i64 x7))), (8, (.p (.int .i64 x8)))]) h =
 bif decide (x8 < x7) then (
 (iS 3 x0 x8).bind fun t4 =>
 (ldO true 3 h t4).bind fun t5 =>
 (cloO rec x1 (5 :: 0 :: 1 :: 0 :: 1 :: 1 :: 0 :: σ) [t5] h (some 16)).bind fun q6 =>
 (asB q6.1).bind fun b7 =>
 bif b7 then (
 some (.ret, (envL [(4, (.p (.int .i64 x8)))]), q6.2))
 else (
 loop slices_IndexFunc_Lapi_Tuple_api_Tuple_c0 slices_IndexFunc_Lapi_Tuple_api_Tuple_l0 (1 :: σ) (envL [(0, x0), (1, x1), (7, (.p (.int .i64 x7))), (8, (.p (.int .i64 (IntKind.wrap .i64 (x8 + 1)))))]) q6.2))
 else (
 some ((.exit 0), (envL []), h)) := by kernel_rfl
theorem slices_IndexFunc_Lapi_Tuple_api_Tuple_a0_0 (rec : CallF) (loop : LoopV) (σ : Stamp)  (h : H) : slices_IndexFunc_Lapi_Tuple_api_Tuple_k0 rec loop σ (.exit 0) (envL []) h =
 fin false σ h [(.p (.int .i64 (-1)))] := by kernel_rfl
theorem slices_IndexFunc_Lapi_Tuple_api_Tuple_a0_ret (rec : CallF) (loop : LoopV) (σ : Stamp) (x4 : Int) (h : H) : slices_IndexFunc_Lapi_Tuple_api_Tuple_k0 rec loop σ .ret (envL [(4, (.p (.int .i64 x4)))]) h =
 fin false σ h [(.p (.int .i64 x4))] := by kernel_rfl
end Go.Ev
/- Equations, printed by tracer2.py. -/
namespace Go.Ev
open Go.Proofs
set_option linter.unusedVariables false
set_option maxRecDepth 100000
-- 99 limelight/rtcp.values$1
theorem rtcp_values_1_entry (rec : CallF) (loop : LoopV) (σ : Stamp) (x0 : V) (h : H) : cvBody G rec loop 99 σ [x0] h =
 (boxO false (0 :: 0 :: 0 :: σ) 1 (List.replicate 19 [] :: h) x0).bind fun q1 =>
 (fA q1.1 2).bind fun t2 =>
 (ldO false 1 q1.2 t2).bind fun t3 =>
 (castI .i64 t3).bind fun n4 =>
 (bif decide (n4 < 0) then (some true) else ((fA q1.1 2).bind fun t5 =>
 (ldO false 1 q1.2 t5).bind fun t6 =>
 (castI .i64 t6).bind fun n7 =>
 some (decide (n7 > 511)))).bind fun b8 =>
 (bif b8 then (some ((.p (.bool true)), q1.2)) else ((fA q1.1 1).bind fun t9 =>
 (ldO false 1 q1.2 t9).bind fun t10 =>
 (castI .u64 t10).bind fun n11 =>
 (fA q1.1 1).bind fun t12 =>
 (ldO false 1 q1.2 t12).bind fun t13 =>
 (castI .u64 t13).bind fun n14 =>
 (callO rec 100 (11 :: 0 :: 1 :: 0 :: σ) [(.p (.int .u64 n11)), (.p (.int .i64 17))] q1.2 (some 14)).bind fun q15 =>
 (castI .u64 q15.1).bind fun n16 =>
 need (ldO false 1 q15.2 t12 = some (.p (.int .u64 n14))) (
 some ((.p (.bool (n16 != n14))), q15.2)))).bind fun q17 =>
 (asB q17.1).bind fun b18 =>
 fin false σ q17.2 [(.p (.bool b18))] := by kernel_rfl
end Go.Ev
/- Lifted by lift.py: rtcp_values_1 as a plain function. -/
namespace Go.Ev
open Go.Proofs
set_option linter.unusedVariables false
set_option linter.unusedSimpArgs false
set_option maxRecDepth 100000
def p_rtcp_values_1 (k : Nat) (x0 : T_api_Tuple) : Option (Bool) :=
(bif decide (x0.Over < 0) then (some true) else (some (decide (x0.Over > 511)))).bind fun b5 =>
(bif b5 then (some true) else ((p_rate_Down k x0.Rate 17).bind fun r9 =>
some (r9 != x0.Rate))).bind fun b14 =>
some (b14)
theorem rtcp_values_1_ok (k : Nat) {h : H} {σ : Stamp} (x0 : T_api_Tuple) {u0 : List V} (hu0 : dT_api_Tuple.R x0 u0) : Sim (p_rtcp_values_1 k x0) (ev G X0 99 σ [(.agg u0)] h) (fun r s => s = ([.v (.p (.bool r))], h)) := by
  refine Sim.ev rfl (Sim.ext (rtcp_values_1_entry _ _ _ _ _) ?_)
  rw [p_rtcp_values_1]
  obtain rfl := dT_api_Tuple.inv hu0
  have S0 : Fm 19 h [] [] [] (List.replicate 19 [] :: h) := Fm.start0
  obtain ⟨H1, e2, S3⟩ := S0.box (own := false) (d := 1) (s := (0 :: 0 :: 0 :: σ)) (xs := [(.p (.int .u32 x0.Owner)), (.p (.int .u64 x0.Rate)), (.p (.int .i64 x0.Over))]) (stills_cons (still_int _ _) (stills_cons (still_int _ _) (stills_cons (still_int _ _) stills_nil))) (by decide) rfl
  refine Sim.op (e2) ?_
  refine Sim.op (fA_ref _ _ _) ?_
  refine Sim.op ((S3.atG (i := 0) rfl).ld (j := 2) rfl) ?_
  refine Sim.op (castI_p _ _) ?_
  refine Sim.ch (P := fun r y => r = y) ?_ (fun b5 y6 h7 h8 => ?_)
  · refine Sim.cd (fun hc => ?_) (fun hc => ?_)
    · exact Sim.ret rfl rfl
    · refine Sim.op (fA_ref _ _ _) ?_
      refine Sim.op ((S3.atG (i := 0) rfl).ld (j := 2) rfl) ?_
      refine Sim.op (castI_p _ _) ?_
      exact Sim.ret rfl rfl
  subst h8
  refine Sim.ch (P := fun r y => (.p (.bool r), H1) = y) ?_ (fun b14 y15 h16 h17 => ?_)
  · refine Sim.cd (fun hc => ?_) (fun hc => ?_)
    · exact Sim.ret rfl rfl
    · refine Sim.op (fA_ref _ _ _) ?_
      refine Sim.op ((S3.atG (i := 0) rfl).ld (j := 1) rfl) ?_
      refine Sim.op (castI_p _ _) ?_
      refine Sim.op (fA_ref _ _ _) ?_
      refine Sim.op ((S3.atG (i := 0) rfl).ld (j := 1) rfl) ?_
      refine Sim.op (castI_p _ _) ?_
      refine Sim.call (rate_Down_ok k x0.Rate 17) fun r9 cs10 H11 h12 q13 => ?_
      cases q13
      refine Sim.op (castI_p _ _) ?_
      refine Sim.nd ((S3.atG (i := 0) rfl).ld (j := 1) rfl) ?_
      exact Sim.ret rfl rfl
  subst h17
  refine Sim.op (asB_p _) ?_
  exact Sim.fin (S3.finN (lv_cons (still_bool _).lv lv_nil)) rfl
end Go.Ev
/- Lifted by lift.py: slices_IndexFunc_Lapi_Tuple_api_Tuple as a plain function. -/
namespace Go.Ev
open Go.Proofs
set_option linter.unusedVariables false
set_option linter.unusedSimpArgs false
set_option maxRecDepth 100000
def p_slices_IndexFunc_Lapi_Tuple_api_Tuple_rtcp_values_1_l0 {β : Type} (k : Nat) (kE0 : Unit → Option β) (kE1 : Int → Option β) (x0 : (List T_api_Tuple)) (x7 : Int) (x8 : Int) : Option β := match k with
| 0 => none
| k + 1 =>
bif decide (x8 < x7) then (
(ix x0 x8).bind fun a6 =>
(p_rtcp_values_1 k a6).bind fun r11 =>
bif r11 then (
kE1 x8)
else (
p_slices_IndexFunc_Lapi_Tuple_api_Tuple_rtcp_values_1_l0 k kE0 kE1 x0 x7 (IntKind.wrap .i64 (x8 + 1))))
else (
kE0 ())
def p_slices_IndexFunc_Lapi_Tuple_api_Tuple_rtcp_values_1 (k : Nat) (x0 : (List T_api_Tuple)) : Option (Int) :=
p_slices_IndexFunc_Lapi_Tuple_api_Tuple_rtcp_values_1_l0 k (fun (_ : Unit) =>
some ((-1))) (fun r24_4 =>
some (r24_4)) x0 ((x0.length : Int)) 0
theorem slices_IndexFunc_Lapi_Tuple_api_Tuple_rtcp_values_1_l0_ok {h : H}  {β α : Type} {Q : β → α → Prop} {K : Exit × Env × H → Option α} {kE0 : Unit → Option β} {kE1 : Int → Option β} (hE0 : ∀ (_u : Unit) (H17 : Go.Ev.H) (_ : Fm 19 h [] [] [] H17), Sim (kE0 ()) (K ((.exit 0), (envL []), H17)) Q) (hE1 : ∀ (q4 : Int) (H19 : Go.Ev.H) (_ : Fm 19 h [] [] [] H19), Sim (kE1 q4) (K (.ret, (envL [(4, (.p (.int .i64 q4)))]), H19)) Q) (k : Nat) : ∀ (x0 : (List T_api_Tuple)) (x7 : Int) (x8 : Int) (v3 : V) (h4 : SlH h dT_api_Tuple x0 v3) (H1 : Go.Ev.H) (_ : Fm 19 h [] [] [] H1) {σ : Stamp}, Sim (p_slices_IndexFunc_Lapi_Tuple_api_Tuple_rtcp_values_1_l0 k kE0 kE1 x0 x7 x8) ((cvL G X0 slices_IndexFunc_Lapi_Tuple_api_Tuple_c0 slices_IndexFunc_Lapi_Tuple_api_Tuple_l0 σ (envL [(0, v3), (1, (.clo 99 [])), (7, (.p (.int .i64 x7))), (8, (.p (.int .i64 x8)))]) H1).bind K) Q := by
  induction k with
  | zero => intros; exact Sim.no
  | succ k ih =>
    intro x0 x7 x8 v3 h4 H1 S2 σ
    rw [p_slices_IndexFunc_Lapi_Tuple_api_Tuple_rtcp_values_1_l0]
    refine Sim.round (Sim.ext (slices_IndexFunc_Lapi_Tuple_api_Tuple_r0 _ _ _ _ _ _ _ _) ?_)
    refine Sim.cd (fun hc5 => ?_) (fun hc5 => ?_)
    · refine Sim.bd fun a6 h7 => ?_
      refine Sim.op ((S2.low h4).iS h7 rfl) ?_
      obtain ⟨w9, h10, hE8⟩ := (S2.low h4).el h7 rfl
      obtain rfl := dT_api_Tuple.inv h10
      refine Sim.op (hE8.all (by simp)) ?_
      refine Sim.clo ?_
      refine Sim.call (rtcp_values_1_ok k a6 (show dT_api_Tuple.R a6 [.p (.int .u32 a6.Owner), .p (.int .u64 a6.Rate), .p (.int .i64 a6.Over)] from (dT_api_Tuple.mk))) fun r11 cs12 H13 h14 q15 => ?_
      cases q15
      refine Sim.op (asB_p _) ?_
      refine Sim.cd (fun hc16 => ?_) (fun hc16 => ?_)
      · exact hE1 x8 H1 (S2.wk2 all_nil all_nil)
      exact ih x0 x7 (IntKind.wrap .i64 (x8 + 1)) v3 h4 H1 (S2.wk2 all_nil all_nil)
    exact hE0 () H1 (S2.wk2 all_nil all_nil)
theorem slices_IndexFunc_Lapi_Tuple_api_Tuple_rtcp_values_1_ok (k : Nat) {h : H} {σ : Stamp} (x0 : List T_api_Tuple) {u0 : V} (hu0 : SlH h dT_api_Tuple x0 u0) : Sim (p_slices_IndexFunc_Lapi_Tuple_api_Tuple_rtcp_values_1 k x0) (ev G X0 120 σ [u0, (.clo 99 [])] h) (fun r s => s = ([.v (.p (.int .i64 r))], h)) := by
  refine Sim.ev rfl (Sim.ext (slices_IndexFunc_Lapi_Tuple_api_Tuple_entry _ _ _ _ _ _) ?_)
  rw [p_slices_IndexFunc_Lapi_Tuple_api_Tuple_rtcp_values_1]
  have S0 : Fm 19 h [] [] [] (List.replicate 19 [] :: h) := Fm.start0
  refine Sim.op ((S0.low hu0).len) ?_
  refine Sim.op (castI_p _ _) ?_
  refine Sim.as (slices_IndexFunc_Lapi_Tuple_api_Tuple_rtcp_values_1_l0_ok ?_ ?_ k x0 ((x0.length : Int)) 0 u0 hu0 (List.replicate 19 [] :: h) (S0.wk2 all_nil all_nil)) 
  · intro _u H22 S23
    refine Sim.ext (slices_IndexFunc_Lapi_Tuple_api_Tuple_a0_0 _ _ _ _) ?_
    exact Sim.fin (S23.finN (lv_cons (still_int _ _).lv lv_nil)) rfl
  · intro r24_4 H25 S26
    refine Sim.ext (slices_IndexFunc_Lapi_Tuple_api_Tuple_a0_ret _ _ _ _ _) ?_
    exact Sim.fin (S26.finN (lv_cons (still_int _ _).lv lv_nil)) rfl
end Go.Ev
/- Lifted by lift.py: slices_ContainsFunc_Lapi_Tuple_api_Tuple as a plain function. -/
namespace Go.Ev
open Go.Proofs
set_option linter.unusedVariables false
set_option linter.unusedSimpArgs false
set_option maxRecDepth 100000
def p_slices_ContainsFunc_Lapi_Tuple_api_Tuple_rtcp_values_1 (k : Nat) (x0 : (List T_api_Tuple)) : Option (Bool) :=
(p_slices_IndexFunc_Lapi_Tuple_api_Tuple_rtcp_values_1 k x0).bind fun r1 =>
some ((decide (r1 ≥ 0)))
theorem slices_ContainsFunc_Lapi_Tuple_api_Tuple_rtcp_values_1_ok (k : Nat) {h : H} {σ : Stamp} (x0 : List T_api_Tuple) {u0 : V} (hu0 : SlH h dT_api_Tuple x0 u0) : Sim (p_slices_ContainsFunc_Lapi_Tuple_api_Tuple_rtcp_values_1 k x0) (ev G X0 98 σ [u0, (.clo 99 [])] h) (fun r s => s = ([.v (.p (.bool r))], h)) := by
  refine Sim.ev rfl (Sim.ext (slices_ContainsFunc_Lapi_Tuple_api_Tuple_entry _ _ _ _ _ _) ?_)
  rw [p_slices_ContainsFunc_Lapi_Tuple_api_Tuple_rtcp_values_1]
  have S0 : Fm 9 h [] [] [] (List.replicate 9 [] :: h) := Fm.start0
  refine Sim.call (slices_IndexFunc_Lapi_Tuple_api_Tuple_rtcp_values_1_ok k x0 (S0.low hu0)) fun r1 cs2 H3 h4 q5 => ?_
  cases q5
  refine Sim.op (castI_p _ _) ?_
  exact Sim.fin (S0.finN (lv_cons (still_bool _).lv lv_nil)) rfl
end Go.Ev
/- Equations, printed by tracer2.py. -/
namespace Go.Ev
open Go.Proofs
set_option linter.unusedVariables false
set_option maxRecDepth 100000
-- 101 slices.ContainsFunc[[]int,int]
theorem slices_ContainsFunc_Lint_int_entry (rec : CallF) (loop : LoopV) (σ : Stamp) (x0 : V) (x1 : V) (h : H) : cvBody G rec loop 101 σ [x0, x1] h =
 (callO rec 136 (2 :: 0 :: 1 :: 0 :: σ) [x0, x1] (List.replicate 9 [] :: h) (some 7)).bind fun q1 =>
 (castI .i64 q1.1).bind fun n2 =>
 fin false σ q1.2 [(.p (.bool (decide (n2 ≥ 0))))] := by kernel_rfl
end Go.Ev
/- Equations, printed by tracer2.py. -/
namespace Go.Ev
open Go.Proofs
set_option linter.unusedVariables false
set_option maxRecDepth 100000
-- 136 slices.IndexFunc[[]int,int]
noncomputable def slices_IndexFunc_Lint_int_c0 : Code := (codeAt (bodyOf Try.f136) [1, 0, 1, 0, 0])
def slices_IndexFunc_Lint_int_l0 : Lv := ⟨0, 16, [(0, 0)]⟩
noncomputable def slices_IndexFunc_Lint_int_k0 (rec : CallF) (loop : LoopV) (σ : Stamp) : Exit → Env → H → Option (List C × H) := (kBlock 0 (kSeq G rec loop (codeAt (bodyOf Try.f136) [1, 1]) ⟨16, 16, []⟩ (1 :: 0 :: σ) (finC G false Try.f136 (1 :: σ))))
theorem slices_IndexFunc_Lint_int_entry (rec : CallF) (loop : LoopV) (σ : Stamp) (x0 : V) (x1 : V) (h : H) : cvBody G rec loop 136 σ [x0, x1] h =
 (lenO x0).bind fun t1 =>
 (castI .i64 t1).bind fun n2 =>
 (loop slices_IndexFunc_Lint_int_c0 slices_IndexFunc_Lint_int_l0 (1 :: 0 :: 1 :: 0 :: σ) (envL [(0, x0), (1, x1), (7, (.p (.int .i64 n2))), (8, (.p (.int .i64 0)))]) (List.replicate 19 [] :: h)).bind fun r3 => slices_IndexFunc_Lint_int_k0 rec loop σ r3.1 r3.2.1 r3.2.2 := by kernel_rfl
theorem slices_IndexFunc_Lint_int_r0 (rec : CallF) (loop : LoopV) (σ : Stamp) (x0 : V) (x1 : V) (x7 : Int) (x8 : Int) (h : H) : cvRound G rec loop slices_IndexFunc_Lint_int_c0 slices_IndexFunc_Lint_int_l0 σ (envL [(0, x0), (1, x1), (7, (.p (.int .i64 x7))), (8, (.p (.int .i64 x8)))]) h =
 bif decide (x8 < x7) then (
 (iS 1 x0 x8).bind fun t4 =>
 (ldO false 1 h t4).bind fun t5 =>
 (castI .i64 t5).bind fun n6 =>
 (cloO rec x1 (5 :: 0 :: 1 :: 0 :: 1 :: 1 :: 0 :: σ) [(.p (.int .i64 n6))] h (some 16)).bind fun q7 =>
 (asB q7.1).bind fun b8 =>
 bif b8 then (
 some (.ret, (envL [(4, (.p (.int .i64 x8)))]), q7.2))
 else (
 loop slices_IndexFunc_Lint_int_c0 slices_IndexFunc_Lint_int_l0 (1 :: σ) (envL [(0, x0), (1, x1), (7, (.p (.int .i64 x7))), (8, (.p (.int .i64 (IntKind.wrap .i64 (x8 + 1)))))]) q7.2))
 else (
 some ((.exit 0), (envL []), h)) := by kernel_rfl
theorem slices_IndexFunc_Lint_int_a0_0 (rec : CallF) (loop : LoopV) (σ : Stamp)  (h : H) : slices_IndexFunc_Lint_int_k0 rec loop σ (.exit 0) (envL []) h =
 fin false σ h [(.p (.int .i64 (-1)))] := by kernel_rfl
theorem slices_IndexFunc_Lint_int_a0_ret (rec : CallF) (loop : LoopV) (σ : Stamp) (x4 : Int) (h : H) : slices_IndexFunc_Lint_int_k0 rec loop σ .ret (envL [(4, (.p (.int .i64 x4)))]) h =
 fin false σ h [(.p (.int .i64 x4))] := by kernel_rfl
end Go.Ev
/- Equations, printed by tracer2.py. -/
namespace Go.Ev
open Go.Proofs
set_option linter.unusedVariables false
set_option maxRecDepth 100000
-- 102 limelight/rtcp.values$2
theorem rtcp_values_2_entry (rec : CallF) (loop : LoopV) (σ : Stamp) (x0 : Int) (h : H) : cvBody G rec loop 102 σ [(.p (.int .i64 x0))] h =
 (bif decide (x0 < 0) then (some true) else (some (decide (x0 > 255)))).bind fun b1 =>
 fin false σ (List.replicate 9 [] :: h) [(.p (.bool b1))] := by kernel_rfl
end Go.Ev
/- Lifted by lift.py: rtcp_values_2 as a plain function. -/
namespace Go.Ev
open Go.Proofs
set_option linter.unusedVariables false
set_option linter.unusedSimpArgs false
set_option maxRecDepth 100000
def p_rtcp_values_2 (x0 : Int) : Option (Bool) :=
(bif decide (x0 < 0) then (some true) else (some (decide (x0 > 255)))).bind fun b1 =>
some (b1)
theorem rtcp_values_2_ok {h : H} {σ : Stamp} (x0 : Int) : Sim (p_rtcp_values_2 x0) (ev G X0 102 σ [(.p (.int .i64 x0))] h) (fun r s => s = ([.v (.p (.bool r))], h)) := by
  refine Sim.ev rfl (Sim.ext (rtcp_values_2_entry _ _ _ _ _) ?_)
  rw [p_rtcp_values_2]
  have S0 : Fm 9 h [] [] [] (List.replicate 9 [] :: h) := Fm.start0
  refine Sim.ch (P := fun r y => r = y) ?_ (fun b1 y2 h3 h4 => ?_)
  · refine Sim.cd (fun hc => ?_) (fun hc => ?_)
    · exact Sim.ret rfl rfl
    · exact Sim.ret rfl rfl
  subst h4
  exact Sim.fin (S0.finN (lv_cons (still_bool _).lv lv_nil)) rfl
end Go.Ev
/- Lifted by lift.py: slices_IndexFunc_Lint_int as a plain function. -/
namespace Go.Ev
open Go.Proofs
set_option linter.unusedVariables false
set_option linter.unusedSimpArgs false
set_option maxRecDepth 100000
def p_slices_IndexFunc_Lint_int_rtcp_values_2_l0 {β : Type} (k : Nat) (kE0 : Unit → Option β) (kE1 : Int → Option β) (x0 : (List Int)) (x7 : Int) (x8 : Int) : Option β := match k with
| 0 => none
| k + 1 =>
bif decide (x8 < x7) then (
(ix x0 x8).bind fun a6 =>
(p_rtcp_values_2 a6).bind fun r9 =>
bif r9 then (
kE1 x8)
else (
p_slices_IndexFunc_Lint_int_rtcp_values_2_l0 k kE0 kE1 x0 x7 (IntKind.wrap .i64 (x8 + 1))))
else (
kE0 ())
def p_slices_IndexFunc_Lint_int_rtcp_values_2 (k : Nat) (x0 : (List Int)) : Option (Int) :=
p_slices_IndexFunc_Lint_int_rtcp_values_2_l0 k (fun (_ : Unit) =>
some ((-1))) (fun r22_4 =>
some (r22_4)) x0 ((x0.length : Int)) 0
theorem slices_IndexFunc_Lint_int_rtcp_values_2_l0_ok {h : H}  {β α : Type} {Q : β → α → Prop} {K : Exit × Env × H → Option α} {kE0 : Unit → Option β} {kE1 : Int → Option β} (hE0 : ∀ (_u : Unit) (H15 : Go.Ev.H) (_ : Fm 19 h [] [] [] H15), Sim (kE0 ()) (K ((.exit 0), (envL []), H15)) Q) (hE1 : ∀ (q4 : Int) (H17 : Go.Ev.H) (_ : Fm 19 h [] [] [] H17), Sim (kE1 q4) (K (.ret, (envL [(4, (.p (.int .i64 q4)))]), H17)) Q) (k : Nat) : ∀ (x0 : (List Int)) (x7 : Int) (x8 : Int) (v3 : V) (h4 : SlH h (dI .i64) x0 v3) (H1 : Go.Ev.H) (_ : Fm 19 h [] [] [] H1) {σ : Stamp}, Sim (p_slices_IndexFunc_Lint_int_rtcp_values_2_l0 k kE0 kE1 x0 x7 x8) ((cvL G X0 slices_IndexFunc_Lint_int_c0 slices_IndexFunc_Lint_int_l0 σ (envL [(0, v3), (1, (.clo 102 [])), (7, (.p (.int .i64 x7))), (8, (.p (.int .i64 x8)))]) H1).bind K) Q := by
  induction k with
  | zero => intros; exact Sim.no
  | succ k ih =>
    intro x0 x7 x8 v3 h4 H1 S2 σ
    rw [p_slices_IndexFunc_Lint_int_rtcp_values_2_l0]
    refine Sim.round (Sim.ext (slices_IndexFunc_Lint_int_r0 _ _ _ _ _ _ _ _) ?_)
    refine Sim.cd (fun hc5 => ?_) (fun hc5 => ?_)
    · refine Sim.bd fun a6 h7 => ?_
      refine Sim.op ((S2.low h4).iS h7 rfl) ?_
      obtain ⟨_, rfl, hE8⟩ := (S2.low h4).el h7 rfl
      refine Sim.op (hE8.ld (j := 0) rfl) ?_
      refine Sim.op (castI_p _ _) ?_
      refine Sim.clo ?_
      refine Sim.call (rtcp_values_2_ok a6) fun r9 cs10 H11 h12 q13 => ?_
      cases q13
      refine Sim.op (asB_p _) ?_
      refine Sim.cd (fun hc14 => ?_) (fun hc14 => ?_)
      · exact hE1 x8 H1 (S2.wk2 all_nil all_nil)
      exact ih x0 x7 (IntKind.wrap .i64 (x8 + 1)) v3 h4 H1 (S2.wk2 all_nil all_nil)
    exact hE0 () H1 (S2.wk2 all_nil all_nil)
theorem slices_IndexFunc_Lint_int_rtcp_values_2_ok (k : Nat) {h : H} {σ : Stamp} (x0 : List Int) {u0 : V} (hu0 : SlH h (dI .i64) x0 u0) : Sim (p_slices_IndexFunc_Lint_int_rtcp_values_2 k x0) (ev G X0 136 σ [u0, (.clo 102 [])] h) (fun r s => s = ([.v (.p (.int .i64 r))], h)) := by
  refine Sim.ev rfl (Sim.ext (slices_IndexFunc_Lint_int_entry _ _ _ _ _ _) ?_)
  rw [p_slices_IndexFunc_Lint_int_rtcp_values_2]
  have S0 : Fm 19 h [] [] [] (List.replicate 19 [] :: h) := Fm.start0
  refine Sim.op ((S0.low hu0).len) ?_
  refine Sim.op (castI_p _ _) ?_
  refine Sim.as (slices_IndexFunc_Lint_int_rtcp_values_2_l0_ok ?_ ?_ k x0 ((x0.length : Int)) 0 u0 hu0 (List.replicate 19 [] :: h) (S0.wk2 all_nil all_nil)) 
  · intro _u H20 S21
    refine Sim.ext (slices_IndexFunc_Lint_int_a0_0 _ _ _ _) ?_
    exact Sim.fin (S21.finN (lv_cons (still_int _ _).lv lv_nil)) rfl
  · intro r22_4 H23 S24
    refine Sim.ext (slices_IndexFunc_Lint_int_a0_ret _ _ _ _ _) ?_
    exact Sim.fin (S24.finN (lv_cons (still_int _ _).lv lv_nil)) rfl
end Go.Ev
