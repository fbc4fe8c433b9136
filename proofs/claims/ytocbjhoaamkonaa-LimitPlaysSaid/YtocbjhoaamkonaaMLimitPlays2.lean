/- A part of the proof that follows: What one can take is what the document says, for any calls. -/
import Derived.Test.YtocbjhoaamkonaaMLimitPlays1
import Derived.Laws.RangeAny
import Derived.Laws.Runes
import Derived.Shelf.Spec.SlicesInsertGrow
import Derived.Test.YtocbjhoaamkonaaRows
import Derived.ProofKit
import Derived.Tactics
import Derived.Tactics2
import Derived.StillTactics
import Derived.LoopTactic
import Derived.WalkKit
namespace Go.Ev
def Nq (c:C) (k:Nat):Prop:=c=.v (.p (.slice none 0 0))∨∃ s n ws,c=.arr s (n+1) k ws
def neO {α:Type} (xs:List α):Option Unit:=if xs.isEmpty then none else some ()
theorem Nq.nil {k:Nat}:Nq (.v (.p (.slice none 0 0))) k:=.inl rfl
theorem Nq.nn {c:C} {k:Nat} (h:Nq c k):Nn c k:=fun v e=>by
 rcases h with h | ⟨s,n,ws,h⟩
 ·rw [h] at e;cases e;exact .inl rfl
 ·rw [h] at e;cases e
theorem SlF.nil_len {α:Type} {d:Dt α} {xs:List α} {v:V} (h:SlF d xs v) (hv:v=.p (.slice none 0 0)∨v=.fz [] 0 d.sz true):xs=[]:=by
 obtain ⟨cs,h1,h2⟩:=h
 have h3:=(h1 []).len
 rcases hv with rfl | rfl
 ·exact List.eq_nil_of_length_eq_zero (Option.some.inj h3).symm
 ·exact List.eq_nil_of_length_eq_zero (Option.some.inj h3).symm
theorem Nq.mk {α:Type} {d:Dt α} {xs:List α} {c:C} {k:Nat} {u:Unit} (hS:SoC d xs c) (nt:Nn c k) (hk:d.sz=k) (hne:neO xs=some u):Nq c k:=by
 unfold neO at hne
 rcases hS with ⟨v,rfl,hv⟩ | ⟨s,ws,rfl,_⟩
 ·have:=hv.nil_len (by rw [hk];exact nt v rfl)
  subst this
  cases hne
 ·cases xs with
  | nil=>cases hne
  | cons x xs=>exact .inr ⟨s,xs.length,_,by rw [hk];rfl⟩
section
variable {N:Nat} {h0 Hp:H} {B:List Rt} {Γ:List (Nat×Stamp×List C)} {Δ:List Gw}
theorem Fm.expG (S:Fm N h0 B Γ Δ Hp) {i d:Nat} {s:Stamp} {cs:List C} (hi:Γ[i]?=some (d,s,cs)) (hf:(freeG (Γ.eraseIdx i) d&&freeD Δ d)=true) {frz:Bool} {τ:Stamp} :
  ∃ H',expF frz τ Hp (.ref ⟨h0.length,d,0,s,[]⟩ 0)=some (.own s cs,H')∧Fm N h0 B (Γ.eraseIdx i) Δ H':=by
 have S':Fm N h0 B (Γ.eraseIdx i) Δ Hp:=S.wk (fun _ h=>mem_erase h) (fun _ h=>h)
 obtain ⟨L,rfl,h2,h3,h4,h5⟩:=S
 have h6:=h4 _ (List.mem_of_getElem? hi)
 simp only at h6
 have hlt:=(List.getElem?_eq_some_iff.1 h6).1
 have ht:top (L::pts h0 B)=h0.length:=by simp [top,z2b]
 have hr:rootC (L::pts h0 B) ⟨h0.length,d,0,s,[]⟩=some (.own s cs):=by
  simp [rootC,z2b,h6]
 have ha:at_ (L::pts h0 B) ⟨h0.length,d,0,s,[]⟩=some (.own s cs):=by
  simp [at_,hr,find,C.node]
 refine ⟨L.set d [.dead]::pts h0 B,?_,zje S' hf [.dead]⟩
 have hs:setAt (L::pts h0 B) ⟨h0.length,d,0,s,[]⟩ .dead=L.set d [.dead]::pts h0 B:=by
  simp [setAt,hr,repl,z1o,z2b,h6]
 cases frz<;>simp only [expF,expC,ht,ha,hs,if_true]
theorem Fm.landG (S:Fm N h0 B Γ Δ Hp) {d:Nat} {s:Stamp} {cs:List C} (hd:d<N) (hf:(freeG Γ d&&freeD Δ d)=true) :
  ∃ H',Ev.land Hp (some d) [.own s cs]=(.ref ⟨h0.length,d,0,s,[]⟩ 0,H')∧Fm N h0 B ((d,s,cs)::Γ) Δ H':=by
 refine ⟨_,?_,S.add hd hf⟩
 obtain ⟨L,rfl,_⟩:=S
 simp [Ev.land,resVs,tupV,zd0,top,z2b]
end
theorem Dt.setL {α:Type} {d:Dt α} {xs zs:List α} {cs:List V} (q1:d.L xs cs) {k:Int} {old x:α} (ho:ix xs k=some old) (hz:stx xs k x=some zs) {off:Nat} {nv:List V} (hoff:off+nv.length≤d.sz)
  (hx:∀ ws,d.R old ws→d.R x (ws.take off++nv++ws.drop (off+nv.length))):d.L zs (cs.take (k.toNat*d.sz+off)++nv++cs.drop (k.toNat*d.sz+off+nv.length))∧k.toNat*d.sz+off+nv.length≤cs.length:=by
 obtain ⟨⟨hk0,hk1⟩,rfl⟩:=zgv hz
 have hcl:=RL.length (fun h=>d.len h) q1
 obtain ⟨_,hix,hold⟩:=zmn ho
 obtain ⟨ws,hR,hw⟩:=RL.get (fun h=>d.len h) q1 hix
 rw [hold] at hR
 have hwl:=d.len hR
 have hin:k.toNat*d.sz+d.sz≤cs.length:=by
  have:=Nat.mul_le_mul_right d.sz (Nat.succ_le_of_lt hix)
  rw [Nat.succ_mul] at this;omega
 refine ⟨?_,by omega⟩
 have:=RL.set (k:=d.sz) (fun h=>d.len h) (i:=k.toNat) (y:=x) q1 hix (hx ws hR)
 have hsplit:cs=cs.take (k.toNat*d.sz)++(ws++cs.drop (k.toNat*d.sz+d.sz)):=by
  rw [← hw,← List.drop_drop,List.take_append_drop,List.take_append_drop]
 have hA:(cs.take (k.toNat*d.sz)).length=k.toNat*d.sz:=by rw [List.length_take];omega
 generalize cs.take (k.toNat*d.sz)=A at hsplit hA this
 generalize cs.drop (k.toNat*d.sz+d.sz)=Bc at hsplit this
 rw [hsplit]
 rw [List.take_append,List.take_append,List.drop_append,List.drop_append,hA,hwl]
 rw [List.take_of_length_le (l:=A) (by omega),List.drop_of_length_le (l:=A) (by omega)]
 have t1:k.toNat*d.sz+off-k.toNat*d.sz=off:=by omega
 have t2:k.toNat*d.sz+off+nv.length-k.toNat*d.sz=off+nv.length:=by omega
 have t3:off-d.sz=0:=by omega
 have t4:off+nv.length-d.sz=0:=by omega
 rw [t1,t2,t3,t4,List.take_zero,List.drop_zero,List.append_nil,List.nil_append]
 simp only [List.append_assoc] at this ⊢
 exact this
theorem Dt.whole {α:Type} {d:Dt α} {old x:α} {nv:List V} {n:Nat} (hR:d.R x nv) (hn:d.sz=n):∀ ws,d.R old ws→d.R x (ws.take 0++nv++ws.drop (0+n)):=fun ws hw=>by
 have:=d.len hw
 rw [List.take_zero,List.nil_append,Nat.zero_add,List.drop_of_length_le (by omega),List.append_nil]
 exact hR
theorem zt7 {Hp:H} {l:Loc} {off0 j:Nat} {cs0:List C} {c:C} {α:Type} {d:Dt α} {xs zs:List α} {own:Bool} {σ:Stamp} {k:Int} {old x:α} {nv:List V} {xv:V} {n e off:Nat} (ha:AtC Hp l off0 cs0) (hj:cs0[j]?=some c) (hS:SoC d xs c) (nt:Nn c e)
  (ho:ix xs k=some old) (hz:stx xs k x=some zs) (he:d.sz=e) (hn:nv.length=n) (hoff:off+n≤e) (hst:StN xv nv) (hx:∀ ws,d.R old ws→d.R x (ws.take off++nv++ws.drop (off+n))) :
  ∃ c',stO own n σ Hp (adr (cellV l (off0+j) c) (k.toNat*e+off)) xv=some (ptC Hp l off0 (cs0.set j c'))∧SoC d zs c'∧Nq c' e:=by
 subst he;subst hn
 obtain ⟨⟨hk0,hk1⟩,hzs⟩:=zgv hz
 rcases hS with ⟨v,rfl,hv⟩ | ⟨s,ws,rfl,hl⟩
 ·have:=hv.nil_len (nt v rfl)
  subst this
  simp only [List.length_nil] at hk1;omega
 ·obtain ⟨hL,hle⟩:=Dt.setL hl ho hz hoff hx
  have hA:=ha.hop hj (s:=s) (ds:=ws.map .v) (by simp [C.node])
  obtain ⟨p,q,hnd,hp⟩:=hA
  have hp0:p=[]:=List.eq_nil_of_length_eq_zero hp
  subst hp0
  have e1:=hst own σ Hp (l.hop (off0+j) s) _ (k.toNat*d.sz+off) hnd (by simp only [List.nil_append,List.length_append,List.length_map];omega)
  have hlen:(ws.take (k.toNat*d.sz+off)++nv++ws.drop (k.toNat*d.sz+off+nv.length)).length=ws.length:=by
   simp only [List.length_append,List.length_take,List.length_drop];omega
  have hpt:=ha.hop_pt hj (s:=s) (ds:=ws.map .v) (ds':=(ws.take (k.toNat*d.sz+off)++nv++ws.drop (k.toNat*d.sz+off+nv.length)).map .v) (by simp [C.node]) (by simp only [List.length_map];exact hlen)
  refine ⟨.arr s xs.length d.sz ((ws.take (k.toNat*d.sz+off)++nv++ws.drop (k.toNat*d.sz+off+nv.length)).map .v),?_,.inr ⟨s,_,?_,hL⟩,?_⟩
  ·show stO own nv.length σ Hp (.ref (l.hop (off0+j) s) (0+(k.toNat*d.sz+off))) xv=_
   rw [Nat.zero_add,e1]
   congr 1
   refine Eq.trans ?_ hpt
   rw [ptC_eq (off:=0) (p:=[]) (cs:=ws.map .v) (cs':=(ws.take (k.toNat*d.sz+off)++nv++ws.drop (k.toNat*d.sz+off+nv.length)).map .v) hnd rfl (by simp only [List.length_map];exact hlen)]
   congr 1
   simp only [List.nil_append,List.map_append,List.map_take,List.map_drop]
   rw [List.take_append_of_le_length (by simp only [List.length_map];omega),List.drop_append_of_le_length (by simp only [List.length_map];omega)]
   simp only [List.append_assoc]
  ·rw [hzs,List.length_set]
  ·obtain ⟨m,hm⟩:∃ m,xs.length=m+1:=⟨xs.length-1,by omega⟩
   exact .inr ⟨s,m,_,by rw [hm]⟩
section
variable {N:Nat} {h0 Hp:H} {B:List Rt} {Γ:List (Nat×Stamp×List C)} {Δ:List Gw}
theorem Fm.seB (S:Fm N h0 B Γ Δ Hp) {i off0 j:Nat} {l:Loc} {cs0:List C} {c:C} {α:Type} {d:Dt α} {xs zs:List α} {own:Bool} {σ:Stamp} {k:Int} {old x:α} {nv:List V} {xv:V} {n e off:Nat} (hi:B[i]?=some ⟨l,off0,cs0⟩) (hj:cs0[j]?=some c) (hS:SoC d xs c) (nt:Nn c e)
  (ho:ix xs k=some old) (hz:stx xs k x=some zs) (he:d.sz=e) (hn:nv.length=n) (hoff:off+n≤e) (hst:StN xv nv) (hx:∀ ws,d.R old ws→d.R x (ws.take off++nv++ws.drop (off+n))) :
  ∃ c' H',stO own n σ Hp (adr (cellV l (off0+j) c) (k.toNat*e+off)) xv=some H'∧SoC d zs c'∧Nq c' e∧Fm N h0 (B.set i ⟨l,off0,cs0.set j c'⟩) Γ Δ H':=by
 obtain ⟨c',e1,h1,h2⟩:=zt7 (own:=own) (σ:=σ) (S.atB hi) hj hS nt ho hz he hn hoff hst hx
 exact ⟨c',_,e1,h1,h2,S.setB hi (by simp)⟩
end
end Go.Ev
namespace Go.Ev
theorem lo_nil {H:Ev.H}:layCs true H []=some (([]:List C),H):=rfl
theorem lo_pl {H H':Ev.H} {x:V} {xs:List V} {cs:List C} (hx:Still x) (t:layCs true H xs=some (cs,H')):layCs true H (x::xs)=some (.v x::cs,H'):=by
 simp only [layCs,hx.lay,Option.bind_some,t]
theorem lo_ow {H H1 H':Ev.H} {x:V} {c:C} {xs:List V} {cs:List C} (hx:layC true H x=some (c,H1)) (t:layCs true H1 xs=some (cs,H')):layCs true H (x::xs)=some (c::cs,H'):=by
 simp only [layCs,hx,Option.bind_some,t]
section
variable {N:Nat} {h0 Hp:H} {B:List Rt} {Γ:List (Nat×Stamp×List C)} {Δ:List Gw}
theorem Fm.boxL {H1:Ev.H} (S:Fm N h0 B Γ Δ H1) {d:Nat} {s:Stamp} {xs:List V} {cs:List C} (e:layCs true Hp xs=some (cs,H1)) (hd:d<N) (hf:(freeG Γ d&&freeD Δ d)=true) :
  ∃ H',boxO true s d Hp (.agg xs)=some (.ref ⟨h0.length,d,0,s,[]⟩ 0,H')∧Fm N h0 B ((d,s,cs)::Γ) Δ H' :=
 ⟨_,by unfold boxO;rw [show (V.agg xs).cells=xs from rfl,e];simp only [Option.bind_some];rw [S.newLoc],S.add hd hf⟩
end
end Go.Ev
namespace Go.Ev
def SlU {α:Type} (m:Nat) (h:H) (d:Dt α) (xs:List α) (v:V):Prop:=m≤h.length∧SlH (h.drop (h.length-m)) d xs v
theorem SlH.ups {α:Type} {d:Dt α} {xs:List α} {v:V}:∀ (k:Nat) {h:H},SlH (h.drop k) d xs v→SlH h d xs v
 | 0,_,hv=>hv
 | k+1,[],hv=>by simpa using hv
 | k+1,L::h,hv=>by
  obtain ⟨cs,q1,q2⟩:=SlH.ups k (h:=h) (by simpa using hv)
  exact ⟨cs,q1.up L,q2⟩
theorem SlU.sl {α:Type} {m:Nat} {h:H} {d:Dt α} {xs:List α} {v:V} (hu:SlU m h d xs v):SlH h d xs v:=SlH.ups _ hu.2
theorem SlH.cells {α:Type} {h:H} {d:Dt α} {xs:List α} {v:V} (hv:SlH h d xs v):v.cells=[v]:=by
 obtain ⟨cs,q1,_⟩:=hv
 rcases q1.cases with ⟨rfl,_,_⟩ | ⟨t,rfl⟩ | ⟨l,off,av,ds,rfl,_⟩<;>rfl
section
variable {N:Nat} {h0 Hp:H} {B:List Rt} {Γ:List (Nat×Stamp×List C)} {Δ:List Gw} {α:Type} {d:Dt α} {xs:List α} {v:V} {m:Nat}
end
end Go.Ev
namespace Go.Ev
def WL (l:Loc) (off:Nat) {α:Type} (d:Dt α) (xs:List α) (v:V) (cs:List C):Prop:=∃ ws a,cs=ws.map .v∧d.L xs ws∧v=.sl l off xs.length a d.sz∧xs.length≤a
theorem WL.len {l:Loc} {off:Nat} {α:Type} {d:Dt α} {xs:List α} {v:V} {cs:List C} (h:WL l off d xs v cs):cs.length=xs.length*d.sz:=by
 obtain ⟨ws,a,rfl,h2,_⟩:=h
 rw [List.length_map];exact RL.length (fun h=>d.len h) h2
theorem WL.same {l:Loc} {off:Nat} {α:Type} {d:Dt α} {xs ys:List α} {v:V} {cs cs':List C} (h:WL l off d xs v cs) (h':WL l off d ys v cs'):cs'.length=cs.length:=by
 rw [h.len,h'.len]
 obtain ⟨_,_,_,_,e,_⟩:=h
 obtain ⟨_,_,_,_,e',_⟩:=h'
 rw [e] at e'
 injection e' with _ _ e1
 rw [e1]
theorem WL.sl {H:Ev.H} {l:Loc} {off:Nat} {α:Type} {d:Dt α} {xs:List α} {v:V} {cs:List C} (ha:AtC H l off cs) (h:WL l off d xs v cs):SlH H d xs v:=by
 have hlen:=h.len
 obtain ⟨ws,a,rfl,h2,rfl,h4⟩:=h
 obtain ⟨p,q,hn,hp⟩:=ha
 refine ⟨ws,.mk_sl hn (by simp only [List.length_append,hlen];omega) ?_ h4,h2⟩
 rw [← hlen,← hp,List.append_assoc,List.drop_left,List.take_left,z9v]
theorem AtC.stN {H:Ev.H} {l:Loc} {off:Nat} {cs:List V} (ha:AtC H l off (cs.map .v)) {own:Bool} {σ:Stamp} {x:V} {nv:List V} {j:Nat} (hst:StN x nv) (hj:j+nv.length≤cs.length) :
  stO own nv.length σ H (.ref l (off+j)) x=some (ptC H l off ((cs.take j++nv++cs.drop (j+nv.length)).map .v)):=by
 obtain ⟨p,q,hn,hp⟩:=ha
 rw [hst own σ H l _ (off+j) hn (by simp only [List.length_append,List.length_map];omega),ptC_eq hn hp (by simp only [List.length_map,List.length_append,List.length_take,List.length_drop];omega)]
 congr 2
 simp only [List.map_append,List.map_take,List.map_drop]
 rw [List.append_assoc p,List.take_append,List.take_of_length_le (l:=p) (by omega),List.drop_append,List.drop_of_length_le (l:=p) (by omega),List.nil_append,hp,Nat.add_sub_cancel_left,Nat.add_assoc,Nat.add_sub_cancel_left,List.take_append_of_le_length (by simp only [List.length_map];omega),List.drop_append_of_le_length (by simp only [List.length_map];omega)]
 simp only [List.append_assoc]
def KN (v:V) (l:Loc):Prop:=∀ l' o n a e,v=.sl l' o n a e→l'.key≠l.key
section
variable {N:Nat} {h0 Hp:H} {B:List Rt} {Γ:List (Nat×Stamp×List C)} {Δ:List Gw} {α:Type} {d:Dt α} {xs zs:List α} {v:V}
theorem Fm.slW (S:Fm N h0 B Γ Δ Hp) {i off:Nat} {l:Loc} {cs:List C} (hi:B[i]?=some ⟨l,off,cs⟩) (hw:WL l off d xs v cs):SlH Hp d xs v:=hw.sl (S.atB hi)
theorem Fm.setW (S:Fm N h0 B Γ Δ Hp) {i o n off e:Nat} {l:Loc} {cs:List C} {own:Bool} {σ:Stamp} {k:Int} {old x:α} {nv:List V} {xv:V} (hi:B[i]?=some ⟨l,off,cs⟩) (hw:WL l off d xs v cs)
  (ho:ix xs k=some old) (hz:stx xs k x=some zs) (he:d.sz=e) (hn:nv.length=n) (hoff:o+n≤e) (hst:StN xv nv) (hx:∀ ws,d.R old ws→d.R x (ws.take o++nv++ws.drop (o+n))) :
  ∃ cs' H',stO own n σ Hp (adr v (k.toNat*e+o)) xv=some H'∧WL l off d zs v cs'∧Fm N h0 (B.set i ⟨l,off,cs'⟩) Γ Δ H':=by
 subst he;subst hn
 obtain ⟨_,hzs⟩:=zgv hz
 obtain ⟨ws,a,rfl,h2,rfl,h4⟩:=hw
 obtain ⟨hL,hle⟩:=Dt.setL h2 ho hz hoff hx
 have ha:=S.atB hi
 have e1:=ha.stN (own:=own) (σ:=σ) hst hle
 have hlen:(ws.take (k.toNat*d.sz+o)++nv++ws.drop (k.toNat*d.sz+o+nv.length)).length=ws.length:=by
  simp only [List.length_append,List.length_take,List.length_drop];omega
 exact ⟨_,_,e1,⟨_,a,rfl,hL,by rw [hzs,List.length_set],by rw [hzs,List.length_set];exact h4⟩,S.setB (cs:=(ws.take (k.toNat*d.sz+o)++nv++ws.drop (k.toNat*d.sz+o+nv.length)).map .v) hi (by simp only [List.length_map];exact hlen)⟩
theorem zsq {l:Loc} {off j e:Nat} {cs:List C} {c:C} {u:Unit} (ha:AtC Hp l off cs) (hj:cs[j]?=some c) (hS:SoC d xs c) (nt:Nn c e) (he:d.sz=e) (hne:neO xs=some u) :
  ∃ l' w,WL l' 0 d xs (cellV l (off+j) c) w∧AtC Hp l' 0 w∧(∃ s,l'=l.hop (off+j) s)∧∀ zs w',WL l' 0 d zs (cellV l (off+j) c) w'→∃ c',SoC d zs c'∧Nq c' e∧pts Hp [⟨l',0,w'⟩]=ptC Hp l off (cs.set j c'):=by
 subst he
 rcases hS with ⟨v,rfl,hv⟩ | ⟨s,ws,rfl,hl⟩
 ·have:=hv.nil_len (nt v rfl)
  subst this
  cases hne
 ·have hnode:(C.arr s xs.length d.sz (ws.map .v)).node s=some (ws.map .v):=by simp [C.node]
  refine ⟨l.hop (off+j) s,ws.map .v,⟨ws,xs.length,rfl,hl,rfl,Nat.le_refl _⟩,ha.hop hj hnode,⟨s,rfl⟩,fun zs w' hw=>?_⟩
  have hw':=hw
  obtain ⟨ws',a,rfl,h2,h3,h4⟩:=hw
  have hlen:zs.length=xs.length:=by
   simp only [cellV,toV,Option.getD_some] at h3
   injection h3 with _ _ e1
   exact e1.symm
  have hcl:(ws'.map C.v).length=(ws.map C.v).length:=by
   rw [List.length_map,List.length_map,RL.length (fun h=>d.len h) h2,RL.length (fun h=>d.len h) hl,hlen]
  refine ⟨.arr s zs.length d.sz (ws'.map .v),.inr ⟨s,ws',rfl,h2⟩,?_,?_⟩
  ·cases xs with
   | nil=>cases hne
   | cons x xs=>exact .inr ⟨s,xs.length,_,by rw [hlen];rfl⟩
  ·show ptC Hp (l.hop (off+j) s) 0 (ws'.map .v)=_
   rw [ha.hop_pt hj hnode hcl,hlen]
   simp [C.withNode]
theorem Fm.lendB (S:Fm N h0 B Γ Δ Hp) {i j e off:Nat} {l:Loc} {cs:List C} {c:C} {u:Unit} (hi:B[i]?=some ⟨l,off,cs⟩) (hj:cs[j]?=some c) (hS:SoC d xs c) (nt:Nn c e) (he:d.sz=e) (hne:neO xs=some u) :
  ∃ l' w,WL l' 0 d xs (cellV l (off+j) c) w∧AtC Hp l' 0 w∧l'.key=l.key∧∀ zs w',WL l' 0 d zs (cellV l (off+j) c) w'→∃ c',SoC d zs c'∧Nq c' e∧Fm N h0 (B.set i ⟨l,off,cs.set j c'⟩) Γ Δ (pts Hp [⟨l',0,w'⟩]):=by
 obtain ⟨l',w,h1,h2,⟨s,h3⟩,h4⟩:=zsq (S.atB hi) hj hS nt he hne
 refine ⟨l',w,h1,h2,by rw [h3];rfl,fun zs w' hw=>?_⟩
 obtain ⟨c',q1,q2,q3⟩:=h4 zs w' hw
 exact ⟨c',q1,q2,by rw [q3];exact S.setB (cs:=cs.set j c') hi (by simp)⟩
theorem Fm.lowN (S:Fm N h0 B Γ Δ Hp) (hB:∀ r∈B,KN v r.l) (hu:SlH h0 d xs v):SlH Hp d xs v:=by
 obtain ⟨L,rfl,_,h3,_⟩:=S
 obtain ⟨ws,q1,q2⟩:=hu
 refine SlH.ups 1 (h:=L::pts h0 B) ⟨ws,?_,q2⟩
 show IsSl (pts h0 B) _ _ _ _
 rcases q1.cases with ⟨rfl,h1,h2⟩ | ⟨t,rfl⟩ | ⟨l,off,av,ds,rfl,hn,hl,hv,hav⟩
 ·rw [h1,h2];exact .nil _ _
 ·exact Fz.fz q1.clen t _
 ·have ha:AtC h0 l 0 ds:=⟨[],[],by simpa using hn,rfl⟩
  have:∀ (B:List Rt),(∀ r∈B,KN (.sl l off xs.length av d.sz) r.l)→AtC (pts h0 B) l 0 ds:=by
   intro B
   induction B with
   | nil=>intro _;exact ha
   | cons r rs ih=>intro hB;exact (ih fun q hq=>hB q (List.mem_cons_of_mem _ hq)).frame (Ne.symm (hB r (List.mem_cons_self ..) _ _ _ _ _ rfl))
  obtain ⟨p,q,hn',hp⟩:=this B hB
  have hp0:p=[]:=List.length_eq_zero_iff.1 hp
  subst hp0
  refine .mk_sl hn' (by simp only [List.nil_append,List.length_append];omega) ?_ hav
  rw [List.nil_append,List.drop_append_of_le_length (by omega),List.take_append_of_le_length (by rw [List.length_drop];omega)]
  exact hv
theorem KN.of_low (hu:SlH h0 d xs v) {l:Loc} (hl:h0.length≤l.lvl):KN v l:=fun l' o n a e hv=>by
 obtain ⟨ws,q1,_⟩:=hu
 rcases q1.cases with ⟨rfl,_,_⟩ | ⟨t,rfl⟩ | ⟨l2,off,av,ds,rfl,hn,_⟩
 ·cases hv
 ·cases hv
 ·injection hv with e1
  subst e1
  have:=nd_lt hn
  intro hk
  simp only [Loc.key,Prod.mk.injEq] at hk
  omega
theorem KN.key {l l':Loc} (hk:KN v l) (he:l'.key=l.key):KN v l':=fun _ _ _ _ _ hv=>by rw [he];exact hk _ _ _ _ _ hv
theorem KN.frz (hv:SlF d xs v) {l:Loc}:KN v l:=fun l' o n a e hv'=>by
 subst hv'
 obtain ⟨ws,q1,_⟩:=hv
 rcases (q1 []).cases with ⟨h,_,_⟩ | ⟨t,h⟩ | ⟨l2,off,av,ds,h,hn,_⟩
 ·cases h
 ·cases h
 ·have:=nd_lt hn
  simp at this
end
end Go.Ev
namespace Go.Ev
section
variable {N:Nat} {h0 Hp:H} {B:List Rt} {Γ:List (Nat×Stamp×List C)} {Δ:List Gw} {α:Type} {d:Dt α} {xs zs:List α} {v:V}
theorem Fm.setWA (S:Fm N h0 B Γ Δ Hp) {i off e:Nat} {l:Loc} {cs:List C} {own:Bool} {σ:Stamp} {k:Int} {x:α} {nv:List V} {xv:V} (hi:B[i]?=some ⟨l,off,cs⟩) (hw:WL l off d xs v cs)
  (hz:stx xs k x=some zs) (he:d.sz=e) (hst:StN xv nv) (hR:d.R x nv) (hn:nv.length=e) :
  ∃ cs' H',stO own e σ Hp (adr v (k.toNat*e)) xv=some H'∧WL l off d zs v cs'∧Fm N h0 (B.set i ⟨l,off,cs'⟩) Γ Δ H':=by
 subst he
 obtain ⟨⟨hk0,hk1⟩,_⟩:=zgv hz
 have ho:ix xs k=some (xs[k.toNat]'(by omega)):=by
  unfold ix
  rw [if_pos hk0,List.getElem?_eq_getElem (by omega)]
 have:=S.setW (own:=own) (σ:=σ) (o:=0) hi hw ho hz rfl hn (by omega) hst (Dt.whole hR rfl)
 rw [Nat.add_zero] at this
 exact this
end
end Go.Ev
namespace Go.Ev
section
variable {N:Nat} {h0 Hp:H} {B:List Rt} {Γ:List (Nat×Stamp×List C)} {Δ:List Gw}
theorem Fm.ltB (S:Fm N h0 B Γ Δ Hp) {i:Nat} {r:Rt} (hi:B[i]?=some r):r.l.lvl<h0.length:=by
 obtain ⟨L,rfl,h2,h3,h4,h5⟩:=S
 have:=(h3.at hi).lt
 rwa [z2b] at this
end
end Go.Ev
namespace Go.Ev
section
variable {N:Nat} {h0 Hp:H} {B:List Rt} {Γ:List (Nat×Stamp×List C)} {Δ:List Gw}
end
end Go.Ev
namespace Go.Ev
def del {α:Type} (xs:List α) (i j:Int):Option (List α):=if 0≤i∧i<j∧j≤xs.length then some (xs.take i.toNat++xs.drop j.toNat) else none
def zjb (G:Cfg) (e b t N:Nat) (τ:Stamp) (d:Nat) (σ:Stamp) (x:V) (i j:Int) (h:H):Option (List C×H) :=
 (lenO x).bind fun t1=>(castI .i64 t1).bind fun n2=>(slS e x (some i) (some j) (some n2)).bind fun _=>bif i==j then (fin false σ (List.replicate N []::h) [x]) else ((lenO x).bind fun t4=>(castI .i64 t4).bind fun n5=>(slS e x none (some i) none).bind fun t6=>(slS e x (some j) none none).bind fun t7=>(apO false e b τ d (List.replicate N []::h) t6 t7).bind fun q8=>(lenO q8.1).bind fun t9=>(castI .i64 t9).bind fun n10=>(slS e q8.1 (some n10) (some n5) none).bind fun t11=>(clearV G q8.2 t t11).bind fun q12=>fin false σ q12.2 [q8.1])
theorem zh4 {α:Type} (z:List α):∀ n:Nat,(rept n z).length=n*z.length
 | 0=>by simp [rept]
 | n+1=>by simp only [rept,List.length_append,zh4 z n,Nat.succ_mul];omega
theorem zfx {z:List V} (hz:Stills z):∀ n:Nat,Stills (rept n z)
 | 0=>sN
 | n+1=>fun x hx=>by
  simp only [rept,List.mem_append] at hx
  rcases hx with hx | hx
  ·exact hz x hx
  ·exact zfx hz n x hx
theorem over3 {A R Z:List V} {m:Nat} (hA:A.length=m) (hR:R.length=Z.length):(A++R).take m++Z++(A++R).drop (m+Z.length)=A++Z:=by
 subst hA
 rw [List.take_append_of_le_length (Nat.le_refl _),List.take_of_length_le (Nat.le_refl _),← List.drop_drop,List.drop_left,List.drop_of_length_le (by omega),List.append_nil]
theorem zun {G:Cfg} {e b t te N d n i j:Nat} {τ σ:Stamp} {L:Loc} {z ws:List V} {h:H} (hn:nd h L=some (ws.map .v)) (hw:ws.length=n*e) (hst:Stills ws) (he:e≠0) (hij:i<j) (hjn:j≤n)
  (ht:telem G.P t=some te) (hz:tzero G.P te=some z) (hzl:z.length=e) (hts:tsize G.P te=e) (hzs:Stills z) :
  ∃ W:List V,W.length=n*e∧W.take ((i+(n-j))*e)=ws.take (i*e)++ws.drop (j*e)∧zjb G e b t N τ d σ (.sl L 0 n n e) i j h=some ([.v (.sl L 0 (i+(n-j)) n e)],setNd h L (W.map .v)):=by
 have hlt:=nd_lt hn
 have hnu:=nd_up hn (List.replicate N [])
 have m1:i*e≤n*e:=Nat.mul_le_mul_right e (by omega)
 have m2:j*e≤n*e:=Nat.mul_le_mul_right e hjn
 have m3:(n-j)*e=n*e-j*e:=Nat.sub_mul ..
 have m4:(i+(n-j))*e=i*e+(n*e-j*e):=by rw [Nat.add_mul,m3]
 have m5:(j-i)*e=j*e-i*e:=Nat.sub_mul ..
 have m6:i*e≤j*e:=Nat.mul_le_mul_right e (by omega)
 have ap:apO false e b τ d (List.replicate N []::h) (.sl L 0 i n e) (.sl L (j*e) (n-j) (n-j) e)=some (.sl L 0 (i+(n-j)) n e,List.replicate N []::setNd h L ((ws.take (i*e)++ws.drop (j*e)++ws.drop (i*e+(n*e-j*e))).map .v)):=by
  have hc:cellsOf (List.replicate N []::h) (.sl L (j*e) (n-j) (n-j) e)=some (ws.drop (j*e)):=by
   simp only [cellsOf,hnu,Option.bind_some]
   unfold rng
   rw [if_pos (by rw [List.length_map];omega)]
   simp only [Option.bind_some]
   rw [List.take_of_length_le (by rw [List.length_drop,List.length_map];omega),← List.map_drop,z9v]
  unfold apO
  rw [hc]
  simp only [lenOf,Option.bind_some,List.length_drop]
  rw [if_neg (by omega)]
  by_cases h0:n-j=0
  ·have hj:j=n:=by omega
   subst hj
   rw [if_pos h0]
   simp only [isSl,if_true,h0,Nat.add_zero]
   congr 2
   have e1:ws.drop (j*e)=[]:=List.drop_of_length_le (by omega)
   rw [Nat.sub_self,e1,List.append_nil,Nat.add_zero,List.take_append_drop,ze7 hn]
  ·rw [if_neg h0,z4h false _ (fun x hx=>hst x (List.mem_of_mem_drop hx))]
   simp only [Option.bind_some,apTo,hnu]
   rw [if_neg (by simp),if_pos ⟨by omega,by rw [List.length_map,List.length_map,List.length_drop];omega⟩,zkt hn]
   congr 4
   simp only [List.map_append,List.map_take,List.map_drop,Nat.zero_add,List.length_map,List.length_drop,hw]
 have nd1:=zer hn ((ws.take (i*e)++ws.drop (j*e)++ws.drop (i*e+(n*e-j*e))).map .v)
 have nd1u:=nd_up nd1 (List.replicate N [])
 have l1:(ws.take (i*e)++ws.drop (j*e)++ws.drop (i*e+(n*e-j*e))).length=n*e:=by
  simp only [List.length_append,List.length_take,List.length_drop];omega
 have l2:(ws.take (i*e)++ws.drop (j*e)).length=(i+(n-j))*e:=by
  simp only [List.length_append,List.length_take,List.length_drop];omega
 have lz:(rept (n-(i+(n-j))) z).length=(n-(i+(n-j)))*e:=by rw [zh4,hzl]
 have m7:(n-(i+(n-j)))*e=j*e-i*e:=by rw [show n-(i+(n-j))=j-i by omega,m5]
 have cl:clearV G (List.replicate N []::setNd h L ((ws.take (i*e)++ws.drop (j*e)++ws.drop (i*e+(n*e-j*e))).map .v)) t (.sl L ((i+(n-j))*e) (n-(i+(n-j))) (n-(i+(n-j))) e)=some (.tup [],List.replicate N []::setNd h L ((ws.take (i*e)++ws.drop (j*e)++rept (n-(i+(n-j))) z).map .v)):=by
  unfold clearV
  rw [ht]
  simp only [Option.bind_some,hz,lenOf,isSl,hzl,hts,eszIs,beq_self_eq_true,if_true,Bool.not_true,Bool.false_eq_true,if_false,ne_eq,not_true_eq_false]
  rw [if_neg (by omega)]
  simp only [overV]
  rw [if_neg (by omega),z4h true _ (zfx hzs _)]
  simp only [Option.bind_some,nd1u]
  rw [if_pos (by rw [List.length_map,List.length_map,l1,lz];omega),zkt nd1,zk4 hn]
  simp only [Option.map_some]
  congr 4
  rw [List.length_map,← List.map_take,← List.map_drop,← List.map_append,← List.map_append]
  congr 1
  exact over3 l2 (by rw [lz,List.length_drop];omega)
 refine ⟨ws.take (i*e)++ws.drop (j*e)++rept (n-(i+(n-j))) z,by rw [List.length_append,l2,lz];omega,?_,?_⟩
 ·rw [← l2,List.take_append_of_le_length (Nat.le_refl _),List.take_of_length_le (Nat.le_refl _)]
 ·unfold zjb
  have s1:slS e (.sl L 0 n n e) (some (i:Int)) (some (j:Int)) (some (n:Int))=some (if n=i then .fz [] 0 e true else .sl L (0+i*e) (j-i) (n-i) e):=by
   simp only [slS,bI,Option.isSome_some,true_and]
   rw [if_neg (by simp),if_pos ⟨by omega,by omega⟩]
   simp only [Option.bind_some,Int.toNat_natCast]
   rw [if_pos ⟨by omega,by omega⟩]
   simp only [Option.bind_some]
   rw [if_pos ⟨by omega,by omega⟩]
   simp only [Option.bind_some]
   split<;>rfl
  have s2:slS e (.sl L 0 n n e) none (some (i:Int)) none=some (.sl L 0 i n e):=by
   simp only [slS,bI,Option.isSome_none,Bool.false_eq_true,false_and,if_false]
   rw [if_neg (by simp)]
   simp only [Option.bind_some,Int.toNat_natCast]
   rw [if_pos ⟨by omega,by omega⟩]
   simp
  have s3:slS e (.sl L 0 n n e) (some (j:Int)) none none=some (.sl L (j*e) (n-j) (n-j) e):=by
   simp only [slS,bI,Option.isSome_none,Bool.false_eq_true,false_and,if_false]
   rw [if_neg (by simp)]
   simp only [Option.bind_some,Int.toNat_natCast]
   rw [if_pos ⟨by omega,by omega⟩]
   simp
  have s4:slS e (.sl L 0 (i+(n-j)) n e) (some ((i+(n-j):Nat):Int)) (some (n:Int)) none=some (.sl L ((i+(n-j))*e) (n-(i+(n-j))) (n-(i+(n-j))) e):=by
   simp only [slS,bI,Option.isSome_none,Bool.false_eq_true,false_and,if_false]
   rw [if_neg (by simp)]
   simp only [Option.bind_some,Int.toNat_natCast]
   rw [if_pos ⟨by omega,by omega⟩]
   simp only [Option.bind_some]
   rw [if_pos ⟨by omega,by omega⟩]
   simp
  have hne:((i:Int)==(j:Int))=false:=beq_eq_false_iff_ne.2 (by omega)
  have ln:∀ m a o:Nat,lenO (.sl L o m a e)=some (.p (.int .i64 (m:Int))):=fun _ _ _=>rfl
  simp only [ln,Option.bind_some,castI_p,s1,hne,cond_false,s2,s3,ap,s4,cl]
  exact zjd (by have:=nd_lt (zer hn ((ws.take (i*e)++ws.drop (j*e)++rept (n-(i+(n-j))) z).map .v));exact this)
theorem zt3 {G:Cfg} {X:CallF} {Hp:H} {l:Loc} {off jj f N e b t te d d':Nat} {τ σ:Stamp} {z:List V} {cs:List C} {c:C} {α:Type} {dt:Dt α} {xs zs:List α} {i j:Int} (entry:∀ (x:V) (i j:Int) (h:H),cvBody G (ev G X) (cvL G X) f σ [x,.p (.int .i64 i),.p (.int .i64 j)] h=zjb G e b t N τ d' σ x i j h)
  (hX:∀ y,X f σ y Hp=none) (ha:AtC Hp l off cs) (hj:cs[jj]?=some c) (hS:SoC dt xs c) (nt:Nn c e) (he:dt.sz=e) (hk:e≠0) (hz:del xs i j=some zs)
  (h1:telem G.P t=some te) (h2:tzero G.P te=some z) (h3:z.length=e) (h4:tsize G.P te=e) (h5:Stills z) :
  ∃ y c1,callO (ev G X) f σ [cellV l (off+jj) c,.p (.int .i64 i),.p (.int .i64 j)] Hp (some d)=some (y,ptC Hp l off (cs.set jj c1))∧∀ own σ',∃ c2,stO own 1 σ' (ptC Hp l off (cs.set jj c1)) (.ref l (off+jj)) y=some (ptC Hp l off (cs.set jj c2))∧SoC dt zs c2∧Nn c2 e:=by
 subst he
 have hr:0≤i∧i<j∧j≤xs.length:=by
  unfold del at hz
  split at hz
  ·rename_i hr;exact hr
  ·cases hz
 unfold del at hz
 rw [if_pos hr] at hz
 have hz:zs=xs.take i.toNat++xs.drop j.toNat:=(Option.some.inj hz).symm
 obtain ⟨ii,rfl⟩:∃ n:Nat,i=n:=⟨i.toNat,by omega⟩
 obtain ⟨j2,rfl⟩:∃ n:Nat,j=n:=⟨j.toNat,by omega⟩
 simp only [Int.toNat_natCast] at hz
 rcases hS with ⟨v,rfl,hv⟩ | ⟨s,ws,rfl,hl⟩
 ·have:=hv.nil_len (nt v rfl)
  subst this
  simp at hr;omega
 ·have hnode:(C.arr s xs.length dt.sz (ws.map .v)).node s=some (ws.map .v):=by simp [C.node]
  have hlt:=(List.getElem?_eq_some_iff.1 hj).1
  have hlen:=RL.length (fun h=>dt.len h) hl
  obtain ⟨p,q,hnL,hp⟩:=ha.hop hj hnode
  have hp0:p=[]:=List.length_eq_zero_iff.1 hp
  subst hp0
  have hnL':nd Hp (l.hop (off+jj) s)=some (ws.map .v):=by
   obtain ⟨p,q,hn2,hp⟩:=ha
   exact nd_in hn2 (c:=.arr s xs.length dt.sz (ws.map .v)) (by rw [z7t hp hlt,hj]) hnode
  obtain ⟨W,w1,w2,w3⟩:=zun (b:=b) (N:=N) (d:=d') (τ:=τ) (σ:=σ) (i:=ii) (j:=j2) hnL' hlen (RL.stills hl) hk (by omega) (by omega) h1 h2 h3 h4 h5
  have hWl:(W.map C.v).length=(ws.map C.v).length:=by rw [List.length_map,List.length_map,w1,hlen]
  have hpt:=ha.hop_pt hj (s:=s) (ds:=ws.map .v) (ds':=W.map .v) hnode hWl
  have hset:setNd Hp (l.hop (off+jj) s) (W.map .v)=ptC Hp l off (cs.set jj (.arr s xs.length dt.sz (W.map .v))):=by
   rw [show ptC Hp l off (cs.set jj (.arr s xs.length dt.sz (W.map .v)))=ptC Hp (l.hop (off+jj) s) 0 (W.map .v) from hpt.symm]
   rw [ptC_eq (off:=0) (p:=[]) (q:=[]) (cs:=ws.map .v) (by rw [hnL'];simp) rfl hWl]
   simp
  refine ⟨.sl (l.hop (off+jj) s) 0 (ii+(xs.length-j2)) xs.length dt.sz,.arr s xs.length dt.sz (W.map .v),?_,fun own σ'=>?_⟩
  ·rw [← hset]
   exact zcc (ev_cv (hX _) (by rw [entry];exact w3))
  ·refine ⟨.arr s (ii+(xs.length-j2)) dt.sz ((ws.take (ii*dt.sz)++ws.drop (j2*dt.sz)).map .v),?_,.inr ⟨s,ws.take (ii*dt.sz)++ws.drop (j2*dt.sz),?_,?_⟩,fun v hv=>by cases hv⟩
   ·have ha1:=ha.put (cs':=cs.set jj (.arr s xs.length dt.sz (W.map .v))) (by simp)
    obtain ⟨p,q,hn1,hp1⟩:=ha1
    have hcell:(p++cs.set jj (.arr s xs.length dt.sz (W.map .v))++q)[off+jj]?=some (.arr s xs.length dt.sz (W.map .v)):=by
     rw [z7t hp1 (by simpa using hlt)];simp [hlt]
    unfold stO
    simp only [V.cells,List.length_cons,List.length_nil,Nat.zero_add,bne_self_eq_false,Bool.not_true,Bool.or_self,Bool.false_eq_true,if_false,hn1,Option.bind_some,hcell]
    have hsame:z5z l (off+jj) (some (.arr s xs.length dt.sz (W.map .v))) (.sl (l.hop (off+jj) s) 0 (ii+(xs.length-j2)) xs.length dt.sz)=true:=by simp [z5z]
    rw [hsame]
    have hcut:cutArr σ' (some (.arr s xs.length dt.sz (W.map .v))) (.sl (l.hop (off+jj) s) 0 (ii+(xs.length-j2)) xs.length dt.sz)=some (.arr s (ii+(xs.length-j2)) dt.sz ((ws.take (ii*dt.sz)++ws.drop (j2*dt.sz)).map .v)):=by
     simp only [cutArr,if_true]
     unfold rng
     have hm:(ii+(xs.length-j2))*dt.sz≤xs.length*dt.sz:=Nat.mul_le_mul_right _ (by omega)
     rw [if_pos (by rw [List.length_map,w1];omega),List.drop_zero,← List.map_take,w2]
     rfl
    simp only [hcut,Option.map_some]
    rw [← ha.put_put (a:=cs.set jj (.arr s xs.length dt.sz (W.map .v))) (b:=cs.set jj (.arr s (ii+(xs.length-j2)) dt.sz ((ws.take (ii*dt.sz)++ws.drop (j2*dt.sz)).map .v))) (by simp) (by simp),ptC_eq (cs':=cs.set jj (.arr s (ii+(xs.length-j2)) dt.sz ((ws.take (ii*dt.sz)++ws.drop (j2*dt.sz)).map .v))) hn1 hp1 (by simp)]
    have e1:∀ c2:C,(p++cs.set jj (.arr s xs.length dt.sz (W.map .v))++q).set (off+jj) c2=p++cs.set jj c2++q:=fun c2=>by
     rw [List.append_assoc,List.set_append_right _ _ (by omega),List.set_append_left _ _ (by rw [List.length_set];omega),show off+jj-p.length=jj by omega,List.set_set,← List.append_assoc]
    rw [e1]
   ·congr 1
    rw [hz,List.length_append,List.length_take,List.length_drop];omega
   ·rw [hz]
    exact (RL.take (fun h=>dt.len h) ii hl).append (RL.drop (fun h=>dt.len h) j2 hl)
section
variable {N:Nat} {h0 Hp:H} {B:List Rt} {Γ:List (Nat×Stamp×List C)} {Δ:List Gw}
theorem Fm.delB (S:Fm N h0 B Γ Δ Hp) {G:Cfg} {X:CallF} {ii off jj f M e b t te d d':Nat} {l:Loc} {τ σ:Stamp} {z:List V} {cs:List C} {c:C} {α:Type} {dt:Dt α} {xs zs:List α} {i j:Int} (entry:∀ (x:V) (i j:Int) (h:H),cvBody G (ev G X) (cvL G X) f σ [x,.p (.int .i64 i),.p (.int .i64 j)] h=zjb G e b t M τ d' σ x i j h)
  (hX:∀ y,X f σ y Hp=none) (hi:B[ii]?=some ⟨l,off,cs⟩) (hj:cs[jj]?=some c) (hS:SoC dt xs c) (nt:Nn c e) (he:dt.sz=e) (hk:e≠0) (hz:del xs i j=some zs)
  (h1:telem G.P t=some te) (h2:tzero G.P te=some z) (h3:z.length=e) (h4:tsize G.P te=e) (h5:Stills z) :
  ∃ y c1 H1,callO (ev G X) f σ [cellV l (off+jj) c,.p (.int .i64 i),.p (.int .i64 j)] Hp (some d)=some (y,H1)∧Fm N h0 (B.set ii ⟨l,off,cs.set jj c1⟩) Γ Δ H1∧∀ own σ',∃ c2 H2,stO own 1 σ' H1 (.ref l (off+jj)) y=some H2∧SoC dt zs c2∧Nn c2 e∧Fm N h0 (B.set ii ⟨l,off,cs.set jj c2⟩) Γ Δ H2:=by
 obtain ⟨y,c1,e1,e2⟩:=zt3 (d:=d) entry hX (S.atB hi) hj hS nt he hk hz h1 h2 h3 h4 h5
 refine ⟨y,c1,_,e1,S.setB (cs:=cs.set jj c1) hi (by simp),fun own σ'=>?_⟩
 obtain ⟨c2,q1,q2,q3⟩:=e2 own σ'
 exact ⟨c2,_,q1,q2,q3,S.setB (cs:=cs.set jj c2) hi (by simp)⟩
end
end Go.Ev
namespace Go.Ev
section
variable {N:Nat} {h0 Hp:H} {B:List Rt} {Γ:List (Nat×Stamp×List C)} {Δ:List Gw}
theorem Fm.layR (S:Fm N h0 B Γ Δ Hp) {i d:Nat} {s:Stamp} {cs:List C} (hi:Γ[i]?=some (d,s,cs)) (hf:(freeG (Γ.eraseIdx i) d&&freeD Δ d)=true) {own:Bool} :
  ∃ H',layC own Hp (.ref ⟨h0.length,d,0,s,[]⟩ 0)=some (.own s cs,H')∧Fm N h0 B (Γ.eraseIdx i) Δ H':=by
 have S':Fm N h0 B (Γ.eraseIdx i) Δ Hp:=S.wk (fun _ h=>mem_erase h) (fun _ h=>h)
 obtain ⟨L,rfl,h2,h3,h4,h5⟩:=S
 have h6:=h4 _ (List.mem_of_getElem? hi)
 simp only at h6
 have hlt:=(List.getElem?_eq_some_iff.1 h6).1
 have ht:top (L::pts h0 B)=h0.length:=by simp [top,z2b]
 have hr:rootC (L::pts h0 B) ⟨h0.length,d,0,s,[]⟩=some (.own s cs):=by
  simp [rootC,z2b,h6]
 have hs:z1o (L::pts h0 B) ⟨h0.length,d,0,s,[]⟩ .dead=L.set d [.dead]::pts h0 B:=by
  simp [z1o,z2b,h6]
 refine ⟨L.set d [.dead]::pts h0 B,?_,zje S' hf [.dead]⟩
 simp only [layC,ht,hr,hs,and_self,if_true]
theorem zp6 {s:Stamp} {cs:List C}:(C.own s cs).node s=some cs:=by simp [C.node]
theorem AtC.sub {h:H} {l:Loc} {off j:Nat} {cs ds:List C} {s:Stamp} (ha:AtC h l off cs) (hj:cs[j]?=some (.own s ds)):AtC h (l.hop (off+j) s) 0 ds:=ha.hop hj zp6
theorem Fm.subB (S:Fm N h0 B Γ Δ Hp) {i j off:Nat} {l:Loc} {s:Stamp} {cs0 ds:List C} (hi:B[i]?=some ⟨l,off,cs0⟩) (hj:cs0[j]?=some (.own s ds)) :
  AtC Hp (l.hop (off+j) s) 0 ds∧∀ ds',ds'.length=ds.length→Fm N h0 (B.set i ⟨l,off,cs0.set j (.own s ds')⟩) Γ Δ (pts Hp [⟨l.hop (off+j) s,0,ds'⟩]):=by
 have ha:=S.atB hi
 refine ⟨ha.sub hj,fun ds' hl=>?_⟩
 have h2:=ha.hop_pt hj (s:=s) (ds:=ds) (ds':=ds') zp6 hl
 show Fm N h0 _ Γ Δ (ptC Hp (l.hop (off+j) s) 0 ds')
 rw [h2]
 exact S.setB (cs:=cs0.set j (.own s ds')) hi (by simp)
end
end Go.Ev
namespace Go.Ev
open Go.RowKit (Below)
set_option linter.unusedVariables false

theorem SimN.below {ι:Inj} {B:Nat} {w w':World} {ns:Nodes} (h:SimN ι B w.heap ns) (hb:Below w.heap.size w w'):SimN ι B w'.heap ns:=by
 refine ⟨h.nodup,fun s cs hm p hp=>?_,h.inj,fun b f hf=>?_,h.apart,h.nwb⟩
 ·obtain ⟨a1,c1,e1,a2,a3⟩:=h.lie s cs hm p hp
  exact ⟨a1,c1,e1,by rw [hb.block _ (Array.getElem?_eq_some_iff.1 a2).1];exact a2,a3⟩
 ·obtain ⟨c,e,fr,k1,k2⟩:=h.frz b f hf
  exact ⟨c,e,fr,by rw [hb.block _ (Array.getElem?_eq_some_iff.1 k1).1];exact k1,k2⟩
end Go.Ev
namespace Go.Ev
open Go.RowKit (Below)
open Go.Proofs
set_option linter.unusedVariables false

theorem run_copy_k {P:Program} (w:World) (dT sT ty elem:TypeId) (b o dLen dCap:Nat) (a:Addr) (sLen sCap k:Nat) (cs:List Value)
  (hu:P.underlying dT=some (.slice elem)) (hs:(P.info? elem).map (·.size)=some k) (n:Nat) (hn:n=Nat.min sLen dLen) (hl:cs.length=n*k)
  (hsrc:∀ j v,cs[j]?=some v→w.cell? (a.add j)=some v) (hc:∀ j,j<cs.length→(w.cell? ⟨b,o+j,none⟩).isSome=true) (hf:∀ j,j<cs.length→w.frozen? ⟨b,o+j,none⟩=false) (h1:∀ v∈cs,v.oneCell'=true) :
  (Builtin.copy_ #[dT,sT] ty #[.slice (some ⟨b,o,none⟩) dLen dCap,.slice (some a) sLen sCap]).run P w=.ok (goInt n) (w.setCells b o cs):=by
 have hl2:=run_loadCells_list (P:=P) w a cs hsrc
 have hst:=run_storeCells_cells (P:=P) b o cs 0 w (by simpa using hc) (by simpa using hf) h1
 cases hq:P.info? elem with
 | none=>simp [hq] at hs
 | some i =>
  have hi:i.size=k:=by simpa [hq] using hs
  rw [hl] at hl2
  simp [Builtin.copy_,run_underlying hu,Builtin.lenOf,Builtin.firstCells,sizeOf,typeInfo,hq,hi,← hn,hl2,hst]
theorem run_overlaps_clean {P:Program} (w:World) (tS tR e:TypeId) (ht:P.underlying tS=some (.slice e)) (size:Nat) (hz:∀ w,(Go.sizeOf e).run P w=.ok size w)
  (a b:Addr) (la ca lb cb:Nat) (hne:a.block≠b.block) (tA tB:TypeId) (kA kB:Nat)
  (hsa:w.shape? a.block=some (tA,kA)) (hsb:w.shape? b.block=some (tB,kB)) (hkA:kA≠0) (hkB:kB≠0)
  (hfa:w.frozen? b=false) (hfe:w.frozen? { block:=b.block,off:=kB }=false) :
  (Extern.SlicesOverlaps.overlaps #[tS,tS] #[tR] #[.slice (some a) la ca,.slice (some b) lb cb]).run P w=.ok (.bool false) w:=by
 have hnb:(a.block != b.block)=true:=by simpa using hne
 have hnb':(a.block==b.block)=false:=by simpa using hne
 change Sem.run P (α:=Value) (do
  let some t := (#[tS, tS] : Array TypeId)[0]? | stuck "slices.overlaps: no parameter types"
  let .slice elem ← underlying t | stuck "slices.overlaps: slice type expected"
  let size ← sizeOf elem
  match (some a:Option Addr),(some b:Option Addr) with
  | some a,some b =>
   if la=0∨lb=0∨size=0 then pure (Value.bool false)
   else if a.block != b.block&&(← frozen a)&&(← frozen b) then unsupported .addressObserved
   else do
    if a.block != b.block then do
     noView a;noView b
     if ← mayBeOne a b then return Value.bool ((← choose (.extern "sameAddr.stringBytes" 2)) == 1)
    pure (Value.bool (a.block==b.block&&a.off<b.off+lb*size&&b.off<a.off+la*size))
  | _,_=>pure (Value.bool false)) w=_
 by_cases h0:la=0∨lb=0∨size=0
 ·simp [run_underlying ht,hz,h0]
 ·cases kB with
  | zero=>exact absurd rfl hkB
  | succ kB =>
   cases kA with
   | zero=>exact absurd rfl hkA
   | succ kA =>
    cases hx:w.frozen? a<;>cases hy:w.frozen? { block:=a.block,off:=kA+1 } <;>
     simp [run_underlying ht,hz,h0,hnb,hnb',frozen,noView,viewAt,mayBeOne,stringish,shape,Sem.run,hsa,hsb,hfa,hfe,hx,hy]

theorem z7z (b:Nat):∀ (vs:List Value) (o:Nat) (w:World) (k:Nat),k≠b→(w.setCells b o vs).heap[k]?=w.heap[k]?
 | [],_,_,_,_=>rfl
 | v::r,o,w,k,h=>by
  rw [World.setCells,z7z b r _ _ k h]
  exact zjp w _ v h
def putL (c:List Value) (o:Nat) (vs:List Value):List Value:=c.take o++vs++c.drop (o+vs.length)
theorem zsh (l:List Value) (o:Nat) (v:Value) (r:List Value) (h:o+r.length+1≤l.length):putL (l.set o v) (o+1) r=putL l o (v::r):=by
 simp only [putL]
 apply List.ext_getElem?
 intro j
 simp only [List.getElem?_append,List.length_take,List.length_set,List.getElem?_take,List.getElem?_drop,List.getElem?_set,List.length_append,List.length_cons,List.getElem?_cons]
 rw [Nat.min_eq_left (by omega),Nat.min_eq_left (by omega)]
 rcases Nat.lt_trichotomy j o with hj | hj | hj
 ·rw [if_pos (by omega),if_pos (by omega),if_pos (by omega),if_neg (by omega),if_pos (by omega),if_pos (by omega),if_pos (by omega)]
 ·subst hj
  rw [if_pos (by omega),if_pos (by omega),if_pos (by omega),if_pos rfl,if_pos (by omega),if_pos (by omega),if_neg (by omega),if_pos (by omega)]
 ·by_cases h1:j<o+1+r.length
  ·rw [if_pos h1,if_neg (by omega),if_pos (by omega),if_neg (by omega),if_neg (by omega)]
   congr 1<;>omega
  ·rw [if_neg h1,if_neg (by omega),if_neg (by omega)]
   congr 1<;>omega
theorem z76 (b:Nat) (e:TypeId) (fr:Nat×Nat):∀ (vs:List Value) (o:Nat) (w:World) (c:Array Value),o+vs.length≤c.size→w.heap[b]?=some (.cells c e fr) →
  ∃ c',(w.setCells b o vs).heap[b]?=some (.cells c' e fr)∧c'.toList=putL c.toList o vs
 | [],o,w,c,_,h=>⟨c,h,by simp [putL]⟩
 | v::r,o,w,c,hl,h=>by
  simp only [List.length_cons] at hl
  obtain ⟨c',q1,q2⟩:=z76 b e fr r (o+1) (w.setCell ⟨b,o,none⟩ v) _ (by simp;omega) (zhk w ⟨b,o,none⟩ v rfl h)
  refine ⟨c',q1,?_⟩
  rw [q2,Array.toList_setIfInBounds]
  exact zsh _ _ _ _ (by simp;omega)
theorem SimN.turn {ι:Inj} {B:Nat} {hp hp':Array Obj} {ns:Nodes} {s:Stamp} {cells cells':List C} {p:Pos} {c':Array Value} {ety:TypeId} (h:SimN ι B hp ((s,cells)::ns)) (hs:ι.at_ s=some p)
  (hoth:∀ b,b≠p.blk→hp'[b]?=hp[b]?) (hb:hp'[p.blk]?=some (.cells c' ety (0,0))) (hsz:c'.size=p.tot) (hle:p.off+cells'.length≤p.tot) (hc:RCs ι cells' (c'.toList.drop p.off)):SimN ι B hp' ((s,cells')::ns):=by
 have nd:=h.nodup
 simp only [stamps,List.map_cons,List.nodup_cons] at nd
 refine ⟨by simpa [stamps] using h.nodup,fun s' cs' hm p' hp1=>?_,fun a b ha hb'=>h.inj a b (by simpa [stamps] using ha) (by simpa [stamps] using hb'),fun b f hf=>?_,fun a ha=>h.apart a (by simpa [stamps] using ha),h.nwb⟩
 ·simp only [List.mem_cons,Prod.mk.injEq] at hm
  rcases hm with ⟨rfl,rfl⟩ | hm
  ·rw [hs] at hp1;obtain rfl:=Option.some.inj hp1
   exact ⟨(h.lie _ _ (List.mem_cons_self ..) p hs).1,c',ety,hb,hsz,hle,hc⟩
  ·have hs':s'∈stamps ns:=List.mem_map.2 ⟨_,hm,rfl⟩
   have hne:p'.blk≠p.blk:=fun e=>by
    have:=h.inj s' s (List.mem_cons_of_mem _ hs') (List.mem_cons_self ..) p' p hp1 hs e
    subst this;exact nd.1 hs'
   obtain ⟨a1,c1,e1,a2,a3⟩:=h.lie s' cs' (List.mem_cons_of_mem _ hm) p' hp1
   exact ⟨a1,c1,e1,by rw [hoth _ hne];exact a2,a3⟩
 ·obtain ⟨c1,e1,fr,k1,k2⟩:=h.frz b f hf
  have hne:b≠p.blk:=fun e=>by
   have:=h.apart s (List.mem_cons_self ..) p hs
   rw [← e,hf] at this;simp at this
  exact ⟨c1,e1,fr,by rw [hoth _ hne];exact k1,k2⟩
theorem z9d {B b:Nat} (hb:B≤b):∀ (vs:List Value) (o:Nat) {a w:World},Below B a w→Below B a (w.setCells b o vs)
 | [],_,_,_,h=>h
 | v::r,o,_,_,h=>z9d hb r (o+1) (h.setCell (p:=⟨b,o,none⟩) hb v)
theorem zfe {u:Value} (h:Leaf u):u.oneCell'=true:=by cases u<;>first | rfl | exact absurd h (by simp [Leaf])
theorem zqw {ι:Inj} {c:C} {u:Value} (hc:c≠.dead) (h:RC ι c u):Leaf u:=by
 cases h with
 | v _ hl=>exact hl
 | own=>trivial
 | arr=>trivial
 | dead=>exact absurd rfl hc
theorem zjh (l:List Value) (o:Nat) (vs:List Value) (h:o+vs.length≤l.length) (j:Nat):(putL l o vs)[j]?=if o≤j∧j<o+vs.length then vs[j-o]? else l[j]?:=by
 simp only [putL,List.getElem?_append,List.length_take,List.length_append,List.getElem?_take,List.getElem?_drop]
 rw [Nat.min_eq_left (by omega)]
 by_cases h1:j<o
 ·rw [if_pos (by omega),if_pos h1,if_pos h1,if_neg (by omega)]
 ·by_cases h2:j<o+vs.length
  ·rw [if_pos h2,if_neg h1,if_pos (by omega)]
  ·rw [if_neg h2,if_neg (by omega)]
   congr 1;omega
theorem zdb (l:List Value) (o:Nat) (vs:List Value) (h:o+vs.length≤l.length):(putL l o vs).length=l.length:=by
 simp only [putL,List.length_append,List.length_take,List.length_drop];omega

structure InsOk (G:Cfg) (f k bys:Nat) (own:Bool):Prop where
 fn : ∃ fn, G.P.funcs[f]? = some fn ∧ (fn.name == "runtime.NumGoroutine") = false ∧ fn.body.isNone = false
 shift:∀ (b off n c i vb voff m vc:Nat) (cs vs:List Value) (w:World),i<n→0<m→n+m≤c→n+m≤9223372036854775807→vb≠b→cs.length=n*k→vs.length=m*k →
  (∀ j v,cs[j]?=some v→w.cell? ⟨b,off+j,none⟩=some v)→(∀ j,j<(n+m)*k→(w.cell? ⟨b,off+j,none⟩).isSome=true)→(∀ j,w.frozen? ⟨b,j,none⟩=false) →
  (∀ j v,vs[j]?=some v→w.cell? ⟨vb,voff+j,none⟩=some v)→(∀ v∈cs,v.oneCell'=true)→(∀ v∈vs,v.oneCell'=true) →
  ∀ (tA tB:TypeId) (kA kB:Nat),w.shape? vb=some (tA,kA)→w.shape? b=some (tB,kB)→kA≠0→kB≠0 →
  Calls G.P f #[.slice (some ⟨b,off,none⟩) n c,.int .i64 i,.slice (some ⟨vb,voff,none⟩) m vc] w fun e w' =>
   e=.returned (.slice (some ⟨b,off,none⟩) (n+m) c)∧w'=(w.drew.setCells b (off+(i+m)*k) (cs.drop (i*k))).setCells b (off+i*k) vs
 grow:∀ (b off n c i vb voff m vc:Nat) (cs vs:List Value) (w:World),i<n→0<m→n≤c→c<n+m→(n+m)*bys≤140737488355328→cs.length=n*k→vs.length=m*k →
  (∀ j v,cs[j]?=some v→w.cell? ⟨b,off+j,none⟩=some v) →
  (∀ j v,vs[j]?=some v→w.cell? ⟨vb,voff+j,none⟩=some v)→(∀ v∈cs,v.oneCell'=true)→(∀ v∈vs,v.oneCell'=true) →
  Calls G.P f #[.slice (some ⟨b,off,none⟩) n c,.int .i64 i,.slice (some ⟨vb,voff,none⟩) m vc] w fun e w'=>∃ (g:Nat) (z z':Array Value) (ety:TypeId),n+m≤g∧z.size=(n+m-i)*k∧z'.size=(g-(n+m))*k ∧
   e=.returned (.slice (some ⟨w.heap.size,0,none⟩) (n+m) g) ∧
   w'=(((w.alloc (.cells ((cs.take (i*k)).toArray++z++z') ety)).drew.setCells w.heap.size (i*k) vs).drew).setCells w.heap.size ((i+m)*k) (cs.drop (i*k))
 tail:∃ t ty,(∀ σ d h x y,zg7 G σ d h t t x y=apO own k bys σ d h x y) ∧
  (∀ (vb vo m vc:Nat) (r:Value) (w w':World),0<m→(Builtin.append_ #[t,t] ty #[.slice none 0 0,.slice (some ⟨vb,vo,none⟩) m vc]).run G.P w=.ok r w' →
   Calls G.P f #[.slice none 0 0,.int .i64 0,.slice (some ⟨vb,vo,none⟩) m vc] w fun e w2=>e=.returned r∧w2=w') ∧
  (∀ (a:Addr) (n c vb vo m vc:Nat) (r:Value) (w w':World),0<m→n≤c→(Builtin.append_ #[t,t] ty #[.slice (some a) n c,.slice (some ⟨vb,vo,none⟩) m vc]).run G.P w=.ok r w' →
   Calls G.P f #[.slice (some a) n c,.int .i64 n,.slice (some ⟨vb,vo,none⟩) m vc] w fun e w2=>e=.returned r∧w2=w')
def insC (cs:List C) (i k:Nat) (ys:List V):List C:=cs.take (i*k)++ys.map .v++cs.drop (i*k)
def insM (k bys:Nat) (σ:Stamp) (h:H) (x0:V) (i:Int) (x2:V):Option (List C×H) :=
 match x0,x2 with
 | .sl l 0 len _ esz,.fz ys m esz2 _ =>
  if esz=k∧esz2=k∧0<k∧0≤i∧i<len∧0<m∧ys.length=m*k∧(len+m)*bys≤140737488355328∧len+m<2^61∧ys.all leafV=true then
   (nd h l).bind fun cs=>if cs.length=len*k∧cs.all (fun c=>match c with | .dead=>false | .it ..=>false | _=>true)=true then some ([.arr σ (len+m) k (insC cs i.toNat k ys)],setAt h l .dead) else none
  else none
 | _,_=>none
def insE (own:Bool) (k bys:Nat) (σ:Stamp) (h:H) (x0 x2:V):Option (List C×H) :=
 match x2 with
 | .fz ys m _ _=>if 0<m∧ys.length≠0 then (apO own k bys σ 0 ([[]]::h) x0 x2).bind fun q =>
   match q.1,q.2 with
   | .sl l 0 n _ e,[[.arr s' n' e' cs]]::h'=>if l.last=s'∧n=n'∧e=e' then some ([.arr s' n' e' cs],h') else none
   | _,_=>none
  else none
 | _=>none
def insV (own:Bool) (k bys:Nat) (σ:Stamp) (h:H) (x0:V) (i:Int) (x2:V):Option (List C×H) :=
 if lenOf x0=some i.toNat∧0≤i then insE own k bys σ h x0 x2 else insM k bys σ h x0 i x2
def insX (t:FuncId→Option (Nat×Nat×Bool)):CallF:=fun f σ args h =>
 match t f,args with
 | some (k,bys,own),[x0,.p (.int .i64 i),x2]=>insV own k bys σ h x0 i x2
 | _,_=>none
theorem zk5 {cs:List C} {i k n m:Nat} {ys:List V} (hc:cs.length=n*k) (hi:i≤n) (hy:ys.length=m*k):(insC cs i k ys).length=(n+m)*k:=by
 have h1:i*k≤n*k:=Nat.mul_le_mul_right _ hi
 simp only [insC,List.length_append,List.length_take,List.length_drop,List.length_map,Nat.add_mul]
 omega
theorem zq6 {ι:Inj} {cs:List C} {i k n m:Nat} {ys:List V} {us vs l:List Value} (hc:cs.length=n*k) (hi:i≤n) (hy:ys.length=m*k) (hu:us.length=n*k) (hv:vs.length=m*k)
  (h1:∀ (j:Nat) c u,cs[j]?=some c→us[j]?=some u→RC ι c u) (h2:∀ (j:Nat) x v,ys[j]?=some x→vs[j]?=some v→RC ι (.v x) v)
  (hl:∀ j,j<(n+m)*k→l[j]?=(us.take (i*k)++vs++us.drop (i*k))[j]?):RCs ι ((insC cs i k ys).map sh) l:=fun j c hj=>by
 have hlen:=zk5 (i:=i) (k:=k) hc hi hy
 have h3:i*k≤n*k:=Nat.mul_le_mul_right _ hi
 rw [List.getElem?_map] at hj
 cases hd:(insC cs i k ys)[j]? with
 | none=>simp [hd] at hj
 | some d =>
  simp only [hd,Option.map_some,Option.some.injEq] at hj
  subst hj
  have hjl:j<(n+m)*k:=by rw [← hlen];exact (List.getElem?_eq_some_iff.1 hd).1
  rw [Nat.add_mul] at hjl
  rw [hl j (by rw [Nat.add_mul];omega)]
  unfold insC at hd
  simp only [List.getElem?_append,List.length_append,List.length_take,List.length_map,List.getElem?_take,List.getElem?_drop,List.getElem?_map] at hd ⊢
  rw [hc,hy,Nat.min_eq_left h3] at hd
  rw [hu,hv,Nat.min_eq_left h3]
  by_cases a1:j<i*k
  ·rw [if_pos (by omega),if_pos a1,if_pos a1] at hd
   rw [if_pos (by omega),if_pos a1,if_pos a1]
   have:j<us.length:=by omega
   exact ⟨us[j],List.getElem?_eq_getElem this,(h1 j d _ hd (List.getElem?_eq_getElem this)).sh⟩
  ·by_cases a2:j<i*k+m*k
   ·rw [if_pos (by omega),if_neg a1] at hd
    rw [if_pos (by omega),if_neg a1]
    have:j-i*k<vs.length:=by omega
    cases hx:ys[j-i*k]? with
    | none=>rw [hx] at hd;cases hd
    | some x =>
     rw [hx] at hd
     simp only [Option.map_some,Option.some.injEq] at hd
     subst hd
     exact ⟨vs[j-i*k],List.getElem?_eq_getElem this,(h2 _ x _ hx (List.getElem?_eq_getElem this)).sh⟩
   ·rw [if_neg (by omega)] at hd
    rw [if_neg (by omega)]
    have:i*k+(j-(i*k+m*k))<us.length:=by omega
    exact ⟨us[i*k+(j-(i*k+m*k))],List.getElem?_eq_getElem this,(h1 _ d _ hd (List.getElem?_eq_getElem this)).sh⟩
theorem zc5 {w:World} {b o:Nat} {c:Array Value} {e:TypeId} {fr:Nat×Nat} (h:w.heap[b]?=some (.cells c e fr)) (j:Nat):w.cell? ⟨b,o+j,none⟩=(c.toList.drop o)[j]?:=by
 simp [World.cell?,h]
theorem zhp {w:World} {b:Nat} {c:Array Value} {e:TypeId} {fr:Nat×Nat} (h:w.heap[b]?=some (.cells c e fr)):w.shape? b=some (e,c.size):=by simp [World.shape?,h]

theorem zuc {G:Cfg} {B:Nat} {f k bys:Nat} {own:Bool} (hI:InsOk G f k bys own) {σ:Stamp} {h h':H} {x0 x2:V} {i:Int} {cs:List C} {ι:Inj} {w:World} {u0 u2:Value} (hev:insM k bys σ h x0 i x2=some (cs,h'))
  (hS:SimN ι B w.heap (nodesH h)) (h0:RV ι x0 u0) (h2:RV ι x2 u2) (hf:Fresh σ ι (nodesH h)) (hB:B≤w.heap.size) :
  Calls G.P f #[u0,.int .i64 i,u2] w fun e w'=>∃ v ι',e=.returned v∧SimN ι' B w'.heap (zb cs++nodesH h')∧RetOk ι' cs v∧Went σ B ι w (nodesH h) ι' w' (zb cs++nodesH h'):=by
 unfold insM at hev
 split at hev
 ·rename_i l len av esz ys m esz2 tight
  split at hev
  ·rename_i hc
   obtain ⟨he1,he2,hk,hi0,hin,hm,hyl,hby,h61,hlf⟩:=hc
   obtain rfl:k=esz:=he1.symm
   obtain rfl:k=esz2:=he2.symm
   obtain ⟨cells,hnd,hev⟩:=Option.bind_eq_some_iff.1 hev
   split at hev
   ·rename_i hcl
    obtain ⟨hcl,hnd2⟩:=hcl
    simp only [Option.some.injEq,Prod.mk.injEq] at hev
    obtain ⟨rfl,rfl⟩:=hev
    obtain ⟨ii,rfl⟩:∃ ii:Nat,i=(ii:Int):=⟨i.toNat,by omega⟩
    have hin:ii<len:=by omega
    simp only [Int.toNat_natCast]
    have hlen:=zk5 (i:=ii) (ys:=ys) (m:=m) hcl (by omega) hyl
    have hmk:0<m*k:=Nat.mul_pos hm hk
    have hlk:ii*k<len*k:=Nat.mul_lt_mul_of_pos_right hin hk
    cases h0 with
    | sl hp m1 m2 m3 m4 =>
     rename_i cap o p
     have ho:=m3 (by omega)
     simp only [Nat.add_zero] at ho
     subst ho
     have hbd:=m4 (by omega)
     cases h2 with
     | fz0=>simp at hyl;omega
     | fz hfz n1 n2 n3 n4 =>
      rename_i vcap vb vo fs
      obtain ⟨c2,e2,fr2,g1,g2⟩:=hS.frz vb fs hfz
      obtain ⟨c0,hat,hnode⟩:=nd_at hnd
      obtain ⟨s3,t3⟩:=zgf (ex:=[]) (w:=w) (by simpa using hS) hat
      rw [z8w hnode] at s3 t3
      simp only [List.nil_append,List.cons_append] at s3 t3
      obtain ⟨hBp,ca,ety,hb,hsz,hle,hrc⟩:=s3.lie l.last (cells.map sh) (List.mem_cons_self ..) p hp
      simp only [List.length_map] at hle
      have hlenk:(len+m)*k=len*k+m*k:=Nat.add_mul _ _ _
      -- the values
      obtain ⟨us,hus⟩:∃ us,us=(ca.toList.drop p.off).take (len*k):=⟨_,rfl⟩
      obtain ⟨vs,hvs⟩:∃ vs,vs=(fs.drop vo).take ys.length:=⟨_,rfl⟩
      have hul:us.length=len*k:=by rw [hus];simp;omega
      have hvl:vs.length=m*k:=by rw [hvs,n4.length,hyl]
      have hvb:vb≠p.blk:=fun e=>by
       have:=s3.apart l.last (List.mem_cons_self ..) p hp
       rw [← e,hfz] at this;simp at this
      have hcs:∀ (j:Nat) v,us[j]?=some v→w.cell? ⟨p.blk,p.off+j,none⟩=some v:=fun j v hj=>by
       rw [zc5 hb]
       rw [hus,List.getElem?_take] at hj
       split at hj
       ·exact hj
       ·cases hj
      have hvv:∀ (j:Nat) v,vs[j]?=some v→w.cell? ⟨vb,vo+j,none⟩=some v:=fun j v hj=>by
       rw [zc5 g1,g2]
       rw [hvs,List.getElem?_take] at hj
       split at hj
       ·exact hj
       ·cases hj
      have hru:∀ (j:Nat) c u,cells[j]?=some c→us[j]?=some u→RC ι c u:=fun j c u a b=>by
       obtain ⟨u',b1,b2⟩:=hrc j (sh c) (by rw [List.getElem?_map,a];rfl)
       rw [hus,List.getElem?_take] at b
       split at b
       ·rw [b1] at b;obtain rfl:=Option.some.inj b;exact b2.of_sh
       ·cases b
      have hrv:∀ (j:Nat) x v,ys[j]?=some x→vs[j]?=some v→RC ι (.v x) v:=fun j x v a b=>by
       obtain ⟨v',b1,b2⟩:=n4.get a
       rw [hvs,b1] at b
       obtain rfl:=Option.some.inj b
       exact .v b2 (zpd (List.all_eq_true.1 hlf _ (List.mem_of_getElem? a)) b2)
      have h1c:∀ v∈us,v.oneCell'=true:=fun v hv=>by
       obtain ⟨j,hj⟩:=List.mem_iff_getElem?.1 hv
       have hjl:j<cells.length:=by rw [hcl,← hul];exact (List.getElem?_eq_some_iff.1 hj).1
       have hr:=hru j _ v (List.getElem?_eq_getElem hjl) hj
       refine zfe (zqw (fun e=>?_) hr)
       have:=List.all_eq_true.1 hnd2 _ (List.getElem_mem hjl)
       rw [e] at this;simp at this
      have h1v:∀ v∈vs,v.oneCell'=true:=fun v hv=>by
       obtain ⟨j,hj⟩:=List.mem_iff_getElem?.1 hv
       have hjl:j<ys.length:=by rw [hyl,← hvl];exact (List.getElem?_eq_some_iff.1 hj).1
       exact zfe (zqw (by simp) (hrv j _ v (List.getElem?_eq_getElem hjl) hj))
      have hmv:∀ W:List Value,(us.take (ii*k)++vs++us.drop (ii*k)++W).length=(len+m)*k+W.length:=fun W=>by
       simp only [List.length_append,List.length_take,List.length_drop,hul,hvl,hlenk];omega
      have hfresh:σ∉stamps (zb cells++nodesH (setAt h l .dead)):=fun hm=>hf.self.2 (t3 σ (by simp only [stamps,List.map_cons,List.mem_cons];exact .inr hm))
      have hnC:zb (insC cells ii k ys)=zb cells:=by
       unfold insC
       rw [z3d,z3d,zce,List.append_nil,← z3d,List.take_append_drop]
      have hnA:∀ (h2:H),zb [C.arr σ (len+m) k (insC cells ii k ys)]++nodesH h2=(σ,(insC cells ii k ys).map sh)::(zb cells++nodesH h2):=fun h2=>by
       simp [zb,nodesC,hnC]
      have hgrew:∀ {p':Pos},Grew σ ι (ι.put σ p') (nodesH h) (zb [C.arr σ (len+m) k (insC cells ii k ys)]++nodesH (setAt h l .dead)):=fun {p'}=>.put rfl fun s hs=>by
       rw [hnA] at hs
       simp only [stamps,List.map_cons,List.mem_cons] at hs
       rcases hs with q | q
       ·exact .inr q
       ·exact .inl (t3 s (by simp only [stamps,List.map_cons,List.mem_cons];exact .inr q))
      by_cases hroom:len+m≤cap
      ·have hbd2:(len+m)*k≤cap*k:=Nat.mul_le_mul_right _ hroom
       have hkA:c2.size≠0:=fun e=>by
        have:fs.length=0:=by rw [← g2];simpa using e
        have:vs.length=0:=by rw [hvs];simp;omega
        omega
       refine (hI.shift p.blk p.off len cap ii vb vo m vcap us vs w hin hm hroom (by omega) hvb hul hvl hcs (fun j hj=>by rw [zc5 hb,List.getElem?_eq_getElem (by simp;omega)];rfl) (fun j=>z7v hb) hvv h1c h1v _ _ _ _ (zhp g1) (zhp hb) hkA (by omega)).mono fun e w' he=>?_
       obtain ⟨rfl,rfl⟩:=he
       have hb':w.drew.heap[p.blk]?=some (.cells ca ety (0,0)):=hb
       have ed:(us.drop (ii*k)).length=len*k-ii*k:=by rw [List.length_drop,hul]
       have eim:(ii+m)*k=ii*k+m*k:=Nat.add_mul _ _ _
       obtain ⟨c3,q1,q2⟩:=z76 p.blk ety (0,0) (us.drop (ii*k)) (p.off+(ii+m)*k) w.drew ca (by rw [ed,eim];omega) hb'
       have l3:c3.size=ca.size:=by rw [← Array.length_toList,q2,zdb _ _ _ (by rw [ed,eim];simp;omega)];simp
       obtain ⟨c4,r1,r2⟩:=z76 p.blk ety (0,0) vs (p.off+ii*k) _ c3 (by rw [hvl,l3];omega) q1
       have l4:c4.size=ca.size:=by rw [← Array.length_toList,r2,zdb _ _ _ (by rw [hvl];simp;omega)];simp [l3]
       have hs2:ι.at_ σ=none:=hf.self.1
       have s5:=s3.turn (cells':=(insC cells ii k ys).map sh) (hp':=((w.drew.setCells p.blk (p.off+(ii+m)*k) (us.drop (ii*k))).setCells p.blk (p.off+ii*k) vs).heap) hp
        (fun b hne=>by rw [z7z _ _ _ _ _ hne,z7z _ _ _ _ _ hne];rfl) r1 (by rw [l4];exact hsz) (by rw [List.length_map,hlen];omega)
        (zq6 hcl (Nat.le_of_lt hin) hyl hul hvl hru hrv fun j hj=>by
         rw [List.getElem?_drop,r2,zjh _ _ _ (by rw [hvl];simp;omega),q2,zjh _ _ _ (by rw [ed,eim];simp;omega),hvl,ed]
         rw [eim]
         simp only [List.getElem?_append,List.length_append,List.length_take,List.getElem?_take,List.getElem?_drop]
         rw [hul,hvl,Nat.min_eq_left (Nat.le_of_lt hlk)]
         by_cases a1:j<ii*k
         ·rw [if_neg (by omega),if_neg (by omega),if_pos (by omega),if_pos a1,if_pos a1,hus,List.getElem?_take,if_pos (by omega),List.getElem?_drop]
         ·by_cases a2:j<ii*k+m*k
          ·rw [if_pos (by omega),if_pos (by omega),if_neg a1]
           congr 1;omega
          ·rw [if_neg (by omega),if_pos (by omega),if_neg (by omega)]
           congr 1;omega)
       have k5:=s5.restamp (s':=σ) (cells':=(insC cells ii k ys).map sh) (o:=0) hp hs2 hfresh (fun j c hj=>by rwa [Nat.zero_add]) (by simp)
       have hle2:=Inj.Le.put hs2 ⟨p.blk,p.off+0,p.tot⟩
       refine ⟨_,ι.put σ ⟨p.blk,p.off+0,p.tot⟩,rfl,by rw [hnA];exact k5,⟨fun hh d=>?_⟩,⟨hle2,hgrew,?_⟩⟩
       ·exact .sl (p:=⟨p.blk,p.off+0,p.tot⟩) (by show _=some _;exact Inj.put_same _ _ _) (Nat.le_refl _) hroom (fun _=>by simp) (fun _=>by simpa using hbd)
       ·exact z9d hBp _ _ (z9d hBp _ _ (zbl (Below.refl _ _)))
      ·refine (hI.grow p.blk p.off len cap ii vb vo m vcap us vs w hin hm (by omega) (by omega) hby hul hvl hcs hvv h1c h1v).mono fun e w' he=>?_
       obtain ⟨g,z,z',et,hg,hz,hz',rfl,rfl⟩:=he
       have hs2:ι.at_ σ=none:=hf.self.1
       have ed:(us.drop (ii*k)).length=len*k-ii*k:=by rw [List.length_drop,hul]
       have eim:(ii+m)*k=ii*k+m*k:=Nat.add_mul _ _ _
       have et':(us.take (ii*k)).length=ii*k:=by rw [List.length_take,hul];omega
       have ez:z.size=len*k+m*k-ii*k:=by rw [hz,Nat.sub_mul,Nat.add_mul]
       obtain ⟨ROW,hROW⟩:∃ ROW:Array Value,ROW=(us.take (ii*k)).toArray++z++z':=⟨_,rfl⟩
       rw [← hROW]
       have hRl:ROW.toList=us.take (ii*k)++z.toList++z'.toList:=by rw [hROW];simp
       have hRs:ROW.size=(len+m)*k+z'.size:=by
        rw [← Array.length_toList,hRl];simp only [List.length_append,et',Array.length_toList,ez];omega
       have hb0:(w.alloc (.cells ROW et)).drew.heap[w.heap.size]?=some (.cells ROW et (0,0)):=by
        show (w.heap.push _)[w.heap.size]?=_
        rw [Array.getElem?_push_size]
       obtain ⟨c3,q1,q2⟩:=z76 w.heap.size et (0,0) vs (ii*k) _ ROW (by rw [hvl,hRs];omega) hb0
       have l3:c3.size=ROW.size:=by rw [← Array.length_toList,q2,zdb _ _ _ (by rw [hvl];simp;omega)];simp
       have q1':((w.alloc (.cells ROW et)).drew.setCells w.heap.size (ii*k) vs).drew.heap[w.heap.size]?=some (.cells c3 et (0,0)):=q1
       obtain ⟨c4,r1,r2⟩:=z76 w.heap.size et (0,0) (us.drop (ii*k)) ((ii+m)*k) _ c3 (by rw [ed,eim,l3];omega) q1'
       have l4:c4.size=ROW.size:=by rw [← Array.length_toList,r2,zdb _ _ _ (by rw [ed,eim];simp;omega)];simp [l3]
       obtain ⟨W,hW⟩:∃ W,W=(((w.alloc (.cells ROW et)).drew.setCells w.heap.size (ii*k) vs).drew).setCells w.heap.size ((ii+m)*k) (us.drop (ii*k)):=⟨_,rfl⟩
       rw [← hW] at r1 ⊢
       have hWh:W.heap=(w.alloc (.cells c4 et)).heap:=by
        apply Array.ext_getElem?
        intro b
        by_cases hbe:b=w.heap.size
        ·subst hbe
         rw [r1]
         show _=(w.heap.push _)[w.heap.size]?
         rw [Array.getElem?_push_size]
        ·rw [hW,z7z _ _ _ _ _ hbe]
         show ((w.alloc (.cells ROW et)).drew.setCells w.heap.size (ii*k) vs).heap[b]?=_
         rw [z7z _ _ _ _ _ hbe]
         show (w.heap.push _)[b]?=(w.heap.push _)[b]?
         rw [Array.getElem?_push,Array.getElem?_push,if_neg hbe,if_neg hbe]
       have hpt:=Inj.Le.put hs2 ⟨w.heap.size,0,c4.size⟩
       have s4:SimN ι B w.heap (zb cells++nodesH (setAt h l .dead)):=s3.part (Part.right [(l.last,cells.map sh)] _)
       have s5:=s4.new (w:=w) (s:=σ) (cells:=(insC cells ii k ys).map sh) (vals:=c4) (ety:=et) hs2 hfresh hB
        ((zq6 hcl (Nat.le_of_lt hin) hyl hul hvl hru hrv fun j hj=>by
         rw [r2,zjh _ _ _ (by rw [ed,eim];simp;omega),q2,zjh _ _ _ (by rw [hvl];simp;omega),hvl,ed,hRl]
         rw [eim]
         simp only [List.getElem?_append,List.length_append,List.length_take,List.getElem?_take,List.getElem?_drop]
         rw [hul,hvl,Nat.min_eq_left (Nat.le_of_lt hlk)]
         by_cases a1:j<ii*k
         ·rw [if_neg (by omega),if_neg (by omega),if_pos (by omega),if_pos a1,if_pos a1,if_pos (by omega),if_pos a1]
         ·by_cases a2:j<ii*k+m*k
          ·rw [if_neg (by omega),if_pos (by omega),if_pos (by omega),if_neg a1]
          ·rw [if_pos (by omega),if_neg (by omega)]).mono hpt) (by rw [List.length_map,hlen,l4,hRs];omega)
       rw [← hWh] at s5
       have hgk:(len+m)*k≤g*k:=Nat.mul_le_mul_right _ hg
       have hcz:c4.size=g*k:=by rw [l4,hRs,hz',Nat.sub_mul];omega
       refine ⟨_,ι.put σ ⟨w.heap.size,0,c4.size⟩,rfl,by rw [hnA];exact s5,⟨fun hh d=>?_⟩,⟨hpt,hgrew,?_⟩⟩
       ·exact .sl (p:=⟨w.heap.size,0,c4.size⟩) (by show _=some _;exact Inj.put_same _ _ _) (Nat.le_refl _) hg (fun _=>rfl) (fun _=>by simp [hcz])
       ·rw [hW]
        exact z9d hB _ _ (zbl (z9d hB _ _ (zbl ((Below.refl _ _).alloc hB _))))
   ·simp at hev
  ·simp at hev
 ·simp at hev
theorem zui {G:Cfg} {B:Nat} {f k bys:Nat} {own:Bool} (hI:InsOk G f k bys own) {σ:Stamp} {h h':H} {x0 x2:V} {i:Int} {cs:List C} {ι:Inj} {w:World} {u0 u2:Value} (hlen:lenOf x0=some i.toNat) (hi0:0≤i) (hev:insE own k bys σ h x0 x2=some (cs,h'))
  (hS:SimN ι B w.heap (nodesH h)) (h0:RV ι x0 u0) (h2:RV ι x2 u2) (hf:Fresh σ ι (nodesH h)) (hB:B≤w.heap.size) :
  Calls G.P f #[u0,.int .i64 i,u2] w fun e w'=>∃ v ι',e=.returned v∧SimN ι' B w'.heap (zb cs++nodesH h')∧RetOk ι' cs v∧Went σ B ι w (nodesH h) ι' w' (zb cs++nodesH h'):=by
 unfold insE at hev
 split at hev
 ·rename_i ys m esz2 tight
  split at hev
  ·rename_i hm
   obtain ⟨hm,hyl⟩:=hm
   obtain ⟨⟨v,h1⟩,hap,hev⟩:=Option.bind_eq_some_iff.1 hev
   obtain ⟨t,ty,hq,hT0,hT1⟩:=hI.tail
   rw [← hq] at hap
   have e0:nodesH ([[]]::h)=nodesH h:=rfl
   obtain ⟨ι',w',nx,u,hrun,hnx,hrv,hS',hle,hgr,hbl⟩:=zoa (G:=G) (t:=t) (t':=t) (ty:=ty) (d:=0) hB (by rw [e0];exact hS) (by rw [e0];exact hf) h0 h2 hap
   have hr:(Builtin.append_ #[t,t] ty #[u0,u2]).run G.P w=.ok u w':=by
    cases hx:(Builtin.append_ #[t,t] ty #[u0,u2]).run G.P w with
    | ok r w1 =>
     simp only [Sem.run_bind,hx,Result.andThen_ok,Sem.run_pure,Result.ok.injEq] at hrun
     obtain ⟨rfl,rfl⟩:=hrun
     rcases hnx with h | ⟨h,_⟩
     ·simp only [Next.value.injEq] at h;rw [h]
     ·cases h
    | _=>simp [hx,Result.andThen] at hrun
   have hu2:∃ vb vo vc,u2=.slice (some ⟨vb,vo,none⟩) m vc:=by
    cases h2 with
    | fz0=>simp at hyl
    | fz=>exact ⟨_,_,_,rfl⟩
   obtain ⟨vb,vo,vc,rfl⟩:=hu2
   have done:Calls G.P f #[u0,.int .i64 i,.slice (some ⟨vb,vo,none⟩) m vc] w fun e w2=>e=.returned u∧w2=w':=by
    obtain ⟨ii,rfl⟩:∃ ii:Nat,i=(ii:Int):=⟨i.toNat,by omega⟩
    simp only [Int.toNat_natCast] at hlen
    cases h0 with
    | p v0 =>
     unfold lenOf at hlen
     split at hlen
     ·rename_i hx;cases hx
      simp only [Option.some.injEq] at hlen;subst hlen
      exact hT0 _ _ _ _ _ _ _ hm hr
     ·rename_i s hx;cases hx
      exfalso
      have hsl:isSl (.p (.string s))=true:=by
       unfold zg7 at hap
       split at hap
       ·unfold zd2 at hap
        split at hap
        ·cases hap
        ·obtain ⟨e2,he2,hap⟩:=Option.bind_eq_some_iff.1 hap
         obtain ⟨z2,hz2,hap⟩:=Option.bind_eq_some_iff.1 hap
         obtain ⟨n2,hn2,hap⟩:=Option.bind_eq_some_iff.1 hap
         obtain ⟨ys',hys,hap⟩:=Option.bind_eq_some_iff.1 hap
         split at hap
         ·cases hap
         ·split at hap
          ·split at hap
           ·assumption
           ·cases hap
          ·obtain ⟨q,hq',hap⟩:=Option.bind_eq_some_iff.1 hap
           unfold zeu at hap
           split at hap
           ·rename_i hx2;cases hx2
           ·rename_i hx2;cases hx2
           ·rename_i hx2;cases hx2
           ·cases hap
       ·split at hap
        ·simp [asI] at hap
        ·cases hap
      simp [isSl] at hsl
     ·rename_i hx;cases hx
     ·rename_i hx;cases hx
     ·cases hlen
    | sl hp m1 m2 m3 m4 =>
     simp only [lenOf,Option.some.injEq] at hlen;subst hlen
     exact hT1 _ _ _ _ _ _ _ _ _ _ hm (by omega) hr
    | @fz0 esz cap tight a ht =>
     simp only [lenOf,Option.some.injEq] at hlen;subst hlen
     exact hT1 _ _ _ _ _ _ _ _ _ _ hm (Nat.zero_le _) hr
    | fz k1 k2 k3 k4 k5 =>
     simp only [lenOf,Option.some.injEq] at hlen;subst hlen
     exact hT1 _ _ _ _ _ _ _ _ _ _ hm k2 hr
    | _=>simp [lenOf] at hlen
   refine done.mono fun e w2 he=>?_
   obtain ⟨rfl,rfl⟩:=he
   simp only at hev
   split at hev
   ·rename_i l n av e s' n' e' cs0 h''
    split at hev
    ·rename_i hc
     obtain ⟨hl,rfl,rfl⟩:=hc
     simp only [Option.some.injEq,Prod.mk.injEq] at hev
     obtain ⟨rfl,rfl⟩:=hev
     have e1:nodesH ([[C.arr s' n e cs0]]::h'')=zb [C.arr s' n e cs0]++nodesH h'':=by simp [nodesH,nodesL,zb]
     rw [e1] at hS' hgr
     refine ⟨_,ι',rfl,hS',⟨fun hh d=>?_⟩,⟨hle,hgr,hbl⟩⟩
     cases hrv with
     | sl hp m1 m2 m3 m4=>exact .sl (by rw [← hl] at *;exact hp) (Nat.le_refl _) (by omega) m3 m4
    ·cases hev
   ·cases hev
  ·cases hev
 ·cases hev
theorem zv9 {G:Cfg} {t:FuncId→Option (Nat×Nat×Bool)} (ht:∀ f k b o,t f=some (k,b,o)→InsOk G f k b o) (B:Nat):CallOk G B (insX t):=by
 intro f σ args h cs h' hev ι w us hS hargs hf hB
 unfold insX at hev
 split at hev
 ·rename_i k bys own x0 i x2 htf
  have hI:=ht f k bys own htf
  refine ⟨hI.fn,?_⟩
  have e:∃ u0 u2,us=#[u0,.int .i64 i,u2]∧RV ι x0 u0∧RV ι x2 u2:=by
   obtain ⟨l,rfl⟩:∃ l:List Value,us=l.toArray:=⟨us.toList,by simp⟩
   simp only at hargs
   cases hargs with
   | cons r0 t0 =>
    cases t0 with
    | cons r1 t1 =>
     cases t1 with
     | cons r2 t2 =>
      cases t2
      cases r1
      exact ⟨_,_,rfl,r0,r2⟩
  obtain ⟨u0,u2,rfl,r0,r2⟩:=e
  unfold insV at hev
  split at hev
  ·rename_i hc
   exact zui hI hc.1 hc.2 hev hS r0 r2 hf hB
  ·exact zuc hI hev hS r0 r2 hf hB
 ·simp at hev
end Go.Ev
namespace Go.Ev
set_option linter.unusedVariables false
def ins {α:Type} (b:Nat) (xs:List α) (i:Int) (ys:List α):Option (List α):=if 0≤i∧i≤xs.length∧(xs.length+ys.length)*b≤140737488355328∧xs.length+ys.length<2305843009213693952 then some (xs.take i.toNat++ys++xs.drop i.toNat) else none
theorem zsz {G:Cfg} {X:CallF} {Hp:H} {l:Loc} {off j f d b e m:Nat} {own t:Bool} {σ:Stamp} {cs:List C} {c:C} {α:Type} {dt:Dt α} {xs ys zs:List α} {i:Int} {us:List V}
  (hX:∀ (σ:Stamp) (x0 x2:V) (i:Int) (h:H),X f σ [x0,.p (.int .i64 i),x2] h=insV own e b σ h x0 i x2)
  (ha:AtC Hp l off cs) (hj:cs[j]?=some c) (hc:SoC dt xs c) (hnt:∀ v,c=.v v→v=.p (.slice none 0 0)∨v=.fz [] 0 e true) (hl:dt.L ys us) (hm:ys.length=m) (hn:m≠0) (hlf:us.all leafV=true) (he:dt.sz=e) (hk:e≠0) (hz:ins b xs i ys=some zs) :
  ∃ ws s,dt.L zs ws∧∃ c',(c'=c∨c'=.dead)∧callO (ev G X) f σ [cellV l (off+j) c,.p (.int .i64 i),.fz us m e t] Hp (some d)=some (.sl (newLoc Hp d s) 0 zs.length zs.length e,z2n (ptC Hp l off (cs.set j c')) d [.arr s zs.length e (ws.map .v)]):=by
 subst he
 subst hm
 have hul:=RL.length (fun h=>dt.len h) hl
 have hr:(0≤i∧i≤xs.length∧(xs.length+ys.length)*b≤140737488355328∧xs.length+ys.length<2305843009213693952)∧zs=xs.take i.toNat++ys++xs.drop i.toNat:=by
  unfold ins at hz
  split at hz
  ·rename_i hr;exact ⟨hr,(Option.some.inj hz).symm⟩
  ·cases hz
 obtain ⟨⟨hi0,hil,hb1,hb2⟩,hzs⟩:=hr
 obtain ⟨ii,rfl⟩:∃ n:Nat,i=n:=⟨i.toNat,by omega⟩
 simp only [Int.toNat_natCast] at hzs
 have hlen:lenOf (cellV l (off+j) c)=some xs.length:=by
  rcases hc with ⟨v,rfl,hv⟩ | ⟨s,ws,rfl,hw⟩
  ·obtain ⟨vs,q1,q2⟩:=hv
   have:=(q1 []).len
   rcases hnt v rfl with rfl | rfl<;>exact this
  ·rfl
 have hne:∃ L h',Hp=L::h':=by
  cases Hp with
  | nil=>obtain ⟨p,q,hn2,_⟩:=ha;have:=nd_lt hn2;simp at this
  | cons L h'=>exact ⟨L,h',rfl⟩
 -- a call that answers with an array lands it
 have land:∀ (s:Stamp) (n:Nat) (ds cs':List C),cs'.length=cs.length→X f σ [cellV l (off+j) c,.p (.int .i64 (ii:Int)),.fz us ys.length dt.sz t] Hp=some ([.arr s n dt.sz ds],ptC Hp l off cs') →
   callO (ev G X) f σ [cellV l (off+j) c,.p (.int .i64 (ii:Int)),.fz us ys.length dt.sz t] Hp (some d)=some (.sl (newLoc Hp d s) 0 n n dt.sz,z2n (ptC Hp l off cs') d [.arr s n dt.sz ds]):=fun s n ds cs' hcs hx=>by
  have hl2:(ptC Hp l off cs').length=Hp.length:=ze2 _ _ _ _
  cases hp:ptC Hp l off cs' with
  | nil=>obtain ⟨L,h',rfl⟩:=hne;rw [hp] at hl2;simp at hl2
  | cons L' h2 =>
   rw [hp] at hx hl2
   rw [zny (ev_ext hx)]
   simp [newLoc,top,z2n,← hl2]
 by_cases hend:ii=xs.length
 ·subst hend
  have hap:ap b xs ys=some (xs++ys):=by unfold ap;rw [if_pos ⟨hb1,hb2⟩]
  obtain ⟨ws,s,w1,c',w2,w3⟩:=zpc (own:=own) (σ:=σ) (d:=0) (y:=.fz us ys.length dt.sz t) (ha.up [[]]) hj hc ⟨us,⟨rfl,rfl,hul⟩,hl⟩ hap hn rfl hk hnt
  rw [ha.put_up [[]] (by simp)] at w3
  have hz2:zs=xs++ys:=by rw [hzs];simp
  subst hz2
  refine ⟨ws,s,w1,c',w2,land s _ _ _ (by simp) ?_⟩
  rw [hX]
  unfold insV
  rw [if_pos ⟨by rw [hlen];simp,hi0⟩]
  unfold insE
  simp only
  have hu0:us.length≠0:=by rw [hul];exact Nat.mul_ne_zero hn hk
  rw [if_pos ⟨Nat.pos_of_ne_zero hn,hu0⟩,w3]
  simp [newLoc,z2n,Loc.last,top]
 ·have hlt:ii<xs.length:=by omega
  rcases hc with ⟨v,rfl,hv⟩ | ⟨s,ws,rfl,hw⟩
  ·exfalso
   obtain ⟨vs,q1,q2⟩:=hv
   have h1:=(q1 []).len
   rcases hnt v rfl with rfl | rfl<;>simp only [lenOf,Option.some.injEq] at h1<;>omega
  ·have hwl:=RL.length (fun h=>dt.len h) hw
   have hltj:=(List.getElem?_eq_some_iff.1 hj).1
   have hnode:nd Hp (l.hop (off+j) s)=some (ws.map .v):=by
    obtain ⟨p,q,hn2,hp⟩:=ha
    exact nd_in hn2 (c:=.arr s xs.length dt.sz (ws.map .v)) (by rw [z7t hp hltj,hj]) (by simp [C.node])
   have hzl:zs.length=xs.length+ys.length:=by rw [hzs];simp;omega
   refine ⟨ws.take (ii*dt.sz)++us++ws.drop (ii*dt.sz),σ,?_,.dead,.inr rfl,land σ _ _ _ (by simp) ?_⟩
   ·rw [hzs]
    exact ((RL.take (fun h=>dt.len h) ii hw).append hl).append (RL.drop (fun h=>dt.len h) ii hw)
   ·rw [hX]
    unfold insV
    rw [if_neg (by rw [hlen];simp;omega)]
    have hcv:cellV l (off+j) (.arr s xs.length dt.sz (ws.map .v))=.sl (l.hop (off+j) s) 0 xs.length xs.length dt.sz:=rfl
    rw [hcv]
    unfold insM
    simp only
    rw [if_pos ⟨trivial,trivial,Nat.pos_of_ne_zero hk,hi0,by omega,Nat.pos_of_ne_zero hn,hul,hb1,hb2,hlf⟩,hnode]
    simp only [Option.bind_some]
    rw [if_pos ⟨by rw [List.length_map];exact hwl,by simp⟩,znm ha hj (by simp [C.node]),hzl]
    simp [insC]
section
variable {N:Nat} {h0 Hp:H} {B:List Rt} {Γ:List (Nat×Stamp×List C)} {Δ:List Gw}
theorem Fm.insB (S:Fm N h0 B Γ Δ Hp) {G:Cfg} {X:CallF} {ii j d b e f m off:Nat} {l:Loc} {σ:Stamp} {cs:List C} {c:C} {α:Type} {dt:Dt α} {xs ys zs:List α} {own t:Bool} {us:List V} {i:Int}
  (hX:∀ (σ:Stamp) (x0 x2:V) (i:Int) (h:H),X f σ [x0,.p (.int .i64 i),x2] h=insV own e b σ h x0 i x2)
  (hi:B[ii]?=some ⟨l,off,cs⟩) (hj:cs[j]?=some c) (hc:SoC dt xs c) (hnt:∀ v,c=.v v→v=.p (.slice none 0 0)∨v=.fz [] 0 e true) (hl:dt.L ys us) (hm:ys.length=m) (hn:m≠0) (hlf:us.all leafV=true) (hz:ins b xs i ys=some zs) (he:dt.sz=e) (hk:e≠0) (hd:d<N)
  (hf2:(freeG Γ d&&freeD Δ d)=true) :
  ∃ v c' H',callO (ev G X) f σ [cellV l (off+j) c,.p (.int .i64 i),.fz us m e t] Hp (some d)=some (v,H')∧Fm N h0 (B.set ii ⟨l,off,cs.set j c'⟩) Γ (⟨[d],v,dt,zs⟩::Δ) H':=by
 obtain ⟨ws,s,hl,c',_,e1⟩:=zsz (G:=G) (t:=t) (σ:=σ) (d:=d) hX (S.atB hi) hj hc hnt hl hm hn hlf he hk hz
 refine ⟨_,c',_,e1,?_⟩
 rw [S.newLoc]
 exact (S.setB (cs:=cs.set j c') hi (by simp)).addArr hl he hd hf2
end
end Go.Ev
namespace Go.Ev
set_option linter.unusedVariables false
theorem SlH.up1 {α:Type} {d:Dt α} {xs:List α} {v:V} {h:H} {L:Layer} (hv:SlH h d xs v):SlH (L::h) d xs v:=by
 obtain ⟨cs,q1,q2⟩:=hv
 exact ⟨cs,q1.up L,q2⟩
def delF {α:Type} (p:α→Option Bool):List α→Option (List α)
 | []=>some []
 | x::xs=>(p x).bind fun b=>(delF p xs).bind fun ys=>some (bif b then ys else x::ys)
def delC {α:Type} (pI:Option Int) (p:α→Option Bool) (xs:List α):Option (List α) :=
 pI.bind fun i=>if i=-1 then some xs else if 0≤i∧i<xs.length∧xs.length<2305843009213693952 then (delF p (xs.drop (i.toNat+1))).bind fun ys=>some (xs.take i.toNat++ys) else none
def zd4 (rec:CallF) (loop:LoopV) (c:Code) (lv:Lv) (own:Bool) (e:Nat) (z:List V) (D7 D28:Nat) (σ:Stamp) (x0 x1:V) (x5 x6:Int) (h:H):Option (Exit×Env×H) :=
 (lenO x0).bind fun t4=>(castI .i64 t4).bind fun n5=>bif decide (x6<n5) then (
  (iS e x0 x6).bind fun t6=>(ldO true e h t6).bind fun t7=>(some (alO z (4::0::0::1::0::σ) D7 h)).bind fun q8 =>
  ((stO own e (5::0::0::1::0::σ) q8.2 q8.1 t7).map fun h=>(udf,h)).bind fun q9 =>
  (ldO true e q9.2 q8.1).bind fun t10 =>
  (cloO rec x1 (2::0::1::0::1::0::σ) [t10] q9.2 (some D28)).bind fun q11 =>
  (asB q11.1).bind fun b12=>bif !b12 then (
   (ldO true e q11.2 q8.1).bind fun t13=>(iS e x0 x5).bind fun t14 =>
   ((stO own e (4::0::1::1::0::1::0::σ) q11.2 t14 t13).map fun h=>(udf,h)).bind fun q15 =>
   loop c lv (1::σ) (envL [(0,x0),(1,x1),(5,(.p (.int .i64 (IntKind.wrap .i64 (x5+1))))),(6,(.p (.int .i64 (IntKind.wrap .i64 (x6+1)))))]) q15.2)
  else loop c lv (1::σ) (envL [(0,x0),(1,x1),(5,(.p (.int .i64 x5))),(6,(.p (.int .i64 (IntKind.wrap .i64 (x6+1)))))]) q11.2)
 else some (.exit 0,envL [(0,x0),(5,(.p (.int .i64 x5)))],h)
def dfTail (G:Cfg) (e t:Nat) (σ:Stamp) (x0:V) (x5:Int) (h:H):Option (List C×H) :=
 (slS e x0 (some x5) none none).bind fun t16=>(clearV G h t t16).bind fun q17=>(slS e x0 none (some x5) none).bind fun t18=>fin false σ q17.2 [t18]
def dfBody (rec:CallF) (loop:LoopV) (c:Code) (lv:Lv) (kf:Exit→Env→H→Option (List C×H)) (N IF dI:Nat) (σ:Stamp) (x0 x1:V) (h:H):Option (List C×H) :=
 (callO rec IF (2::0::1::0::σ) [x0,x1] (List.replicate N []::h) (some dI)).bind fun q1=>(castI .i64 q1.1).bind fun n2=>bif n2==(-1) then (fin false σ q1.2 [x0]) else
  ((loop c lv (1::0::1::1::1::0::σ) (envL [(0,x0),(1,x1),(5,(.p (.int .i64 n2))),(6,(.p (.int .i64 (IntKind.wrap .i64 (n2+1)))))]) q1.2).bind fun r3=>kf r3.1 r3.2.1 r3.2.2)
theorem zmq {n:Int} (h:-9223372036854775808≤n∧n≤9223372036854775807):IntKind.wrap .i64 n=n:=by
 rw [IntKind.wrap_i64];omega
section
variable {G:Cfg} {X:CallF} {c:Code} {lv:Lv} {own:Bool} {e N D7 D28 f:Nat} {z:List V} {caps:List V} {α:Type} {dt:Dt α} {p:α→Option Bool} {Hp:H} {LL:Loc} {v:V}
theorem zup (hr:∀ (σ:Stamp) (x0 x1:V) (x5 x6:Int) (h:H),z1n G (ev G X) (cvL G X) c lv σ (envL [(0,x0),(1,x1),(5,(.p (.int .i64 x5))),(6,(.p (.int .i64 x6)))]) h=zd4 (ev G X) (cvL G X) c lv own e z D7 D28 σ x0 x1 x5 x6 h)
  (he:dt.sz=e) (hk:e≠0) (hz:z.length=e) (hd:D7<N)
  (hp:∀ (L:Layer) (w:List C) (x:α) (xv:List V) (τ:Stamp),dt.R x xv→Sim (p x) (ev G X f τ (.agg xv::caps) (L::ptC Hp LL 0 w)) (fun r s=>s=([.v (.p (.bool r))],L::ptC Hp LL 0 w))) :
  ∀ (n:Nat) (xs ys:List α) (i j:Nat) (w:List C) (σ:Stamp) (H:Ev.H),xs.length-j=n→j≤xs.length→i<j→xs.length<2305843009213693952→WL LL 0 dt xs v w→Fm N Hp [⟨LL,0,w⟩] [] [] H→delF p (xs.drop j)=some ys →
   ∃ zs w' H',cvL G X c lv σ (envL [(0,v),(1,.clo f caps),(5,.p (.int .i64 (i:Int))),(6,.p (.int .i64 (j:Int)))]) H=some (.exit 0,envL [(0,v),(5,.p (.int .i64 ((i+ys.length:Nat):Int)))],H')∧WL LL 0 dt zs v w'∧zs.length=xs.length ∧
    zs.take (i+ys.length)=xs.take i++ys∧Fm N Hp [⟨LL,0,w'⟩] [] [] H':=by
 subst he
 intro n
 induction n with
 | zero =>
  intro xs ys i j w σ H hn hj hij hb hw S hp2
  have:j=xs.length:=by omega
  subst this
  simp only [List.drop_length,delF,Option.some.injEq] at hp2
  subst hp2
  refine ⟨xs,w,H,zfc ?_,hw,rfl,by simp,S⟩
  rw [hr]
  unfold zd4
  rw [(S.slW (i:=0) rfl hw).len]
  simp
 | succ n ih =>
  intro xs ys i j w σ H hn hj hij hb hw S hp2
  have hjl:j<xs.length:=by omega
  rw [List.drop_eq_getElem_cons hjl] at hp2
  simp only [delF] at hp2
  obtain ⟨b,hpx,hp2⟩:=Option.bind_eq_some_iff.1 hp2
  obtain ⟨ys',hys,hp2⟩:=Option.bind_eq_some_iff.1 hp2
  have hp2:=Option.some.inj hp2
  have hix:ix xs (j:Int)=some xs[j]:=by simp [ix,hjl]
  have hsl:=S.slW (i:=0) rfl hw
  have a1:=hsl.len
  have a2:=hsl.iS hix rfl
  obtain ⟨xv,hR,hE⟩:=hsl.el hix rfl
  have hxl:xv.length=dt.sz:=dt.len hR
  have a3:=hE.all (by omega)
  rw [hxl] at a3
  obtain ⟨H1,e1,S1⟩:=S.al (d:=D7) (s:=4::0::0::1::0::σ) (z:=z) hd rfl
  have hst:StN (.agg xv) xv:=z28 (dt.still hR)
  have a4:=(S1.atG (i:=0) rfl).stN (own:=own) (σ:=5::0::0::1::0::σ) (j:=0) hst (by omega)
  have ezx:z.take 0++xv++z.drop (0+xv.length)=xv:=by simp [hxl,← hz]
  rw [ezx,hxl,Nat.add_zero] at a4
  have S2:=S1.setG (i:=0) (cs':=xv.map .v) rfl rfl (by simp [hz,hxl])
  simp only [List.set_cons_zero] at S2
  obtain ⟨H2,hH2⟩:∃ H2,H2=ptC H1 ⟨Hp.length,D7,0,4::0::0::1::0::σ,[]⟩ 0 (xv.map .v):=⟨_,rfl⟩
  rw [← hH2] at a4 S2
  have a5:=(S2.atG (i:=0) rfl).ldVs (j:=0) (xs:=xv) hxl (by rw [List.drop_zero];exact List.take_of_length_le (by simp [hxl])) (by omega)
  rw [Nat.add_zero] at a5
  have a6:ev G X f (2::0::1::0::1::0::σ) (.agg xv::caps) H2=some ([.v (.p (.bool b))],H2):=by
   obtain ⟨L,hL,_⟩:=S2
   obtain ⟨s,q1,q2⟩:=hp L w xs[j] xv (2::0::1::0::1::0::σ) hR b hpx
   rw [hL]
   rw [q2] at q1
   exact q1
  have a7:cloO (ev G X) (.clo f caps) (2::0::1::0::1::0::σ) [.agg xv] H2 (some D28)=some (.p (.bool b),H2):=zcc a6
  have wj:IntKind.wrap .i64 ((j:Int)+1)=((j+1:Nat):Int):=zmq (by omega)
  have wi:IntKind.wrap .i64 ((i:Int)+1)=((i+1:Nat):Int):=zmq (by omega)
  have hdec:decide ((j:Int)<(xs.length:Int))=true:=by simp [hjl]
  cases b with
  | true =>
   simp only [cond_true] at hp2
   subst hp2
   obtain ⟨zs,w',H',b1,b2,b3,b4,b5⟩:=ih xs ys' i (j+1) w (1::σ) H2 (by omega) (by omega) (by omega) hb hw (S2.wk2 aN aN) hys
   refine ⟨zs,w',H',zfc ?_,b2,b3,b4,b5⟩
   rw [hr]
   simp only [zd4,a1,Option.bind_some,castI_p,hdec,cond_true,a2,a3,e1,a4,Option.map_some,a5,a7,asB_p,Bool.not_true,cond_false,wj]
   exact b1
  | false =>
   simp only [cond_false] at hp2
   subst hp2
   have hil:i<xs.length:=by omega
   have hix2:ix xs (i:Int)=some xs[i]:=by simp [ix,hil]
   have a8:=(S2.slW (i:=0) rfl hw).iS hix2 rfl
   have hsx:stx xs (i:Int) xs[j]=some (xs.set i xs[j]):=by simp [stx,hil]
   obtain ⟨w3,H3,a9,hw3,S3⟩:=S2.setWA (i:=0) (e:=dt.sz) (own:=own) (σ:=4::0::1::1::0::1::0::σ) (nv:=xv) (xv:=.agg xv) rfl hw hsx rfl hst hR hxl
   obtain ⟨zs,w',H',b1,b2,b3,b4,b5⟩:=ih (xs.set i xs[j]) ys' (i+1) (j+1) w3 (1::σ) H3 (by simp;omega) (by simp;omega) (by omega) (by simpa using hb) hw3 (S3.wk2 aN aN) (by rw [List.drop_set_of_lt (by omega)];exact hys)
   refine ⟨zs,w',H',zfc ?_,b2,by simpa using b3,?_,b5⟩
   ·rw [hr]
    simp only [zd4,a1,Option.bind_some,castI_p,hdec,cond_true,a2,a3,e1,a4,Option.map_some,a5,a7,asB_p,Bool.not_false,a8,a9,wj,wi]
    rw [show i+1+ys'.length=i+(ys'.length+1) by omega] at b1
    rw [b1]
    rfl
   ·rw [List.length_cons,show i+(ys'.length+1)=i+1+ys'.length by omega,b4]
    have:(xs.set i xs[j]).take (i+1)=xs.take i++[xs[j]]:=by
     rw [List.take_add_one,List.take_set_of_le (Nat.le_refl _)]
     simp [hil]
    rw [this,List.append_assoc];rfl
theorem zrg {G:Cfg} {t te e n m:Nat} {L:Loc} {z W:List V} {h:H} (ha:AtC h L 0 (W.map .v)) (hW:W.length=n*e) (hm:m≤n) (ht:telem G.P t=some te) (hz:tzero G.P te=some z) (hzl:z.length=e) (hts:tsize G.P te=e) (hzs:Stills z) (hn:∃ ds,nd h L=some ds∧ds.length=n*e) :
  clearV G h t (.sl L (m*e) (n-m) (n-m) e)=some (.tup [],ptC h L 0 ((W.take (m*e)++rept (n-m) z).map .v)):=by
 have lz:(rept (n-m) z).length=(n-m)*e:=by rw [zh4,hzl]
 have m1:m*e≤n*e:=Nat.mul_le_mul_right e hm
 have m2:(n-m)*e=n*e-m*e:=Nat.sub_mul ..
 obtain ⟨p,q,hnd,hp⟩:=ha
 obtain ⟨ds,hds,hdl⟩:=hn
 have hp0:p=[]:=List.length_eq_zero_iff.1 hp
 subst hp0
 have hq:q=[]:=by
  rw [hnd] at hds
  have:=Option.some.inj hds
  subst this
  simp only [List.nil_append,List.length_append,List.length_map,hW] at hdl
  exact List.length_eq_zero_iff.1 (by omega)
 subst hq
 simp only [List.nil_append,List.append_nil] at hnd
 have hpt:∀ ys:List V,ys.length=W.length→ptC h L 0 (ys.map .v)=setNd h L (ys.map .v):=fun ys hy=>by
  rw [ptC_eq (off:=0) (p:=[]) (q:=[]) (cs:=W.map .v) (by rw [hnd];simp) rfl (by simpa using hy)];simp
 rw [hpt _ (by simp only [List.length_append,List.length_take,lz];omega)]
 unfold clearV
 rw [ht]
 simp only [Option.bind_some,hz,lenOf,isSl,hzl,hts,eszIs,beq_self_eq_true,if_true,Bool.not_true,Bool.false_eq_true,if_false,ne_eq,not_true_eq_false]
 by_cases h0:n-m=0
 ·rw [if_pos h0]
  have:m=n:=by omega
  subst this
  rw [Nat.sub_self]
  simp only [rept,List.append_nil]
  rw [← hW,List.take_length,ze7 hnd]
 ·rw [if_neg h0]
  simp only [overV]
  rw [if_neg (by rw [lz];omega),z4h true _ (zfx hzs _)]
  simp only [Option.bind_some,hnd]
  rw [if_pos (by rw [List.length_map,List.length_map,lz];omega)]
  simp only [Option.map_some]
  congr 4
  rw [List.drop_of_length_le (by rw [List.length_map,List.length_map,lz];omega),List.append_nil,List.map_append,List.map_take]
theorem df_run {kf:Exit→Env→H→Option (List C×H)} {IF dI t te:Nat} {pI:Option Int} {xs zs:List α} {ws:List V} {σ:Stamp}
  (hr:∀ (σ:Stamp) (x0 x1:V) (x5 x6:Int) (h:H),z1n G (ev G X) (cvL G X) c lv σ (envL [(0,x0),(1,x1),(5,(.p (.int .i64 x5))),(6,(.p (.int .i64 x6)))]) h=zd4 (ev G X) (cvL G X) c lv own e z D7 D28 σ x0 x1 x5 x6 h)
  (hkf:∀ (x0:V) (x5:Int) (h:H),kf (.exit 0) (envL [(0,x0),(5,(.p (.int .i64 x5)))]) h=dfTail G e t σ x0 x5 h)
  (he:dt.sz=e) (hk:e≠0) (hz:z.length=e) (hd:D7<N) (h1:telem G.P t=some te) (h2:tzero G.P te=some z) (h4:tsize G.P te=e) (h5:Stills z)
  (hp:∀ (L:Layer) (w:List C) (x:α) (xv:List V) (τ:Stamp),dt.R x xv→Sim (p x) (ev G X f τ (.agg xv::caps) (L::ptC Hp LL 0 w)) (fun r s=>s=([.v (.p (.bool r))],L::ptC Hp LL 0 w)))
  (hI:∀ τ,Sim pI (ev G X IF τ [.sl LL 0 xs.length xs.length e,.clo f caps] (List.replicate N []::Hp)) (fun r s=>s=([.v (.p (.int .i64 r))],List.replicate N []::Hp)))
  (hn:nd Hp LL=some (ws.map .v)) (hl:dt.L xs ws) (hc:delC pI p xs=some zs) :
  ∃ W:List V,W.length=xs.length*e∧zs.length≤xs.length∧dt.L zs (W.take (zs.length*e)) ∧
   dfBody (ev G X) (cvL G X) c lv kf N IF dI σ (.sl LL 0 xs.length xs.length e) (.clo f caps) Hp=some ([.v (.sl LL 0 zs.length xs.length e)],ptC Hp LL 0 (W.map .v)):=by
 subst he
 have hwl:=RL.length (fun h=>dt.len h) hl
 obtain ⟨i,hi,hc⟩:=Option.bind_eq_some_iff.1 hc
 obtain ⟨s,q1,q2⟩:=hI (2::0::1::0::σ) i hi
 subst q2
 have hcall:callO (ev G X) IF (2::0::1::0::σ) [.sl LL 0 xs.length xs.length dt.sz,.clo f caps] (List.replicate N []::Hp) (some dI)=some (.p (.int .i64 i),List.replicate N []::Hp):=zcc q1
 have ha:AtC Hp LL 0 (ws.map .v):=⟨[],[],by rw [hn];simp,rfl⟩
 have hlt:=nd_lt hn
 unfold dfBody
 rw [hcall]
 simp only [Option.bind_some,castI_p]
 split at hc
 ·rename_i h
  subst h
  have:=Option.some.inj hc
  subst this
  refine ⟨ws,hwl,Nat.le_refl _,by rw [← hwl,List.take_length];exact hl,?_⟩
  simp only [beq_self_eq_true,cond_true]
  rw [ha.same]
  exact zjd hlt
 ·rename_i hne
  split at hc
  ·rename_i hg
   obtain ⟨hi0,hil,hb⟩:=hg
   obtain ⟨ii,rfl⟩:∃ ii:Nat,i=(ii:Int):=⟨i.toNat,by omega⟩
   obtain ⟨ys,hys,hc⟩:=Option.bind_eq_some_iff.1 hc
   have:=Option.some.inj hc
   subst this
   simp only [Int.toNat_natCast] at hys ⊢
   have hil:ii<xs.length:=by omega
   have hw:WL LL 0 dt xs (.sl LL 0 xs.length xs.length dt.sz) (ws.map .v):=⟨ws,xs.length,rfl,hl,rfl,Nat.le_refl _⟩
   obtain ⟨zs,w',H',b1,b2,b3,b4,b5⟩:=zup (G:=G) (v:=.sl LL 0 xs.length xs.length dt.sz) hr rfl hk hz hd hp (xs.length-(ii+1)) xs ys ii (ii+1) (ws.map .v) (1::0::1::1::1::0::σ) (List.replicate N []::Hp) rfl (by omega) (by omega) hb hw (Fm.start1 ha) hys
   have wi:IntKind.wrap .i64 ((ii:Int)+1)=((ii+1:Nat):Int):=zmq (by omega)
   have hbeq:((ii:Int)==(-1))=false:=beq_eq_false_iff_ne.2 hne
   rw [hbeq]
   simp only [cond_false,wi,b1,Option.bind_some]
   rw [hkf]
   have hlen:(xs.take ii++ys).length=ii+ys.length:=by rw [List.length_append,List.length_take];omega
   rw [hlen]
   obtain ⟨m,hm⟩:∃ m,m=ii+ys.length:=⟨_,rfl⟩
   rw [← hm] at b4 ⊢
   have hmn:m≤xs.length:=by
    have:=congrArg List.length b4
    rw [hlen,← hm,List.length_take] at this
    omega
   obtain ⟨W,a,hWw,hWL,hWv,_⟩:=b2
   subst hWw
   have hWl:W.length=xs.length*dt.sz:=by rw [RL.length (fun h=>dt.len h) hWL,b3]
   have hAt:=b5.atB (i:=0) rfl
   obtain ⟨L,hL,_⟩:=b5
   have hAt0:AtC (ptC Hp LL 0 (W.map .v)) LL 0 (W.map .v):=ha.put (by simp [hWl,hwl])
   have hnd2:nd (L::ptC Hp LL 0 (W.map .v)) LL=some (W.map .v):=by
    have e1:ptC Hp LL 0 (W.map .v)=setNd Hp LL (W.map .v):=by
     rw [ptC_eq (off:=0) (p:=[]) (q:=[]) (cs:=ws.map .v) (by rw [hn];simp) rfl (by simp [hWl,hwl])];simp
    rw [e1]
    exact nd_up (zer hn _) L
   have m1:m*dt.sz≤xs.length*dt.sz:=Nat.mul_le_mul_right _ hmn
   have lz:(rept (xs.length-m) z).length=(xs.length-m)*dt.sz:=by rw [zh4,hz]
   have m2:(xs.length-m)*dt.sz=xs.length*dt.sz-m*dt.sz:=Nat.sub_mul ..
   have hcl:=zrg (G:=G) (t:=t) (L:=LL) (m:=m) hAt hWl hmn h1 h2 hz h4 h5 ⟨_,by rw [hL];exact hnd2,by simp [hWl]⟩
   have hWl2:(W.take (m*dt.sz)++rept (xs.length-m) z).length=xs.length*dt.sz:=by
    rw [List.length_append,List.length_take,lz];omega
   refine ⟨W.take (m*dt.sz)++rept (xs.length-m) z,hWl2,hmn,?_,?_⟩
   ·rw [List.take_append_of_le_length (by rw [List.length_take];omega),List.take_take,Nat.min_self,← b4]
    exact RL.take (fun h=>dt.len h) m hWL
   ·unfold dfTail
    have s3:slS dt.sz (.sl LL 0 xs.length xs.length dt.sz) (some (m:Int)) none none=some (.sl LL (m*dt.sz) (xs.length-m) (xs.length-m) dt.sz):=by
     simp only [slS,bI,Option.isSome_none,Bool.false_eq_true,false_and,if_false]
     rw [if_neg (by simp)]
     simp only [Option.bind_some,Int.toNat_natCast]
     rw [if_pos ⟨by omega,by omega⟩]
     simp
    have s2:slS dt.sz (.sl LL 0 xs.length xs.length dt.sz) none (some (m:Int)) none=some (.sl LL 0 m xs.length dt.sz):=by
     simp only [slS,bI,Option.isSome_none,Bool.false_eq_true,false_and,if_false]
     rw [if_neg (by simp)]
     simp only [Option.bind_some,Int.toNat_natCast]
     rw [if_pos ⟨by omega,by omega⟩]
     simp
    rw [s3]
    simp only [Option.bind_some,hcl,s2]
    rw [hL]
    show fin false σ (ptC (L::ptC Hp LL 0 (W.map .v)) LL 0 _) _=_
    rw [hAt0.put_up L (by simp only [List.length_map];rw [hWl2,hWl]),ha.put_put (by simp [hWl,hwl]) (by simp only [List.length_map];rw [hWl2,hwl])]
    exact zjd (by rw [ze2];exact hlt)
  ·cases hc
theorem zs0 {kf:Exit→Env→H→Option (List C×H)} {l:Loc} {off jj d F IF dI t te:Nat} {pI:Option Int} {xs zs:List α} {cs:List C} {c0:C} {σ:Stamp}
  (entry:∀ (x0 x1:V) (h:H),cvBody G (ev G X) (cvL G X) F σ [x0,x1] h=dfBody (ev G X) (cvL G X) c lv kf N IF dI σ x0 x1 h) (hX:∀ y,X F σ y Hp=none)
  (hr:∀ (σ:Stamp) (x0 x1:V) (x5 x6:Int) (h:H),z1n G (ev G X) (cvL G X) c lv σ (envL [(0,x0),(1,x1),(5,(.p (.int .i64 x5))),(6,(.p (.int .i64 x6)))]) h=zd4 (ev G X) (cvL G X) c lv own e z D7 D28 σ x0 x1 x5 x6 h)
  (hkf:∀ (x0:V) (x5:Int) (h:H),kf (.exit 0) (envL [(0,x0),(5,(.p (.int .i64 x5)))]) h=dfTail G e t σ x0 x5 h)
  (ha:AtC Hp l off cs) (hj:cs[jj]?=some c0) (hS:SoC dt xs c0) (nt:Nn c0 e) (he:dt.sz=e) (hk:e≠0) (hz:z.length=e) (hd:D7<N) (h1:telem G.P t=some te) (h2:tzero G.P te=some z) (h4:tsize G.P te=e) (h5:Stills z)
  (hp:∀ (l':Loc) (L:Layer) (w:List C) (x:α) (xv:List V) (τ:Stamp),l'.key=l.key→dt.R x xv→Sim (p x) (ev G X f τ (.agg xv::caps) (L::ptC Hp l' 0 w)) (fun r s=>s=([.v (.p (.bool r))],L::ptC Hp l' 0 w)))
  (hI:∀ τ,Sim pI (ev G X IF τ [cellV l (off+jj) c0,.clo f caps] (List.replicate N []::Hp)) (fun r s=>s=([.v (.p (.int .i64 r))],List.replicate N []::Hp)))
  (hc:delC pI p xs=some zs) :
  ∃ y c1,callO (ev G X) F σ [cellV l (off+jj) c0,.clo f caps] Hp (some d)=some (y,ptC Hp l off (cs.set jj c1))∧∀ own σ',∃ c2,stO own 1 σ' (ptC Hp l off (cs.set jj c1)) (.ref l (off+jj)) y=some (ptC Hp l off (cs.set jj c2))∧SoC dt zs c2∧Nn c2 e:=by
 subst he
 have hlt:=(List.getElem?_eq_some_iff.1 hj).1
 rcases hS with ⟨u,rfl,hv⟩ | ⟨s,ws,rfl,hl⟩
 ·have:=hv.nil_len (nt u rfl)
  subst this
  obtain ⟨i,hi,hc⟩:=Option.bind_eq_some_iff.1 hc
  have hi1:i=-1∧zs=[]:=by
   split at hc
   ·rename_i h;exact ⟨h,(Option.some.inj hc).symm⟩
   ·split at hc
    ·rename_i hg;simp at hg;omega
    ·cases hc
  obtain ⟨rfl,rfl⟩:=hi1
  obtain ⟨s,q1,q2⟩:=hI (2::0::1::0::σ) (-1) hi
  subst q2
  have same:ptC Hp l off (cs.set jj (.v u))=Hp:=by
   rw [show cs.set jj (.v u)=cs from by rw [← (List.getElem?_eq_some_iff.1 hj).2];exact List.set_getElem_self ..]
   exact ha.same
  have hcu:cellV l (off+jj) (.v u)=u:=rfl
  refine ⟨u,.v u,?_,fun own σ'=>⟨.v u,?_,.inl ⟨u,rfl,hv⟩,nt⟩⟩
  ·rw [same]
   refine zcc (ev_cv (hX _) ?_)
   rw [entry]
   unfold dfBody
   rw [zcc q1]
   simp only [Option.bind_some,castI_p,beq_self_eq_true,cond_true]
   rw [hcu]
   exact (Fm.start0 (N:=N) (h0:=Hp)).finN (lC hv.still.lv lN)
  ·rw [same]
   obtain ⟨p,q,hn,hpl⟩:=ha
   have hget:(p++cs++q)[off+jj]?=some (.v u):=by rw [z7t hpl hlt,hj]
   unfold stO
   have hcl:u.cells=[u]:=hv.still.cells
   have hsm:z5z l (off+jj) (some (.v u)) u=false:=rfl
   simp only [hcl,List.length_cons,List.length_nil,Nat.zero_add,bne_self_eq_false,Bool.not_true,Bool.or_self,Bool.false_eq_true,if_false,hn,Option.bind_some,hget]
   rw [hsm]
   have hll:=z4h own Hp (sC hv.still sN)
   simp only [hll,Option.bind_some,hn,List.map_cons,List.map_nil,List.length_cons,List.length_nil]
   rw [if_pos (by simp only [List.length_append];omega)]
   congr 1
   rw [zc2 _ _ _ (by simp only [List.length_append];omega)]
   rw [show (p++cs++q).set (off+jj) (.v u)=p++cs++q from by
    rw [← (List.getElem?_eq_some_iff.1 hget).2];exact List.set_getElem_self ..]
   exact ze7 hn
 ·have hnode:(C.arr s xs.length dt.sz (ws.map .v)).node s=some (ws.map .v):=by simp [C.node]
  have hlen:=RL.length (fun h=>dt.len h) hl
  obtain ⟨p,q,hnL,hpl⟩:=ha.hop hj hnode
  have hp0:p=[]:=List.length_eq_zero_iff.1 hpl
  subst hp0
  have hnL':nd Hp (l.hop (off+jj) s)=some (ws.map .v):=by
   obtain ⟨p,q,hn2,hp⟩:=ha
   exact nd_in hn2 (c:=.arr s xs.length dt.sz (ws.map .v)) (by rw [z7t hp hlt,hj]) hnode
  obtain ⟨W,w1,w2,w3,w4⟩:=df_run (G:=G) (kf:=kf) (IF:=IF) (dI:=dI) (t:=t) (σ:=σ) (LL:=l.hop (off+jj) s) hr hkf rfl hk hz hd h1 h2 h4 h5 (fun L w x xv τ hR=>hp _ L w x xv τ rfl hR) hI hnL' hl hc
  have hWl:(W.map C.v).length=(ws.map C.v).length:=by rw [List.length_map,List.length_map,w1,hlen]
  have hpt:=ha.hop_pt hj (s:=s) (ds:=ws.map .v) (ds':=W.map .v) hnode hWl
  refine ⟨.sl (l.hop (off+jj) s) 0 zs.length xs.length dt.sz,.arr s xs.length dt.sz (W.map .v),?_,fun own σ'=>?_⟩
  ·rw [show ptC Hp l off (cs.set jj (.arr s xs.length dt.sz (W.map .v)))=ptC Hp (l.hop (off+jj) s) 0 (W.map .v) from hpt.symm]
   exact zcc (ev_cv (hX _) (by rw [entry];exact w4))
  ·refine ⟨.arr s zs.length dt.sz ((W.take (zs.length*dt.sz)).map .v),?_,.inr ⟨s,_,rfl,w3⟩,fun v hv=>by cases hv⟩
   have ha1:=ha.put (cs':=cs.set jj (.arr s xs.length dt.sz (W.map .v))) (by simp)
   obtain ⟨p,q,hn1,hp1⟩:=ha1
   have hcell:(p++cs.set jj (.arr s xs.length dt.sz (W.map .v))++q)[off+jj]?=some (.arr s xs.length dt.sz (W.map .v)):=by
    rw [z7t hp1 (by simpa using hlt)];simp [hlt]
   unfold stO
   simp only [V.cells,List.length_cons,List.length_nil,Nat.zero_add,bne_self_eq_false,Bool.not_true,Bool.or_self,Bool.false_eq_true,if_false,hn1,Option.bind_some,hcell]
   have hsame:z5z l (off+jj) (some (.arr s xs.length dt.sz (W.map .v))) (.sl (l.hop (off+jj) s) 0 zs.length xs.length dt.sz)=true:=by simp [z5z]
   rw [hsame]
   have hcut:cutArr σ' (some (.arr s xs.length dt.sz (W.map .v))) (.sl (l.hop (off+jj) s) 0 zs.length xs.length dt.sz)=some (.arr s zs.length dt.sz ((W.take (zs.length*dt.sz)).map .v)):=by
    simp only [cutArr,if_true]
    unfold rng
    have hm:zs.length*dt.sz≤xs.length*dt.sz:=Nat.mul_le_mul_right _ w2
    rw [if_pos (by rw [List.length_map,w1];omega),List.drop_zero,← List.map_take]
    rfl
   simp only [hcut,Option.map_some]
   rw [← ha.put_put (a:=cs.set jj (.arr s xs.length dt.sz (W.map .v))) (b:=cs.set jj (.arr s zs.length dt.sz ((W.take (zs.length*dt.sz)).map .v))) (by simp) (by simp),ptC_eq (cs':=cs.set jj (.arr s zs.length dt.sz ((W.take (zs.length*dt.sz)).map .v))) hn1 hp1 (by simp)]
   have e1:∀ c2:C,(p++cs.set jj (.arr s xs.length dt.sz (W.map .v))++q).set (off+jj) c2=p++cs.set jj c2++q:=fun c2=>by
    rw [List.append_assoc,List.set_append_right _ _ (by omega),List.set_append_left _ _ (by rw [List.length_set];omega),show off+jj-p.length=jj by omega,List.set_set,← List.append_assoc]
   rw [e1]
end
section
variable {G:Cfg} {X:CallF} {c:Code} {lv:Lv} {own:Bool} {e M D7 D28 f:Nat} {z:List V} {caps:List V} {α:Type} {dt:Dt α} {p:α→Option Bool}
variable {N:Nat} {h0 Hp:H} {B:List Rt} {Γ:List (Nat×Stamp×List C)} {Δ:List Gw}
theorem Fm.dfB (S:Fm N h0 B Γ Δ Hp) {kf:Exit→Env→H→Option (List C×H)} {ii off jj d F IF dI t te:Nat} {l:Loc} {pI:Option Int} {xs zs:List α} {cs:List C} {c0:C} {σ:Stamp}
  (entry:∀ (x0 x1:V) (h:H),cvBody G (ev G X) (cvL G X) F σ [x0,x1] h=dfBody (ev G X) (cvL G X) c lv kf M IF dI σ x0 x1 h) (hX:∀ y,X F σ y Hp=none)
  (hr:∀ (σ:Stamp) (x0 x1:V) (x5 x6:Int) (h:H),z1n G (ev G X) (cvL G X) c lv σ (envL [(0,x0),(1,x1),(5,(.p (.int .i64 x5))),(6,(.p (.int .i64 x6)))]) h=zd4 (ev G X) (cvL G X) c lv own e z D7 D28 σ x0 x1 x5 x6 h)
  (hkf:∀ (x0:V) (x5:Int) (h:H),kf (.exit 0) (envL [(0,x0),(5,(.p (.int .i64 x5)))]) h=dfTail G e t σ x0 x5 h)
  (hi:B[ii]?=some ⟨l,off,cs⟩) (hj:cs[jj]?=some c0) (hS:SoC dt xs c0) (nt:Nn c0 e) (he:dt.sz=e) (hk:e≠0) (hz:z.length=e) (hd:D7<M) (h1:telem G.P t=some te) (h2:tzero G.P te=some z) (h4:tsize G.P te=e) (h5:Stills z)
  (hp:∀ (l':Loc) (L:Layer) (w:List C) (x:α) (xv:List V) (τ:Stamp),l'.key=l.key→dt.R x xv→Sim (p x) (ev G X f τ (.agg xv::caps) (L::ptC Hp l' 0 w)) (fun r s=>s=([.v (.p (.bool r))],L::ptC Hp l' 0 w)))
  (hI:∀ τ,Sim pI (ev G X IF τ [cellV l (off+jj) c0,.clo f caps] (List.replicate M []::Hp)) (fun r s=>s=([.v (.p (.int .i64 r))],List.replicate M []::Hp)))
  (hc:delC pI p xs=some zs) :
  ∃ y c1 H1,callO (ev G X) F σ [cellV l (off+jj) c0,.clo f caps] Hp (some d)=some (y,H1)∧Fm N h0 (B.set ii ⟨l,off,cs.set jj c1⟩) Γ Δ H1∧∀ own σ',∃ c2 H2,stO own 1 σ' H1 (.ref l (off+jj)) y=some H2∧SoC dt zs c2∧Nn c2 e∧Fm N h0 (B.set ii ⟨l,off,cs.set jj c2⟩) Γ Δ H2:=by
 obtain ⟨y,c1,e1,e2⟩:=zs0 (d:=d) entry hX hr hkf (S.atB hi) hj hS nt he hk hz hd h1 h2 h4 h5 hp hI hc
 refine ⟨y,c1,_,e1,S.setB (cs:=cs.set jj c1) hi (by simp),fun own σ'=>?_⟩
 obtain ⟨c2,q1,q2,q3⟩:=e2 own σ'
 exact ⟨c2,_,q1,q2,q3,S.setB (cs:=cs.set jj c2) hi (by simp)⟩
theorem AtC.by_ {h:H} {l l':Loc} {off:Nat} {cs w:List C} (ha:AtC h l off cs) (L:Layer) (hk:l'.key≠l.key):AtC (L::ptC h l' 0 w) l off cs:=(ha.frame hk).up L
theorem Fm.keyB (S:Fm N h0 B Γ Δ Hp) {i off d:Nat} {s:Stamp} {cs:List C} {l l':Loc} (hi:B[i]?=some ⟨l,off,cs⟩) (h1:l'.key=l.key):l'.key≠(⟨h0.length,d,0,s,[]⟩:Loc).key:=by
 have:l.lvl<h0.length:=S.ltB hi
 rw [h1]
 intro h
 simp only [Loc.key,Prod.mk.injEq] at h
 omega
end
end Go.Ev
namespace Go.Ev
set_option linter.unusedVariables false
structure z7 where
 Owner:Int
 Rate:Int
 Over:Int
def z7.tp (x:z7):(Int×(Int×(Int×Unit))):=(x.Owner,(x.Rate,(x.Over,())))
def z6:Dt z7:=(dP (dI .u32) (dP (dI .u64) (dP (dI .i64) dU))).via z7.tp
theorem z6.inv {x:z7} {vs:List V} (h:z6.R x vs):vs=[.p (.int .u32 x.Owner),.p (.int .u64 x.Rate),.p (.int .i64 x.Over)]:=by
 obtain ⟨u0,w0,e0,h0,u1,w1,e1,h1,u2,w2,e2,h2,hend⟩:=h
 obtain rfl:u0=[.p (.int .u32 x.Owner)]:=h0
 obtain rfl:u1=[.p (.int .u64 x.Rate)]:=h1
 obtain rfl:u2=[.p (.int .i64 x.Over)]:=h2
 obtain rfl:=(show _=[] from hend)
 subst e2
 subst e1
 subst e0
 rfl
theorem z6.mk {y_Owner:Int} {y_Rate:Int} {y_Over:Int} :z6.R (⟨y_Owner,y_Rate,y_Over⟩:z7) [.p (.int .u32 y_Owner),.p (.int .u64 y_Rate),.p (.int .i64 y_Over)]:=⟨[.p (.int .u32 y_Owner)],[.p (.int .u64 y_Rate),.p (.int .i64 y_Over)],rfl,rfl,⟨[.p (.int .u64 y_Rate)],[.p (.int .i64 y_Over)],rfl,rfl,⟨[.p (.int .i64 y_Over)],[],rfl,rfl,rfl⟩⟩⟩
structure z27 where
 Kind:Int
 T:z7
 N:Int
def z27.tp (x:z27):(Int×(z7×(Int×Unit))):=(x.Kind,(x.T,(x.N,())))
def z2m:Dt z27:=(dP (dI .i64) (dP z6 (dP (dI .i64) dU))).via z27.tp
theorem z2m.inv {x:z27} {vs:List V} (h:z2m.R x vs):vs=[.p (.int .i64 x.Kind),.p (.int .u32 x.T.Owner),.p (.int .u64 x.T.Rate),.p (.int .i64 x.T.Over),.p (.int .i64 x.N)]:=by
 obtain ⟨u0,w0,e0,h0,u1,w1,e1,h1,u2,w2,e2,h2,hend⟩:=h
 obtain rfl:u0=[.p (.int .i64 x.Kind)]:=h0
 obtain rfl:=z6.inv h1
 obtain rfl:u2=[.p (.int .i64 x.N)]:=h2
 obtain rfl:=(show _=[] from hend)
 subst e2
 subst e1
 subst e0
 rfl
theorem z2m.mk {y_Kind:Int} {y_T_Owner:Int} {y_T_Rate:Int} {y_T_Over:Int} {y_N:Int} :z2m.R (⟨y_Kind,⟨y_T_Owner,y_T_Rate,y_T_Over⟩,y_N⟩:z27) [.p (.int .i64 y_Kind),.p (.int .u32 y_T_Owner),.p (.int .u64 y_T_Rate),.p (.int .i64 y_T_Over),.p (.int .i64 y_N)]:=⟨[.p (.int .i64 y_Kind)],[.p (.int .u32 y_T_Owner),.p (.int .u64 y_T_Rate),.p (.int .i64 y_T_Over),.p (.int .i64 y_N)],rfl,rfl,⟨[.p (.int .u32 y_T_Owner),.p (.int .u64 y_T_Rate),.p (.int .i64 y_T_Over)],[.p (.int .i64 y_N)],rfl,⟨[.p (.int .u32 y_T_Owner)],[.p (.int .u64 y_T_Rate),.p (.int .i64 y_T_Over)],rfl,rfl,⟨[.p (.int .u64 y_T_Rate)],[.p (.int .i64 y_T_Over)],rfl,rfl,⟨[.p (.int .i64 y_T_Over)],[],rfl,rfl,rfl⟩⟩⟩,⟨[.p (.int .i64 y_N)],[],rfl,rfl,rfl⟩⟩⟩
structure z1t where
 Cap:Int
 Remb:Int
 f_L:(List z7)
 Until:(List Int)
def z1t.tp (x:z1t):(Int×(Int×((List z7)×((List Int)×Unit)))):=(x.Cap,(x.Remb,(x.f_L,(x.Until,()))))
structure z8 where
 f_At:Int
 Key:Int
def z8.tp (x:z8):(Int×(Int×Unit)):=(x.f_At,(x.Key,()))
def z5:Dt z8:=(dP (dI .i64) (dP (dI .u64) dU)).via z8.tp
theorem z5.inv {x:z8} {vs:List V} (h:z5.R x vs):vs=[.p (.int .i64 x.f_At),.p (.int .u64 x.Key)]:=by
 obtain ⟨u0,w0,e0,h0,u1,w1,e1,h1,hend⟩:=h
 obtain rfl:u0=[.p (.int .i64 x.f_At)]:=h0
 obtain rfl:u1=[.p (.int .u64 x.Key)]:=h1
 obtain rfl:=(show _=[] from hend)
 subst e1
 subst e0
 rfl
theorem z5.mk {y_f_At:Int} {y_Key:Int} :z5.R (⟨y_f_At,y_Key⟩:z8) [.p (.int .i64 y_f_At),.p (.int .u64 y_Key)]:=⟨[.p (.int .i64 y_f_At)],[.p (.int .u64 y_Key)],rfl,rfl,⟨[.p (.int .u64 y_Key)],[],rfl,rfl,rfl⟩⟩
structure z1q where
 l:(List z8)
def z1q.tp (x:z1q):((List z8)×Unit):=(x.l,())
structure z16 where
 cap:Int
 remb:Int
 told:Bool
 tuples:(List z7)
 ends:z1q
end Go.Ev
namespace Go.InsX
open Go.Proofs Go.Proofs.Ytocbjhoaamkonaa Go.Lib
open Go.RowKit (Below)
set_option maxRecDepth 1000000
set_option maxHeartbeats 2000000
set_option linter.unusedSimpArgs false
set_option linter.unusedVariables false
set_option maxHeartbeats 4000000 in
theorem ins_shift_73 (b off n c i vb voff m vc:Nat) (cs vs:List Value) (w:World) (hi:i<n) (hm:0<m) (hroom:n+m≤c) (h63:n+m≤9223372036854775807) (hvb:vb≠b)
  (hcl:cs.length=n*3) (hvl:vs.length=m*3)
  (hcs:∀ j v,cs[j]?=some v→w.cell? ⟨b,off+j,none⟩=some v) (hsp:∀ j,j<(n+m)*3→(w.cell? ⟨b,off+j,none⟩).isSome=true) (hfz:∀ j,w.frozen? ⟨b,j,none⟩=false)
  (hvs:∀ j v,vs[j]?=some v→w.cell? ⟨vb,voff+j,none⟩=some v) (h1c:∀ v∈cs,v.oneCell'=true) (h1v:∀ v∈vs,v.oneCell'=true)
  (tA tB:TypeId) (kA kB:Nat) (hsa:w.shape? vb=some (tA,kA)) (hsb:w.shape? b=some (tB,kB)) (hkA:kA≠0) (hkB:kB≠0) :
  Calls Try.prog 73 #[.slice (some ⟨b,off,none⟩) n c,.int .i64 i,.slice (some ⟨vb,voff,none⟩) m vc] w fun e w' =>
   e=.returned (.slice (some ⟨b,off,none⟩) (n+m) c)∧w'=(w.drew.setCells b (off+(i+m)*3) (cs.drop (i*3))).setCells b (off+i*3) vs:=by
 have ht:Try.prog.underlying 28=some (.slice 57):=by kernel_rfl
 obtain ⟨i0,hinf,hz0,hz1,hz2⟩:=info_parts (show (Try.prog.info? 57).map (fun i=>(i.zero,i.size,i.bytes))=some (some (.agg #[.int .u32 0,.int .u64 0,.int .i64 0]),3,24) from by kernel_rfl)
 have mixed:Try.prog.follows .mixedOrders=true:=by kernel_rfl
 have hz1':¬ ((m:Int)=0):=by omega
 have hz2':¬ ((i:Int)=(n:Int)):=by omega
 have hsz:(Try.prog.info? 57).map (·.size)=some 3:=by rw [hinf];simp [hz1]
 have hso:∀ w,(Go.sizeOf 57).run Try.prog w=.ok 3 w:=fun w=>by simp [sizeOf,typeInfo,hinf,hz1]
 have hov:∀ lb cb,(callFunc 110 #[.slice (some ⟨vb,voff,none⟩) m vc,.slice (some ⟨b,off+(i+m)*3,none⟩) lb cb]).run Try.prog w=.ok (.value (.bool false)) w:=fun lb cb=>by
  rw [run_callFunc_extern Try.func110 (by kernel_rfl) (by kernel_rfl) (by kernel_rfl) (e:=Extern.SlicesOverlaps.overlaps #[28,28] #[4]) (by kernel_rfl),
   Go.Ev.run_overlaps_clean w 28 4 57 ht 3 hso ⟨vb,voff,none⟩ ⟨b,off+(i+m)*3,none⟩ m vc lb cb hvb tA tB kA kB hsa hsb hkA hkB (hfz _) (hfz _)]
  rfl
 have hdl:(cs.drop (i*3)).length=(n-i)*3:=by rw [List.length_drop,hcl];omega
 have hw1:IntKind.i64.wrap ((i:Int)+(m:Int))=(i:Int)+(m:Int):=by rw [IntKind.wrap_i64];omega
 have hw2:IntKind.i64.wrap ((n:Int)+(m:Int))=(n:Int)+(m:Int):=by rw [IntKind.wrap_i64];omega
 have hb1:(0:Int)≤(i:Int)+(m:Int):=by omega
 have hin:i≤n:=by omega
 have htn:((i:Int)+(m:Int)).toNat=i+m:=by omega
 have hb2:¬ (c=i+m):=by omega
 have hb3:(i:Int)≤(n:Int)+(m:Int):=by omega
 have hb4:¬ (c=i):=by omega
 have hcp1:∀ ty dc sc,(Builtin.copy_ #[28,28] ty #[.slice (some ⟨b,off+(i+m)*3,none⟩) (n+m-(i+m)) dc,.slice (some ⟨b,off+i*3,none⟩) (n+m-i) sc]).run Try.prog w.drew=.ok (goInt ((n-i:Nat):Int)) (w.drew.setCells b (off+(i+m)*3) (cs.drop (i*3))):=fun ty dc sc =>
  Go.Ev.run_copy_k w.drew _ _ ty 57 b (off+(i+m)*3) (n+m-(i+m)) dc ⟨b,off+i*3,none⟩ (n+m-i) sc 3 (cs.drop (i*3)) ht hsz (n-i) (by simp only [Nat.min_def];split<;>omega) hdl
   (fun j v hj=>by rw [Addr.add_lit,Nat.add_assoc];exact hcs (i*3+j) v (by rwa [List.getElem?_drop] at hj))
   (fun j hj=>by rw [Nat.add_assoc];exact hsp _ (by omega)) (fun j hj=>hfz _) (fun v hv=>h1c v (List.mem_of_mem_drop hv))
 obtain ⟨W1,hW1⟩:∃ W1,W1=w.drew.setCells b (off+(i+m)*3) (cs.drop (i*3)):=⟨_,rfl⟩
 have hsp1:∀ k,k<(n+m)*3→(W1.cell? ⟨b,off+k,none⟩).isSome=true:=fun k hk=>by
  rw [hW1]
  exact isSome_setCells b _ _ _ (fun j hj=>by rw [Nat.add_assoc];exact hsp _ (by omega)) _ (hsp k hk)
 have hcp2:∀ (W:World),(∀ x,W.cell? x=W1.cell? x)→(∀ x,W.frozen? x=W1.frozen? x)→∀ ty dc,(Builtin.copy_ #[28,28] ty #[.slice (some ⟨b,off+i*3,none⟩) (n+m-i) dc,.slice (some ⟨vb,voff,none⟩) m vc]).run Try.prog W=.ok (goInt m) (W.setCells b (off+i*3) vs):=fun W hWc hWf ty dc =>
  Go.Ev.run_copy_k W _ _ ty 57 b (off+i*3) (n+m-i) dc ⟨vb,voff,none⟩ m vc 3 vs ht hsz m (by simp only [Nat.min_def];split<;>omega) hvl
   (fun j v hj=>by
    rw [Addr.add_lit,hWc,hW1,World.cell?_setCells_out b _ _ _ _ (fun h _=>absurd h hvb)]
    exact hvs j v hj)
   (fun j hj=>by rw [hWc,Nat.add_assoc];exact hsp1 _ (by omega)) (fun j hj=>by rw [hWf,hW1,World.frozen?_setCells];exact hfz _) h1v
 rw [← hW1] at hcp1
 go_enter Try.func73,Try.ntmps73
 go_wp2_with (simp only [hov])
 go_region_law_o (refine step_copy_runI rfl _ _ 28 28 rfl _ _ (by simp [Act.eval,Act.put]) (by simp [Act.eval,Act.put]) (hcp1 _ _ _) ?_)
 go_wp2_with (at_builtin;refine wpList_copy_runI _ rfl _ _ 28 28 rfl _ _ rfl rfl (hcp2 _ (fun _=>rfl) (fun _=>rfl) _ _) ?_)
 go_ret
 first | exact ⟨rfl,rfl⟩ | exact ⟨rfl,by rw [hW1]⟩
set_option maxHeartbeats 4000000 in
theorem ins_grow_73 (b off n c i vb voff m vc:Nat) (cs vs:List Value) (w:World) (hi:i<n) (hm:0<m) (hnc:n≤c) (hroom:c<n+m) (hbig:(n+m)*24≤140737488355328)
  (hcl:cs.length=n*3) (hvl:vs.length=m*3)
  (hcs:∀ j v,cs[j]?=some v→w.cell? ⟨b,off+j,none⟩=some v)
  (hvs:∀ j v,vs[j]?=some v→w.cell? ⟨vb,voff+j,none⟩=some v) (h1c:∀ v∈cs,v.oneCell'=true) (h1v:∀ v∈vs,v.oneCell'=true) :
  Calls Try.prog 73 #[.slice (some ⟨b,off,none⟩) n c,.int .i64 i,.slice (some ⟨vb,voff,none⟩) m vc] w fun e w' =>
   e=.returned (.slice (some ⟨w.heap.size,0,none⟩) (n+m) (grownCap w (n+m) c 57)) ∧
   w'=(((w.alloc (.cells ((cs.take (i*3)).toArray++Builtin.zeroCells ((.agg #[.int .u32 0,.int .u64 0,.int .i64 0]):Value).cells (n+m-i)++Builtin.zeroCells ((.agg #[.int .u32 0,.int .u64 0,.int .i64 0]):Value).cells (grownCap w (n+m) c 57-(n+m))) 57)).drew.setCells w.heap.size (i*3) vs).drew).setCells w.heap.size ((i+m)*3) (cs.drop (i*3)):=by
 have ht:Try.prog.underlying 28=some (.slice 57):=by kernel_rfl
 have ht3:Try.prog.underlying 3=some (.int .i64):=by kernel_rfl
 obtain ⟨i0,hi0,hz0,hzs,hzb⟩:=info_parts (show (Try.prog.info? 57).map (fun i=>(i.zero,i.size,i.bytes))=some (some (.agg #[.int .u32 0,.int .u64 0,.int .i64 0]),3,24) from by kernel_rfl)
 have mixed:Try.prog.follows .mixedOrders=true:=by kernel_rfl
 have hz1:¬ ((m:Int)=0):=by omega
 have hz2:¬ ((i:Int)=(n:Int)):=by omega
 have hz3:(c:Int)<(n:Int)+(m:Int):=by omega
 have hsz:(Try.prog.info? 57).map (·.size)=some 3:=by rw [hi0];simp [hzs]
 have hbw:b<w.heap.size:=block_lt_of_cell (hcs 0 _ (List.getElem?_eq_getElem (by omega)))
 have hvw:vb<w.heap.size:=block_lt_of_cell (hvs 0 _ (List.getElem?_eq_getElem (by omega)))
 have hkk:(n:Int)+(m:Int)-(i:Int)=((n+m-i:Nat):Int):=by omega
 have hik:i+(n+m-i)=n+m:=by omega
 have htl:(cs.take (i*3)).length=i*3:=by rw [List.length_take];omega
 have hold:(Builtin.firstCells i0.size i (.slice (some ⟨b,off,none⟩) i c)).run Try.prog w.drew=.ok (cs.take (i*3)).toArray w.drew:=by
  rw [hzs]
  have:=run_loadCells_list (P:=Try.prog) w.drew ⟨b,off,none⟩ (cs.take (i*3)) (fun j v hj=>by
   rw [Addr.add_lit]
   rw [List.getElem?_take] at hj
   split at hj
   ·exact hcs j v hj
   ·cases hj)
  rw [htl] at this
  exact this
 have hrz:∀ ty,(Builtin.append_ #[28,3] ty #[.slice (some ⟨b,off,none⟩) i c,.int .i64 ((n:Int)+(m:Int)-(i:Int))]).run Try.prog w =
   .ok (.slice (some ⟨w.heap.size,0,none⟩) (n+m) (grownCap w (n+m) c 57)) (w.drew.alloc (.cells ((cs.take (i*3)).toArray++Builtin.zeroCells ((.agg #[.int .u32 0,.int .u64 0,.int .i64 0]):Value).cells (n+m-i)++Builtin.zeroCells ((.agg #[.int .u32 0,.int .u64 0,.int .i64 0]):Value).cells (grownCap w (n+m) c 57-(n+m))) 57)):=fun ty=>by
  have h:=Lib.run_append_grow_zeros w 28 3 ty 57 i0 _ .i64 .i64 ht ht3 hi0 hz0 (some ⟨b,off,none⟩) i c (cs.take (i*3)) hold (n+m-i) (by omega) (by omega) (by omega) (by omega) (by rw [hzb];omega) (by rw [hzb,hik];exact growslice_fits hroom hbig)
  rw [hik] at h
  rw [hkk]
  exact h
 obtain ⟨G,hG⟩:∃ G,G=grownCap w (n+m) c 57:=⟨_,rfl⟩
 obtain ⟨ROW,hROW⟩:∃ ROW:Array Value,ROW=(cs.take (i*3)).toArray++Builtin.zeroCells ((.agg #[.int .u32 0,.int .u64 0,.int .i64 0]):Value).cells (n+m-i)++Builtin.zeroCells ((.agg #[.int .u32 0,.int .u64 0,.int .i64 0]):Value).cells (G-(n+m)):=⟨_,rfl⟩
 rw [← hG] at hrz ⊢
 rw [← hROW] at hrz ⊢
 have hRl:(n+m)*3≤ROW.size:=by
  rw [hROW]
  simp [Builtin.zeroCells,Value.cells]
  omega
 obtain ⟨W1,hW1⟩:∃ W1,W1=w.drew.alloc (.cells ROW 57):=⟨_,rfl⟩
 rw [← hW1] at hrz
 have hN:∀ j,j<(n+m)*3→(W1.cell? ⟨w.heap.size,j,none⟩).isSome=true:=fun j hj=>by
  rw [hW1,World.cell?_alloc_at (w:=w.drew) ROW _ w.heap.size j rfl,Array.getElem?_eq_getElem (by omega)];rfl
 have hNf:∀ j,W1.frozen? ⟨w.heap.size,j,none⟩=false:=fun j=>by rw [hW1];exact World.frozen?_alloc_at (w:=w.drew) ROW _ w.heap.size j rfl
 have hOb:∀ j v,w.cell? ⟨b,j,none⟩=some v→W1.cell? ⟨b,j,none⟩=some v:=fun j v h=>by rw [hW1,World.cell?_alloc_past (w:=w.drew) _ b j hbw];exact h
 have hOv:∀ j v,w.cell? ⟨vb,j,none⟩=some v→W1.cell? ⟨vb,j,none⟩=some v:=fun j v h=>by rw [hW1,World.cell?_alloc_past (w:=w.drew) _ vb j hvw];exact h
 have hcpA:∀ (W:World),(∀ x,W.cell? x=W1.cell? x)→(∀ x,W.frozen? x=W1.frozen? x)→∀ ty dc,(Builtin.copy_ #[28,28] ty #[.slice (some ⟨w.heap.size,i*3,none⟩) (n+m-i) dc,.slice (some ⟨vb,voff,none⟩) m vc]).run Try.prog W=.ok (goInt (m:Int)) (W.setCells w.heap.size (i*3) vs):=fun W hWc hWf ty dc =>
  Go.Ev.run_copy_k W _ _ ty 57 w.heap.size (i*3) (n+m-i) dc ⟨vb,voff,none⟩ m vc 3 vs ht hsz m (by simp only [Nat.min_def];split<;>omega) hvl
   (fun j v hj=>by rw [Addr.add_lit,hWc];exact hOv _ v (hvs j v hj))
   (fun j hj=>by rw [hWc];exact hN _ (by omega)) (fun j hj=>by rw [hWf];exact hNf _) h1v
 have hGn:n+m≤G:=by rw [hG];exact grownCap_ge w _ _ _
 have hG63:G≤9223372036854775807:=by
  have:=grownCap_le_maxLen w (n+m) c 57 (by unfold maxLen;omega)
  rw [← hG] at this
  unfold maxLen at this
  omega
 have hGi:¬ (G=i):=by omega
 have hGim:¬ (G=i+m):=by omega
 have hci:¬ (c=i):=by omega
 have hbN:b≠w.heap.size:=by omega
 have hdl:(cs.drop (i*3)).length=(n-i)*3:=by rw [List.length_drop,hcl];omega
 have hcpB:∀ (W:World),(∀ x,W.cell? x=(W1.setCells w.heap.size (i*3) vs).cell? x)→(∀ x,W.frozen? x=(W1.setCells w.heap.size (i*3) vs).frozen? x)→∀ ty dc sc,(Builtin.copy_ #[28,28] ty #[.slice (some ⟨w.heap.size,(i+m)*3,none⟩) (n+m-(i+m)) dc,.slice (some ⟨b,off+i*3,none⟩) (n-i) sc]).run Try.prog W=.ok (goInt ((n-i:Nat):Int)) (W.setCells w.heap.size ((i+m)*3) (cs.drop (i*3))):=fun W hWc hWf ty dc sc =>
  Go.Ev.run_copy_k W _ _ ty 57 w.heap.size ((i+m)*3) (n+m-(i+m)) dc ⟨b,off+i*3,none⟩ (n-i) sc 3 (cs.drop (i*3)) ht hsz (n-i) (by simp only [Nat.min_def];split<;>omega) hdl
   (fun j v hj=>by
    rw [Addr.add_lit,hWc,World.cell?_setCells_out _ _ _ _ _ (fun h _=>absurd h hbN),Nat.add_assoc]
    exact hOb _ v (hcs (i*3+j) v (by rwa [List.getElem?_drop] at hj)))
   (fun j hj=>by rw [hWc];exact isSome_setCells _ _ _ _ (fun t ht=>hN _ (by omega)) _ (hN _ (by omega)))
   (fun j hj=>by rw [hWf,World.frozen?_setCells];exact hNf _) (fun v hv=>h1c v (List.mem_of_mem_drop hv))
 subst hW1
 have hE1:∀ x,((w.alloc (.cells ROW 57)).drew).cell? x=(w.drew.alloc (.cells ROW 57)).cell? x:=fun x=>rfl
 have hE2:∀ x,((w.alloc (.cells ROW 57)).drew).frozen? x=(w.drew.alloc (.cells ROW 57)).frozen? x:=fun x=>rfl
 have hF1:∀ x,(((w.alloc (.cells ROW 57)).drew.setCells w.heap.size (i*3) vs).drew).cell? x=((w.drew.alloc (.cells ROW 57)).setCells w.heap.size (i*3) vs).cell? x:=fun x=>rfl
 have hF2:∀ x,(((w.alloc (.cells ROW 57)).drew.setCells w.heap.size (i*3) vs).drew).frozen? x=((w.drew.alloc (.cells ROW 57)).setCells w.heap.size (i*3) vs).frozen? x:=fun x=>rfl
 have hw1:IntKind.i64.wrap ((i:Int)+(m:Int))=(i:Int)+(m:Int):=by rw [IntKind.wrap_i64];omega
 have hb1:(0:Int)≤(i:Int)+(m:Int):=by omega
 have hin:i≤n:=by omega
 have htn:((i:Int)+(m:Int)).toNat=i+m:=by omega
 have hb3:(i:Int)≤(n:Int):=by omega
 clear hkk hik hold hROW hG hRl htl
 go_enter Try.func73,Try.ntmps73
 go_wp2_with (first
  | (at_builtin;refine Lib.wpList_append_run _ rfl _ _ _ _ rfl _ _ rfl rfl _ _ (hrz _) ?_)
  | (at_builtin;refine wpList_copy_runI _ rfl _ _ 28 28 rfl _ _ rfl rfl (hcpA _ hE1 hE2 _ _) ?_)
  | (at_builtin;refine wpList_copy_runI _ rfl _ _ 28 28 rfl _ _ rfl rfl (hcpB _ (fun _=>rfl) (fun _=>rfl) _ _ _) ?_))
 go_region_law_o (refine step_copy_runI rfl _ _ 28 28 rfl (.slice (some ⟨w.heap.size,(i+m)*3,none⟩) (n+m-(i+m)) (G-(i+m))) (.slice (some ⟨b,off+i*3,none⟩) (n-i) (c-i)) (by simp [Act.eval,Act.put]) (by simp [Act.eval,Act.put]) (hcpB _ hF1 hF2 3 (G-(i+m)) (c-i)) ?_)
 go_wp2
 go_ret
 exact ⟨rfl,rfl⟩
set_option maxHeartbeats 4000000 in
theorem ins_tail0_73 (vb vo m vc:Nat) (r:Value) (w w':World) (hm:0<m) (hr:(Builtin.append_ #[28,28] 28 #[.slice none 0 0,.slice (some ⟨vb,vo,none⟩) m vc]).run Try.prog w=.ok r w') :
  Calls Try.prog 73 #[.slice none 0 0,.int .i64 0,.slice (some ⟨vb,vo,none⟩) m vc] w fun e w2=>e=.returned r∧w2=w':=by
 have ht:Try.prog.underlying 28=some (.slice 57):=by kernel_rfl
 have mixed:Try.prog.follows .mixedOrders=true:=by kernel_rfl
 have hz1:¬ ((m:Int)=0):=by omega
 go_enter Try.func73,Try.ntmps73
 go_wp2_with (at_builtin;refine Lib.wpList_append_run _ rfl _ _ _ _ rfl _ _ rfl rfl _ _ hr ?_)
 go_ret
 exact ⟨rfl,rfl⟩
set_option maxHeartbeats 4000000 in
theorem ins_tail_73 (a:Addr) (n c vb vo m vc:Nat) (r:Value) (w w':World) (hm:0<m) (hnc:n≤c) (hr:(Builtin.append_ #[28,28] 28 #[.slice (some a) n c,.slice (some ⟨vb,vo,none⟩) m vc]).run Try.prog w=.ok r w') :
  Calls Try.prog 73 #[.slice (some a) n c,.int .i64 n,.slice (some ⟨vb,vo,none⟩) m vc] w fun e w2=>e=.returned r∧w2=w':=by
 have ht:Try.prog.underlying 28=some (.slice 57):=by kernel_rfl
 have mixed:Try.prog.follows .mixedOrders=true:=by kernel_rfl
 have hz1:¬ ((m:Int)=0):=by omega
 obtain ⟨b,o,sp⟩:=a
 go_enter Try.func73,Try.ntmps73
 go_wp2_with (at_builtin;refine Lib.wpList_append_run _ rfl _ _ _ _ rfl _ _ rfl rfl _ _ hr ?_)
 all_goals (go_ret;exact ⟨rfl,rfl⟩)
end Go.InsX
namespace Go.Ev
open Go.Proofs
def ownT:TypeId→Bool:=fun t=>[26,95,100,139].contains t
def frzF:FuncId→Bool:=fun f=>[78,121,83,41,40,68,107].contains f
def frzIn:FuncId→Bool:=fun f=>[].contains f
def frzMk:TypeId→Bool:=fun t=>[].contains t
noncomputable def G:Cfg:=⟨Try.prog,ownT,frzF,frzIn,frzMk⟩
def insT (f:FuncId):Option (Nat×Nat×Bool) :=
 if f=73 then some (3,24,false) else
 none
theorem ins_ok (f k b:Nat) (o:Bool) (h:insT f=some (k,b,o)):InsOk G f k b o:=by
 unfold insT at h
 split at h
 ·rename_i hf;subst hf;cases h
  exact ⟨⟨Try.f73,Try.func73,by kernel_rfl,by kernel_rfl⟩,InsX.ins_shift_73,fun b off n c i vb voff m vc cs vs w a1 a2 a3 a4 a5 a6 a7 a8 a9 a10 a11=>(InsX.ins_grow_73 b off n c i vb voff m vc cs vs w a1 a2 a3 a4 a5 a6 a7 a8 a9 a10 a11).mono fun e w' he=>⟨_,_,_,_,grownCap_ge _ _ _ _,by simp [Builtin.zeroCells,Value.cells],by simp [Builtin.zeroCells,Value.cells],he.1,he.2⟩,⟨28,28,fun _ _ _ _ _=>by kernel_rfl,InsX.ins_tail0_73,InsX.ins_tail_73⟩⟩
 cases h
noncomputable def X0:CallF:=insX insT
theorem x_ok (B:Nat):CallOk G B X0:=zv9 ins_ok B
theorem mixed:G.P.follows .mixedOrders=true:=by kernel_rfl
end Go.Ev
namespace Go.Ev
open Go.Proofs
set_option linter.unusedVariables false
set_option linter.unusedSimpArgs false
set_option maxRecDepth 100000
noncomputable section
abbrev KT1:=Exit→Env→H→Option (List C × H)
variable (rec : CallF) (loop : LoopV) (σ : Stamp)
theorem z98 (x0:V) (x1:V) (h:H):cvBody G rec loop 113 σ [x0,x1] h =
(lenO x0).bind fun t1 =>
(castI .i64 t1).bind fun n2 =>
(callO rec 143 (4::1::0::σ) [(.p (.int .u64 (IntKind.wrap .u64 n2)))] (List.replicate 14 []::h) (some 11)).bind fun q3 =>
(castI .i64 q3.1).bind fun n4 =>
(callO rec 142 (6::1::0::σ) [x0,(.p (.int .i64 0)),(.p (.int .i64 n2)),(.p (.int .i64 n4)),x1] q3.2 (some 13)).bind fun q5 =>
fin false σ q5.2 []:=by kernel_rfl
theorem zhv (x0:Int) (h:H):cvBody G rec loop 143 σ [(.p (.int .u64 x0))] h =
bif false then (
(callO rec 164 (2::0::0::1::0::σ) [(.p (.int .u32 (IntKind.wrap .u32 x0)))] (List.replicate 8 []::h) (some 5)).bind fun q1 =>
(castI .i64 q1.1).bind fun n2 =>
fin false σ q1.2 [(.p (.int .i64 n2))])
else (
(callO rec 165 (1::0::1::1::0::σ) [(.p (.int .u64 x0))] (List.replicate 8 []::h) (some 7)).bind fun q3 =>
(castI .i64 q3.1).bind fun n4 =>
fin false σ q3.2 [(.p (.int .i64 n4))]):=by kernel_rfl
theorem zgj (x0:Int) (h:H):cvBody G rec loop 165 σ [(.p (.int .u64 x0))] h =
bif decide (x0≥4294967296) then (
bif decide ((Int.fdiv x0 (2^32))≥65536) then (
bif decide ((Int.fdiv (Int.fdiv x0 (2^32)) (2^16))≥256) then (
(iStr ((⟨#[0,1,2,2,3,3,3,3,4,4,4,4,4,4,4,4,5,5,5,5,5,5,5,5,5,5,5,5,5,5,5,5,6,6,6,6,6,6,6,6,6,6,6,6,6,6,6,6,6,6,6,6,6,6,6,6,6,6,6,6,6,6,6,6,7,7,7,7,7,7,7,7,7,7,7,7,7,7,7,7,7,7,7,7,7,7,7,7,7,7,7,7,7,7,7,7,7,7,7,7,7,7,7,7,7,7,7,7,7,7,7,7,7,7,7,7,7,7,7,7,7,7,7,7,7,7,7,7,8,8,8,8,8,8,8,8,8,8,8,8,8,8,8,8,8,8,8,8,8,8,8,8,8,8,8,8,8,8,8,8,8,8,8,8,8,8,8,8,8,8,8,8,8,8,8,8,8,8,8,8,8,8,8,8,8,8,8,8,8,8,8,8,8,8,8,8,8,8,8,8,8,8,8,8,8,8,8,8,8,8,8,8,8,8,8,8,8,8,8,8,8,8,8,8,8,8,8,8,8,8,8,8,8,8,8,8,8,8,8,8,8,8,8,8,8,8,8,8,8,8,8,8,8,8,8,8]⟩:ByteArray)) (IntKind.wrap .u8 (Int.fdiv (Int.fdiv (Int.fdiv x0 (2^32)) (2^16)) (2^8)))).bind fun t1 =>
(castI .u8 t1).bind fun n2 =>
fin false σ (List.replicate 25 []::h) [(.p (.int .i64 (IntKind.wrap .i64 ((IntKind.wrap .i64 ((IntKind.wrap .i64 (32+16))+8))+(IntKind.wrap .i64 n2)))))])
else (
(iStr ((⟨#[0,1,2,2,3,3,3,3,4,4,4,4,4,4,4,4,5,5,5,5,5,5,5,5,5,5,5,5,5,5,5,5,6,6,6,6,6,6,6,6,6,6,6,6,6,6,6,6,6,6,6,6,6,6,6,6,6,6,6,6,6,6,6,6,7,7,7,7,7,7,7,7,7,7,7,7,7,7,7,7,7,7,7,7,7,7,7,7,7,7,7,7,7,7,7,7,7,7,7,7,7,7,7,7,7,7,7,7,7,7,7,7,7,7,7,7,7,7,7,7,7,7,7,7,7,7,7,7,8,8,8,8,8,8,8,8,8,8,8,8,8,8,8,8,8,8,8,8,8,8,8,8,8,8,8,8,8,8,8,8,8,8,8,8,8,8,8,8,8,8,8,8,8,8,8,8,8,8,8,8,8,8,8,8,8,8,8,8,8,8,8,8,8,8,8,8,8,8,8,8,8,8,8,8,8,8,8,8,8,8,8,8,8,8,8,8,8,8,8,8,8,8,8,8,8,8,8,8,8,8,8,8,8,8,8,8,8,8,8,8,8,8,8,8,8,8,8,8,8,8,8,8,8,8,8,8]⟩:ByteArray)) (IntKind.wrap .u8 (Int.fdiv (Int.fdiv x0 (2^32)) (2^16)))).bind fun t3 =>
(castI .u8 t3).bind fun n4 =>
fin false σ (List.replicate 25 []::h) [(.p (.int .i64 (IntKind.wrap .i64 ((IntKind.wrap .i64 (32+16))+(IntKind.wrap .i64 n4)))))]))
else (
bif decide ((Int.fdiv x0 (2^32))≥256) then (
(iStr ((⟨#[0,1,2,2,3,3,3,3,4,4,4,4,4,4,4,4,5,5,5,5,5,5,5,5,5,5,5,5,5,5,5,5,6,6,6,6,6,6,6,6,6,6,6,6,6,6,6,6,6,6,6,6,6,6,6,6,6,6,6,6,6,6,6,6,7,7,7,7,7,7,7,7,7,7,7,7,7,7,7,7,7,7,7,7,7,7,7,7,7,7,7,7,7,7,7,7,7,7,7,7,7,7,7,7,7,7,7,7,7,7,7,7,7,7,7,7,7,7,7,7,7,7,7,7,7,7,7,7,8,8,8,8,8,8,8,8,8,8,8,8,8,8,8,8,8,8,8,8,8,8,8,8,8,8,8,8,8,8,8,8,8,8,8,8,8,8,8,8,8,8,8,8,8,8,8,8,8,8,8,8,8,8,8,8,8,8,8,8,8,8,8,8,8,8,8,8,8,8,8,8,8,8,8,8,8,8,8,8,8,8,8,8,8,8,8,8,8,8,8,8,8,8,8,8,8,8,8,8,8,8,8,8,8,8,8,8,8,8,8,8,8,8,8,8,8,8,8,8,8,8,8,8,8,8,8,8]⟩:ByteArray)) (IntKind.wrap .u8 (Int.fdiv (Int.fdiv x0 (2^32)) (2^8)))).bind fun t5 =>
(castI .u8 t5).bind fun n6 =>
fin false σ (List.replicate 25 []::h) [(.p (.int .i64 (IntKind.wrap .i64 ((IntKind.wrap .i64 (32+8))+(IntKind.wrap .i64 n6)))))])
else (
(iStr ((⟨#[0,1,2,2,3,3,3,3,4,4,4,4,4,4,4,4,5,5,5,5,5,5,5,5,5,5,5,5,5,5,5,5,6,6,6,6,6,6,6,6,6,6,6,6,6,6,6,6,6,6,6,6,6,6,6,6,6,6,6,6,6,6,6,6,7,7,7,7,7,7,7,7,7,7,7,7,7,7,7,7,7,7,7,7,7,7,7,7,7,7,7,7,7,7,7,7,7,7,7,7,7,7,7,7,7,7,7,7,7,7,7,7,7,7,7,7,7,7,7,7,7,7,7,7,7,7,7,7,8,8,8,8,8,8,8,8,8,8,8,8,8,8,8,8,8,8,8,8,8,8,8,8,8,8,8,8,8,8,8,8,8,8,8,8,8,8,8,8,8,8,8,8,8,8,8,8,8,8,8,8,8,8,8,8,8,8,8,8,8,8,8,8,8,8,8,8,8,8,8,8,8,8,8,8,8,8,8,8,8,8,8,8,8,8,8,8,8,8,8,8,8,8,8,8,8,8,8,8,8,8,8,8,8,8,8,8,8,8,8,8,8,8,8,8,8,8,8,8,8,8,8,8,8,8,8,8]⟩:ByteArray)) (IntKind.wrap .u8 (Int.fdiv x0 (2^32)))).bind fun t7 =>
(castI .u8 t7).bind fun n8 =>
fin false σ (List.replicate 25 []::h) [(.p (.int .i64 (IntKind.wrap .i64 (32+(IntKind.wrap .i64 n8)))))])))
else (
bif decide (x0≥65536) then (
bif decide ((Int.fdiv x0 (2^16))≥256) then (
(iStr ((⟨#[0,1,2,2,3,3,3,3,4,4,4,4,4,4,4,4,5,5,5,5,5,5,5,5,5,5,5,5,5,5,5,5,6,6,6,6,6,6,6,6,6,6,6,6,6,6,6,6,6,6,6,6,6,6,6,6,6,6,6,6,6,6,6,6,7,7,7,7,7,7,7,7,7,7,7,7,7,7,7,7,7,7,7,7,7,7,7,7,7,7,7,7,7,7,7,7,7,7,7,7,7,7,7,7,7,7,7,7,7,7,7,7,7,7,7,7,7,7,7,7,7,7,7,7,7,7,7,7,8,8,8,8,8,8,8,8,8,8,8,8,8,8,8,8,8,8,8,8,8,8,8,8,8,8,8,8,8,8,8,8,8,8,8,8,8,8,8,8,8,8,8,8,8,8,8,8,8,8,8,8,8,8,8,8,8,8,8,8,8,8,8,8,8,8,8,8,8,8,8,8,8,8,8,8,8,8,8,8,8,8,8,8,8,8,8,8,8,8,8,8,8,8,8,8,8,8,8,8,8,8,8,8,8,8,8,8,8,8,8,8,8,8,8,8,8,8,8,8,8,8,8,8,8,8,8,8]⟩:ByteArray)) (IntKind.wrap .u8 (Int.fdiv (Int.fdiv x0 (2^16)) (2^8)))).bind fun t9 =>
(castI .u8 t9).bind fun n10 =>
fin false σ (List.replicate 25 []::h) [(.p (.int .i64 (IntKind.wrap .i64 ((IntKind.wrap .i64 ((IntKind.wrap .i64 (0+16))+8))+(IntKind.wrap .i64 n10)))))])
else (
(iStr ((⟨#[0,1,2,2,3,3,3,3,4,4,4,4,4,4,4,4,5,5,5,5,5,5,5,5,5,5,5,5,5,5,5,5,6,6,6,6,6,6,6,6,6,6,6,6,6,6,6,6,6,6,6,6,6,6,6,6,6,6,6,6,6,6,6,6,7,7,7,7,7,7,7,7,7,7,7,7,7,7,7,7,7,7,7,7,7,7,7,7,7,7,7,7,7,7,7,7,7,7,7,7,7,7,7,7,7,7,7,7,7,7,7,7,7,7,7,7,7,7,7,7,7,7,7,7,7,7,7,7,8,8,8,8,8,8,8,8,8,8,8,8,8,8,8,8,8,8,8,8,8,8,8,8,8,8,8,8,8,8,8,8,8,8,8,8,8,8,8,8,8,8,8,8,8,8,8,8,8,8,8,8,8,8,8,8,8,8,8,8,8,8,8,8,8,8,8,8,8,8,8,8,8,8,8,8,8,8,8,8,8,8,8,8,8,8,8,8,8,8,8,8,8,8,8,8,8,8,8,8,8,8,8,8,8,8,8,8,8,8,8,8,8,8,8,8,8,8,8,8,8,8,8,8,8,8,8,8]⟩:ByteArray)) (IntKind.wrap .u8 (Int.fdiv x0 (2^16)))).bind fun t11 =>
(castI .u8 t11).bind fun n12 =>
fin false σ (List.replicate 25 []::h) [(.p (.int .i64 (IntKind.wrap .i64 ((IntKind.wrap .i64 (0+16))+(IntKind.wrap .i64 n12)))))]))
else (
bif decide (x0≥256) then (
(iStr ((⟨#[0,1,2,2,3,3,3,3,4,4,4,4,4,4,4,4,5,5,5,5,5,5,5,5,5,5,5,5,5,5,5,5,6,6,6,6,6,6,6,6,6,6,6,6,6,6,6,6,6,6,6,6,6,6,6,6,6,6,6,6,6,6,6,6,7,7,7,7,7,7,7,7,7,7,7,7,7,7,7,7,7,7,7,7,7,7,7,7,7,7,7,7,7,7,7,7,7,7,7,7,7,7,7,7,7,7,7,7,7,7,7,7,7,7,7,7,7,7,7,7,7,7,7,7,7,7,7,7,8,8,8,8,8,8,8,8,8,8,8,8,8,8,8,8,8,8,8,8,8,8,8,8,8,8,8,8,8,8,8,8,8,8,8,8,8,8,8,8,8,8,8,8,8,8,8,8,8,8,8,8,8,8,8,8,8,8,8,8,8,8,8,8,8,8,8,8,8,8,8,8,8,8,8,8,8,8,8,8,8,8,8,8,8,8,8,8,8,8,8,8,8,8,8,8,8,8,8,8,8,8,8,8,8,8,8,8,8,8,8,8,8,8,8,8,8,8,8,8,8,8,8,8,8,8,8,8]⟩:ByteArray)) (IntKind.wrap .u8 (Int.fdiv x0 (2^8)))).bind fun t13 =>
(castI .u8 t13).bind fun n14 =>
fin false σ (List.replicate 25 []::h) [(.p (.int .i64 (IntKind.wrap .i64 ((IntKind.wrap .i64 (0+8))+(IntKind.wrap .i64 n14)))))])
else (
(iStr ((⟨#[0,1,2,2,3,3,3,3,4,4,4,4,4,4,4,4,5,5,5,5,5,5,5,5,5,5,5,5,5,5,5,5,6,6,6,6,6,6,6,6,6,6,6,6,6,6,6,6,6,6,6,6,6,6,6,6,6,6,6,6,6,6,6,6,7,7,7,7,7,7,7,7,7,7,7,7,7,7,7,7,7,7,7,7,7,7,7,7,7,7,7,7,7,7,7,7,7,7,7,7,7,7,7,7,7,7,7,7,7,7,7,7,7,7,7,7,7,7,7,7,7,7,7,7,7,7,7,7,8,8,8,8,8,8,8,8,8,8,8,8,8,8,8,8,8,8,8,8,8,8,8,8,8,8,8,8,8,8,8,8,8,8,8,8,8,8,8,8,8,8,8,8,8,8,8,8,8,8,8,8,8,8,8,8,8,8,8,8,8,8,8,8,8,8,8,8,8,8,8,8,8,8,8,8,8,8,8,8,8,8,8,8,8,8,8,8,8,8,8,8,8,8,8,8,8,8,8,8,8,8,8,8,8,8,8,8,8,8,8,8,8,8,8,8,8,8,8,8,8,8,8,8,8,8,8,8]⟩:ByteArray)) (IntKind.wrap .u8 x0)).bind fun t15 =>
(castI .u8 t15).bind fun n16 =>
fin false σ (List.replicate 25 []::h) [(.p (.int .i64 (IntKind.wrap .i64 (0+(IntKind.wrap .i64 n16)))))]))):=by kernel_rfl
end
end Go.Ev
namespace Go.Ev
open Go.Proofs
set_option linter.unusedVariables false
set_option linter.unusedSimpArgs false
set_option maxRecDepth 100000
section
variable {β α : Type} {Q : β→α→Prop} {K : Exit × Env × H→Option α}
def zbj (x0:Int):Option (Int) :=
bif decide (x0≥4294967296) then (
bif decide ((Int.fdiv x0 (2^32))≥65536) then (
bif decide ((Int.fdiv (Int.fdiv x0 (2^32)) (2^16))≥256) then (
(ixS ((⟨#[0,1,2,2,3,3,3,3,4,4,4,4,4,4,4,4,5,5,5,5,5,5,5,5,5,5,5,5,5,5,5,5,6,6,6,6,6,6,6,6,6,6,6,6,6,6,6,6,6,6,6,6,6,6,6,6,6,6,6,6,6,6,6,6,7,7,7,7,7,7,7,7,7,7,7,7,7,7,7,7,7,7,7,7,7,7,7,7,7,7,7,7,7,7,7,7,7,7,7,7,7,7,7,7,7,7,7,7,7,7,7,7,7,7,7,7,7,7,7,7,7,7,7,7,7,7,7,7,8,8,8,8,8,8,8,8,8,8,8,8,8,8,8,8,8,8,8,8,8,8,8,8,8,8,8,8,8,8,8,8,8,8,8,8,8,8,8,8,8,8,8,8,8,8,8,8,8,8,8,8,8,8,8,8,8,8,8,8,8,8,8,8,8,8,8,8,8,8,8,8,8,8,8,8,8,8,8,8,8,8,8,8,8,8,8,8,8,8,8,8,8,8,8,8,8,8,8,8,8,8,8,8,8,8,8,8,8,8,8,8,8,8,8,8,8,8,8,8,8,8,8,8,8,8,8,8]⟩:ByteArray)) (IntKind.wrap .u8 (Int.fdiv (Int.fdiv (Int.fdiv x0 (2^32)) (2^16)) (2^8)))).bind fun n4 =>
some ((IntKind.wrap .i64 ((IntKind.wrap .i64 ((IntKind.wrap .i64 (32+16))+8))+(IntKind.wrap .i64 n4)))))
else (
(ixS ((⟨#[0,1,2,2,3,3,3,3,4,4,4,4,4,4,4,4,5,5,5,5,5,5,5,5,5,5,5,5,5,5,5,5,6,6,6,6,6,6,6,6,6,6,6,6,6,6,6,6,6,6,6,6,6,6,6,6,6,6,6,6,6,6,6,6,7,7,7,7,7,7,7,7,7,7,7,7,7,7,7,7,7,7,7,7,7,7,7,7,7,7,7,7,7,7,7,7,7,7,7,7,7,7,7,7,7,7,7,7,7,7,7,7,7,7,7,7,7,7,7,7,7,7,7,7,7,7,7,7,8,8,8,8,8,8,8,8,8,8,8,8,8,8,8,8,8,8,8,8,8,8,8,8,8,8,8,8,8,8,8,8,8,8,8,8,8,8,8,8,8,8,8,8,8,8,8,8,8,8,8,8,8,8,8,8,8,8,8,8,8,8,8,8,8,8,8,8,8,8,8,8,8,8,8,8,8,8,8,8,8,8,8,8,8,8,8,8,8,8,8,8,8,8,8,8,8,8,8,8,8,8,8,8,8,8,8,8,8,8,8,8,8,8,8,8,8,8,8,8,8,8,8,8,8,8,8,8]⟩:ByteArray)) (IntKind.wrap .u8 (Int.fdiv (Int.fdiv x0 (2^32)) (2^16)))).bind fun n6 =>
some ((IntKind.wrap .i64 ((IntKind.wrap .i64 (32+16))+(IntKind.wrap .i64 n6))))))
else (
bif decide ((Int.fdiv x0 (2^32))≥256) then (
(ixS ((⟨#[0,1,2,2,3,3,3,3,4,4,4,4,4,4,4,4,5,5,5,5,5,5,5,5,5,5,5,5,5,5,5,5,6,6,6,6,6,6,6,6,6,6,6,6,6,6,6,6,6,6,6,6,6,6,6,6,6,6,6,6,6,6,6,6,7,7,7,7,7,7,7,7,7,7,7,7,7,7,7,7,7,7,7,7,7,7,7,7,7,7,7,7,7,7,7,7,7,7,7,7,7,7,7,7,7,7,7,7,7,7,7,7,7,7,7,7,7,7,7,7,7,7,7,7,7,7,7,7,8,8,8,8,8,8,8,8,8,8,8,8,8,8,8,8,8,8,8,8,8,8,8,8,8,8,8,8,8,8,8,8,8,8,8,8,8,8,8,8,8,8,8,8,8,8,8,8,8,8,8,8,8,8,8,8,8,8,8,8,8,8,8,8,8,8,8,8,8,8,8,8,8,8,8,8,8,8,8,8,8,8,8,8,8,8,8,8,8,8,8,8,8,8,8,8,8,8,8,8,8,8,8,8,8,8,8,8,8,8,8,8,8,8,8,8,8,8,8,8,8,8,8,8,8,8,8,8]⟩:ByteArray)) (IntKind.wrap .u8 (Int.fdiv (Int.fdiv x0 (2^32)) (2^8)))).bind fun n9 =>
some ((IntKind.wrap .i64 ((IntKind.wrap .i64 (32+8))+(IntKind.wrap .i64 n9)))))
else (
(ixS ((⟨#[0,1,2,2,3,3,3,3,4,4,4,4,4,4,4,4,5,5,5,5,5,5,5,5,5,5,5,5,5,5,5,5,6,6,6,6,6,6,6,6,6,6,6,6,6,6,6,6,6,6,6,6,6,6,6,6,6,6,6,6,6,6,6,6,7,7,7,7,7,7,7,7,7,7,7,7,7,7,7,7,7,7,7,7,7,7,7,7,7,7,7,7,7,7,7,7,7,7,7,7,7,7,7,7,7,7,7,7,7,7,7,7,7,7,7,7,7,7,7,7,7,7,7,7,7,7,7,7,8,8,8,8,8,8,8,8,8,8,8,8,8,8,8,8,8,8,8,8,8,8,8,8,8,8,8,8,8,8,8,8,8,8,8,8,8,8,8,8,8,8,8,8,8,8,8,8,8,8,8,8,8,8,8,8,8,8,8,8,8,8,8,8,8,8,8,8,8,8,8,8,8,8,8,8,8,8,8,8,8,8,8,8,8,8,8,8,8,8,8,8,8,8,8,8,8,8,8,8,8,8,8,8,8,8,8,8,8,8,8,8,8,8,8,8,8,8,8,8,8,8,8,8,8,8,8,8]⟩:ByteArray)) (IntKind.wrap .u8 (Int.fdiv x0 (2^32)))).bind fun n11 =>
some ((IntKind.wrap .i64 (32+(IntKind.wrap .i64 n11)))))))
else (
bif decide (x0≥65536) then (
bif decide ((Int.fdiv x0 (2^16))≥256) then (
(ixS ((⟨#[0,1,2,2,3,3,3,3,4,4,4,4,4,4,4,4,5,5,5,5,5,5,5,5,5,5,5,5,5,5,5,5,6,6,6,6,6,6,6,6,6,6,6,6,6,6,6,6,6,6,6,6,6,6,6,6,6,6,6,6,6,6,6,6,7,7,7,7,7,7,7,7,7,7,7,7,7,7,7,7,7,7,7,7,7,7,7,7,7,7,7,7,7,7,7,7,7,7,7,7,7,7,7,7,7,7,7,7,7,7,7,7,7,7,7,7,7,7,7,7,7,7,7,7,7,7,7,7,8,8,8,8,8,8,8,8,8,8,8,8,8,8,8,8,8,8,8,8,8,8,8,8,8,8,8,8,8,8,8,8,8,8,8,8,8,8,8,8,8,8,8,8,8,8,8,8,8,8,8,8,8,8,8,8,8,8,8,8,8,8,8,8,8,8,8,8,8,8,8,8,8,8,8,8,8,8,8,8,8,8,8,8,8,8,8,8,8,8,8,8,8,8,8,8,8,8,8,8,8,8,8,8,8,8,8,8,8,8,8,8,8,8,8,8,8,8,8,8,8,8,8,8,8,8,8,8]⟩:ByteArray)) (IntKind.wrap .u8 (Int.fdiv (Int.fdiv x0 (2^16)) (2^8)))).bind fun n15 =>
some ((IntKind.wrap .i64 ((IntKind.wrap .i64 ((IntKind.wrap .i64 (0+16))+8))+(IntKind.wrap .i64 n15)))))
else (
(ixS ((⟨#[0,1,2,2,3,3,3,3,4,4,4,4,4,4,4,4,5,5,5,5,5,5,5,5,5,5,5,5,5,5,5,5,6,6,6,6,6,6,6,6,6,6,6,6,6,6,6,6,6,6,6,6,6,6,6,6,6,6,6,6,6,6,6,6,7,7,7,7,7,7,7,7,7,7,7,7,7,7,7,7,7,7,7,7,7,7,7,7,7,7,7,7,7,7,7,7,7,7,7,7,7,7,7,7,7,7,7,7,7,7,7,7,7,7,7,7,7,7,7,7,7,7,7,7,7,7,7,7,8,8,8,8,8,8,8,8,8,8,8,8,8,8,8,8,8,8,8,8,8,8,8,8,8,8,8,8,8,8,8,8,8,8,8,8,8,8,8,8,8,8,8,8,8,8,8,8,8,8,8,8,8,8,8,8,8,8,8,8,8,8,8,8,8,8,8,8,8,8,8,8,8,8,8,8,8,8,8,8,8,8,8,8,8,8,8,8,8,8,8,8,8,8,8,8,8,8,8,8,8,8,8,8,8,8,8,8,8,8,8,8,8,8,8,8,8,8,8,8,8,8,8,8,8,8,8,8]⟩:ByteArray)) (IntKind.wrap .u8 (Int.fdiv x0 (2^16)))).bind fun n17 =>
some ((IntKind.wrap .i64 ((IntKind.wrap .i64 (0+16))+(IntKind.wrap .i64 n17))))))
else (
bif decide (x0≥256) then (
(ixS ((⟨#[0,1,2,2,3,3,3,3,4,4,4,4,4,4,4,4,5,5,5,5,5,5,5,5,5,5,5,5,5,5,5,5,6,6,6,6,6,6,6,6,6,6,6,6,6,6,6,6,6,6,6,6,6,6,6,6,6,6,6,6,6,6,6,6,7,7,7,7,7,7,7,7,7,7,7,7,7,7,7,7,7,7,7,7,7,7,7,7,7,7,7,7,7,7,7,7,7,7,7,7,7,7,7,7,7,7,7,7,7,7,7,7,7,7,7,7,7,7,7,7,7,7,7,7,7,7,7,7,8,8,8,8,8,8,8,8,8,8,8,8,8,8,8,8,8,8,8,8,8,8,8,8,8,8,8,8,8,8,8,8,8,8,8,8,8,8,8,8,8,8,8,8,8,8,8,8,8,8,8,8,8,8,8,8,8,8,8,8,8,8,8,8,8,8,8,8,8,8,8,8,8,8,8,8,8,8,8,8,8,8,8,8,8,8,8,8,8,8,8,8,8,8,8,8,8,8,8,8,8,8,8,8,8,8,8,8,8,8,8,8,8,8,8,8,8,8,8,8,8,8,8,8,8,8,8,8]⟩:ByteArray)) (IntKind.wrap .u8 (Int.fdiv x0 (2^8)))).bind fun n20 =>
some ((IntKind.wrap .i64 ((IntKind.wrap .i64 (0+8))+(IntKind.wrap .i64 n20)))))
else (
(ixS ((⟨#[0,1,2,2,3,3,3,3,4,4,4,4,4,4,4,4,5,5,5,5,5,5,5,5,5,5,5,5,5,5,5,5,6,6,6,6,6,6,6,6,6,6,6,6,6,6,6,6,6,6,6,6,6,6,6,6,6,6,6,6,6,6,6,6,7,7,7,7,7,7,7,7,7,7,7,7,7,7,7,7,7,7,7,7,7,7,7,7,7,7,7,7,7,7,7,7,7,7,7,7,7,7,7,7,7,7,7,7,7,7,7,7,7,7,7,7,7,7,7,7,7,7,7,7,7,7,7,7,8,8,8,8,8,8,8,8,8,8,8,8,8,8,8,8,8,8,8,8,8,8,8,8,8,8,8,8,8,8,8,8,8,8,8,8,8,8,8,8,8,8,8,8,8,8,8,8,8,8,8,8,8,8,8,8,8,8,8,8,8,8,8,8,8,8,8,8,8,8,8,8,8,8,8,8,8,8,8,8,8,8,8,8,8,8,8,8,8,8,8,8,8,8,8,8,8,8,8,8,8,8,8,8,8,8,8,8,8,8,8,8,8,8,8,8,8,8,8,8,8,8,8,8,8,8,8,8]⟩:ByteArray)) (IntKind.wrap .u8 x0)).bind fun n22 =>
some ((IntKind.wrap .i64 (0+(IntKind.wrap .i64 n22)))))))
theorem zio {h:H} {σ:Stamp} (x0:Int):Sim (zbj x0) (ev G X0 165 σ [(.p (.int .u64 x0))] h) (fun r s=>s=([.v (.p (.int .i64 r))],h)):=by
 refine .ev rfl (Sim.ext (zgj _ _ _ _ _) ?_)
 rw [zbj]
 have S0:Fm 25 h [] [] [] (List.replicate 25 []::h):=Fm.start0
 refine .cq ?_ ?_
 ·refine .cq ?_ ?_
  ·refine .cq ?_ ?_
   ·refine .bd fun n4 h5=>?_
    refine .op (ixS_ok h5) ?_
    refine .ci ?_
    exact .fin (S0.finN (lC (sI _ _).lv lN)) rfl
   refine .bd fun n6 h7=>?_
   refine .op (ixS_ok h7) ?_
   refine .ci ?_
   exact .fin (S0.finN (lC (sI _ _).lv lN)) rfl
  refine .cq ?_ ?_
  ·refine .bd fun n9 h10=>?_
   refine .op (ixS_ok h10) ?_
   refine .ci ?_
   exact .fin (S0.finN (lC (sI _ _).lv lN)) rfl
  refine .bd fun n11 h12=>?_
  refine .op (ixS_ok h12) ?_
  refine .ci ?_
  exact .fin (S0.finN (lC (sI _ _).lv lN)) rfl
 refine .cq ?_ ?_
 ·refine .cq ?_ ?_
  ·refine .bd fun n15 h16=>?_
   refine .op (ixS_ok h16) ?_
   refine .ci ?_
   exact .fin (S0.finN (lC (sI _ _).lv lN)) rfl
  refine .bd fun n17 h18=>?_
  refine .op (ixS_ok h18) ?_
  refine .ci ?_
  exact .fin (S0.finN (lC (sI _ _).lv lN)) rfl
 refine .cq ?_ ?_
 ·refine .bd fun n20 h21=>?_
  refine .op (ixS_ok h21) ?_
  refine .ci ?_
  exact .fin (S0.finN (lC (sI _ _).lv lN)) rfl
 refine .bd fun n22 h23=>?_
 refine .op (ixS_ok h23) ?_
 refine .ci ?_
 exact .fin (S0.finN (lC (sI _ _).lv lN)) rfl
def z50 (x0:Int):Option (Int) :=
(zbj x0).bind fun r1 =>
some (r1)
theorem zel {h:H} {σ:Stamp} (x0:Int):Sim (z50 x0) (ev G X0 143 σ [(.p (.int .u64 x0))] h) (fun r s=>s=([.v (.p (.int .i64 r))],h)):=by
 refine .ev rfl (Sim.ext (zhv _ _ _ _ _) ?_)
 rw [z50]
 have S0:Fm 8 h [] [] [] (List.replicate 8 []::h):=Fm.start0
 refine .cdf rfl ?_
 refine .call (zio x0) fun r1 cs2 H3 h4 q5=>?_
 cases q5
 refine .ci ?_
 exact .fin (S0.finN (lC (sI _ _).lv lN)) rfl
end
end Go.Ev
namespace Go.Ev
open Go.Proofs
set_option linter.unusedVariables false
set_option linter.unusedSimpArgs false
set_option maxRecDepth 100000
noncomputable section
abbrev KT2:=Exit→Env→H→Option (List C × H)
variable (rec : CallF) (loop : LoopV) (σ : Stamp)
def zd:Code:=(codeAt (bodyOf Try.f142) [1,1,0,0])
def zc:Lv:=⟨0,0,[(0,0)]⟩
def z7k (rec:CallF) (loop:LoopV) (σ:Stamp):KT2:=(kBlock 0 (finC G false Try.f142 (1::σ)))
theorem zao (x0:V) (x1:Int) (x2:Int) (x3:Int) (x4:V) (h:H):cvBody G rec loop 142 σ [x0,(.p (.int .i64 x1)),(.p (.int .i64 x2)),(.p (.int .i64 x3)),x4] h =
(loop zd zc (1::1::0::σ) (envL [(0,x0),(1,(.p (.int .i64 x1))),(2,(.p (.int .i64 x2))),(3,(.p (.int .i64 x3))),(4,x4),(10,(.p (.bool true))),(11,(.p (.bool true)))]) (List.replicate 148 []::h)).bind fun r1=>z7k rec loop σ r1.1 r1.2.1 r1.2.2:=by kernel_rfl
theorem zbk (x0:V) (x1:Int) (x2:Int) (x3:Int) (x4:V) (x10:Bool) (x11:Bool) (h:H):z1n G rec loop zd zc σ (envL [(0,x0),(1,(.p (.int .i64 x1))),(2,(.p (.int .i64 x2))),(3,(.p (.int .i64 x3))),(4,x4),(10,(.p (.bool x10))),(11,(.p (.bool x11)))]) h =
bif decide ((IntKind.wrap .i64 (x2-x1))≤12) then (
(callO rec 156 (4::0::1::0::1::0::σ) [x0,(.p (.int .i64 x1)),(.p (.int .i64 x2)),x4] h (some 30)).bind fun q2 =>
some (.ret,(envL []),q2.2))
else (
bif x3==0 then (
(callO rec 157 (4::0::1::0::1::1::0::σ) [x0,(.p (.int .i64 x1)),(.p (.int .i64 x2)),x4] h (some 37)).bind fun q3 =>
some (.ret,(envL []),q3.2))
else (
bif !x10 then (
(callO rec 158 (4::0::1::0::1::1::1::0::σ) [x0,(.p (.int .i64 x1)),(.p (.int .i64 x2)),x4] h (some 44)).bind fun q4 =>
(callO rec 159 (4::0::1::1::1::1::0::σ) [x0,(.p (.int .i64 x1)),(.p (.int .i64 x2)),x4] q4.2 (some 52)).bind fun q5 =>
(extV q5.1 0).bind fun t6 =>
(castI .i64 t6).bind fun n7 =>
(extV q5.1 1).bind fun t8 =>
(castI .i64 t8).bind fun n9 =>
bif n9==2 then (
(callO rec 160 (4::0::1::0::1::1::1::1::1::0::σ) [x0,(.p (.int .i64 x1)),(.p (.int .i64 x2)),x4] q5.2 (some 61)).bind fun q10 =>
(bif x10 then (some x11) else (some false)).bind fun b11 =>
(bif b11 then (some (1==1)) else (some false)).bind fun b12 =>
bif b12 then (
(callO rec 161 (4::0::1::0::1::1::1::1::1::1::0::σ) [x0,(.p (.int .i64 x1)),(.p (.int .i64 x2)),x4] q10.2 (some 80)).bind fun q13 =>
(asB q13.1).bind fun b14 =>
bif b14 then (
some (.ret,(envL []),q13.2))
else (
(bif decide (x1>0) then ((iS 2 x0 (IntKind.wrap .i64 (x1-1))).bind fun t15 =>
(ldO true 2 q13.2 t15).bind fun t16 =>
(iS 2 x0 (IntKind.wrap .i64 ((IntKind.wrap .i64 (x2-1))-(IntKind.wrap .i64 (n7-x1))))).bind fun t17 =>
(ldO true 2 q13.2 t17).bind fun t18 =>
(cloO rec x4 (13::0::0::1::1::1::1::1::1::1::0::σ) [t16,t18] q13.2 (some 94)).bind fun q19 =>
(castI .i64 q19.1).bind fun n20 =>
some ((.p (.bool (!(decide (n20<0))))),q19.2)) else (some ((.p (.bool false)),q13.2))).bind fun q21 =>
(asB q21.1).bind fun b22 =>
bif b22 then (
(callO rec 162 (5::0::1::0::1::1::1::1::1::1::1::0::σ) [x0,(.p (.int .i64 x1)),(.p (.int .i64 x2)),(.p (.int .i64 (IntKind.wrap .i64 ((IntKind.wrap .i64 (x2-1))-(IntKind.wrap .i64 (n7-x1)))))),x4] q21.2 (some 103)).bind fun q23 =>
(castI .i64 q23.1).bind fun n24 =>
loop zd zc (1::σ) (envL [(0,x0),(1,(.p (.int .i64 n24))),(2,(.p (.int .i64 x2))),(3,(.p (.int .i64 (IntKind.wrap .i64 (x3-1))))),(4,x4),(10,(.p (.bool x10))),(11,(.p (.bool x11)))]) q23.2)
else (
(callO rec 163 (5::0::1::1::1::1::1::1::1::1::0::σ) [x0,(.p (.int .i64 x1)),(.p (.int .i64 x2)),(.p (.int .i64 (IntKind.wrap .i64 ((IntKind.wrap .i64 (x2-1))-(IntKind.wrap .i64 (n7-x1)))))),x4] q21.2 (some 111)).bind fun q25 =>
(extV q25.1 0).bind fun t26 =>
(castI .i64 t26).bind fun n27 =>
(extV q25.1 1).bind fun t28 =>
(asB t28).bind fun b29 =>
bif decide ((IntKind.wrap .i64 (n27-x1))<(IntKind.wrap .i64 (x2-n27))) then (
(callO rec 142 (5::0::1::1::1::1::1::1::1::1::1::1::1::1::1::1::0::σ) [x0,(.p (.int .i64 x1)),(.p (.int .i64 n27)),(.p (.int .i64 (IntKind.wrap .i64 (x3-1)))),x4] q25.2 (some 134)).bind fun q30 =>
loop zd zc (1::σ) (envL [(0,x0),(1,(.p (.int .i64 (IntKind.wrap .i64 (n27+1))))),(2,(.p (.int .i64 x2))),(3,(.p (.int .i64 (IntKind.wrap .i64 (x3-1))))),(4,x4),(10,(.p (.bool (decide ((IntKind.wrap .i64 (n27-x1))≥(IntKind.wrap .i64 (Int.tdiv (IntKind.wrap .i64 (x2-x1)) 8))))))),(11,(.p (.bool b29)))]) q30.2)
else (
(callO rec 142 (6::0::1::1::1::1::1::1::1::1::1::1::1::1::1::1::0::σ) [x0,(.p (.int .i64 (IntKind.wrap .i64 (n27+1)))),(.p (.int .i64 x2)),(.p (.int .i64 (IntKind.wrap .i64 (x3-1)))),x4] q25.2 (some 146)).bind fun q31 =>
loop zd zc (1::σ) (envL [(0,x0),(1,(.p (.int .i64 x1))),(2,(.p (.int .i64 n27))),(3,(.p (.int .i64 (IntKind.wrap .i64 (x3-1))))),(4,x4),(10,(.p (.bool (decide ((IntKind.wrap .i64 (x2-n27))≥(IntKind.wrap .i64 (Int.tdiv (IntKind.wrap .i64 (x2-x1)) 8))))))),(11,(.p (.bool b29)))]) q31.2))))
else (
(bif decide (x1>0) then ((iS 2 x0 (IntKind.wrap .i64 (x1-1))).bind fun t32 =>
(ldO true 2 q10.2 t32).bind fun t33 =>
(iS 2 x0 (IntKind.wrap .i64 ((IntKind.wrap .i64 (x2-1))-(IntKind.wrap .i64 (n7-x1))))).bind fun t34 =>
(ldO true 2 q10.2 t34).bind fun t35 =>
(cloO rec x4 (13::0::0::1::1::1::1::1::1::1::0::σ) [t33,t35] q10.2 (some 94)).bind fun q36 =>
(castI .i64 q36.1).bind fun n37 =>
some ((.p (.bool (!(decide (n37<0))))),q36.2)) else (some ((.p (.bool false)),q10.2))).bind fun q38 =>
(asB q38.1).bind fun b39 =>
bif b39 then (
(callO rec 162 (5::0::1::0::1::1::1::1::1::1::1::0::σ) [x0,(.p (.int .i64 x1)),(.p (.int .i64 x2)),(.p (.int .i64 (IntKind.wrap .i64 ((IntKind.wrap .i64 (x2-1))-(IntKind.wrap .i64 (n7-x1)))))),x4] q38.2 (some 103)).bind fun q40 =>
(castI .i64 q40.1).bind fun n41 =>
loop zd zc (1::σ) (envL [(0,x0),(1,(.p (.int .i64 n41))),(2,(.p (.int .i64 x2))),(3,(.p (.int .i64 (IntKind.wrap .i64 (x3-1))))),(4,x4),(10,(.p (.bool x10))),(11,(.p (.bool x11)))]) q40.2)
else (
(callO rec 163 (5::0::1::1::1::1::1::1::1::1::0::σ) [x0,(.p (.int .i64 x1)),(.p (.int .i64 x2)),(.p (.int .i64 (IntKind.wrap .i64 ((IntKind.wrap .i64 (x2-1))-(IntKind.wrap .i64 (n7-x1)))))),x4] q38.2 (some 111)).bind fun q42 =>
(extV q42.1 0).bind fun t43 =>
(castI .i64 t43).bind fun n44 =>
(extV q42.1 1).bind fun t45 =>
(asB t45).bind fun b46 =>
bif decide ((IntKind.wrap .i64 (n44-x1))<(IntKind.wrap .i64 (x2-n44))) then (
(callO rec 142 (5::0::1::1::1::1::1::1::1::1::1::1::1::1::1::1::0::σ) [x0,(.p (.int .i64 x1)),(.p (.int .i64 n44)),(.p (.int .i64 (IntKind.wrap .i64 (x3-1)))),x4] q42.2 (some 134)).bind fun q47 =>
loop zd zc (1::σ) (envL [(0,x0),(1,(.p (.int .i64 (IntKind.wrap .i64 (n44+1))))),(2,(.p (.int .i64 x2))),(3,(.p (.int .i64 (IntKind.wrap .i64 (x3-1))))),(4,x4),(10,(.p (.bool (decide ((IntKind.wrap .i64 (n44-x1))≥(IntKind.wrap .i64 (Int.tdiv (IntKind.wrap .i64 (x2-x1)) 8))))))),(11,(.p (.bool b46)))]) q47.2)
else (
(callO rec 142 (6::0::1::1::1::1::1::1::1::1::1::1::1::1::1::1::0::σ) [x0,(.p (.int .i64 (IntKind.wrap .i64 (n44+1)))),(.p (.int .i64 x2)),(.p (.int .i64 (IntKind.wrap .i64 (x3-1)))),x4] q42.2 (some 146)).bind fun q48 =>
loop zd zc (1::σ) (envL [(0,x0),(1,(.p (.int .i64 x1))),(2,(.p (.int .i64 n44))),(3,(.p (.int .i64 (IntKind.wrap .i64 (x3-1))))),(4,x4),(10,(.p (.bool (decide ((IntKind.wrap .i64 (x2-n44))≥(IntKind.wrap .i64 (Int.tdiv (IntKind.wrap .i64 (x2-x1)) 8))))))),(11,(.p (.bool b46)))]) q48.2))))
else (
(bif x10 then (some x11) else (some false)).bind fun b49 =>
(bif b49 then (some (n9==1)) else (some false)).bind fun b50 =>
bif b50 then (
(callO rec 161 (4::0::1::0::1::1::1::1::1::1::0::σ) [x0,(.p (.int .i64 x1)),(.p (.int .i64 x2)),x4] q5.2 (some 80)).bind fun q51 =>
(asB q51.1).bind fun b52 =>
bif b52 then (
some (.ret,(envL []),q51.2))
else (
(bif decide (x1>0) then ((iS 2 x0 (IntKind.wrap .i64 (x1-1))).bind fun t53 =>
(ldO true 2 q51.2 t53).bind fun t54 =>
(iS 2 x0 n7).bind fun t55 =>
(ldO true 2 q51.2 t55).bind fun t56 =>
(cloO rec x4 (13::0::0::1::1::1::1::1::1::1::0::σ) [t54,t56] q51.2 (some 94)).bind fun q57 =>
(castI .i64 q57.1).bind fun n58 =>
some ((.p (.bool (!(decide (n58<0))))),q57.2)) else (some ((.p (.bool false)),q51.2))).bind fun q59 =>
(asB q59.1).bind fun b60 =>
bif b60 then (
(callO rec 162 (5::0::1::0::1::1::1::1::1::1::1::0::σ) [x0,(.p (.int .i64 x1)),(.p (.int .i64 x2)),(.p (.int .i64 n7)),x4] q59.2 (some 103)).bind fun q61 =>
(castI .i64 q61.1).bind fun n62 =>
loop zd zc (1::σ) (envL [(0,x0),(1,(.p (.int .i64 n62))),(2,(.p (.int .i64 x2))),(3,(.p (.int .i64 (IntKind.wrap .i64 (x3-1))))),(4,x4),(10,(.p (.bool x10))),(11,(.p (.bool x11)))]) q61.2)
else (
(callO rec 163 (5::0::1::1::1::1::1::1::1::1::0::σ) [x0,(.p (.int .i64 x1)),(.p (.int .i64 x2)),(.p (.int .i64 n7)),x4] q59.2 (some 111)).bind fun q63 =>
(extV q63.1 0).bind fun t64 =>
(castI .i64 t64).bind fun n65 =>
(extV q63.1 1).bind fun t66 =>
(asB t66).bind fun b67 =>
bif decide ((IntKind.wrap .i64 (n65-x1))<(IntKind.wrap .i64 (x2-n65))) then (
(callO rec 142 (5::0::1::1::1::1::1::1::1::1::1::1::1::1::1::1::0::σ) [x0,(.p (.int .i64 x1)),(.p (.int .i64 n65)),(.p (.int .i64 (IntKind.wrap .i64 (x3-1)))),x4] q63.2 (some 134)).bind fun q68 =>
loop zd zc (1::σ) (envL [(0,x0),(1,(.p (.int .i64 (IntKind.wrap .i64 (n65+1))))),(2,(.p (.int .i64 x2))),(3,(.p (.int .i64 (IntKind.wrap .i64 (x3-1))))),(4,x4),(10,(.p (.bool (decide ((IntKind.wrap .i64 (n65-x1))≥(IntKind.wrap .i64 (Int.tdiv (IntKind.wrap .i64 (x2-x1)) 8))))))),(11,(.p (.bool b67)))]) q68.2)
else (
(callO rec 142 (6::0::1::1::1::1::1::1::1::1::1::1::1::1::1::1::0::σ) [x0,(.p (.int .i64 (IntKind.wrap .i64 (n65+1)))),(.p (.int .i64 x2)),(.p (.int .i64 (IntKind.wrap .i64 (x3-1)))),x4] q63.2 (some 146)).bind fun q69 =>
loop zd zc (1::σ) (envL [(0,x0),(1,(.p (.int .i64 x1))),(2,(.p (.int .i64 n65))),(3,(.p (.int .i64 (IntKind.wrap .i64 (x3-1))))),(4,x4),(10,(.p (.bool (decide ((IntKind.wrap .i64 (x2-n65))≥(IntKind.wrap .i64 (Int.tdiv (IntKind.wrap .i64 (x2-x1)) 8))))))),(11,(.p (.bool b67)))]) q69.2))))
else (
(bif decide (x1>0) then ((iS 2 x0 (IntKind.wrap .i64 (x1-1))).bind fun t70 =>
(ldO true 2 q5.2 t70).bind fun t71 =>
(iS 2 x0 n7).bind fun t72 =>
(ldO true 2 q5.2 t72).bind fun t73 =>
(cloO rec x4 (13::0::0::1::1::1::1::1::1::1::0::σ) [t71,t73] q5.2 (some 94)).bind fun q74 =>
(castI .i64 q74.1).bind fun n75 =>
some ((.p (.bool (!(decide (n75<0))))),q74.2)) else (some ((.p (.bool false)),q5.2))).bind fun q76 =>
(asB q76.1).bind fun b77 =>
bif b77 then (
(callO rec 162 (5::0::1::0::1::1::1::1::1::1::1::0::σ) [x0,(.p (.int .i64 x1)),(.p (.int .i64 x2)),(.p (.int .i64 n7)),x4] q76.2 (some 103)).bind fun q78 =>
(castI .i64 q78.1).bind fun n79 =>
loop zd zc (1::σ) (envL [(0,x0),(1,(.p (.int .i64 n79))),(2,(.p (.int .i64 x2))),(3,(.p (.int .i64 (IntKind.wrap .i64 (x3-1))))),(4,x4),(10,(.p (.bool x10))),(11,(.p (.bool x11)))]) q78.2)
else (
(callO rec 163 (5::0::1::1::1::1::1::1::1::1::0::σ) [x0,(.p (.int .i64 x1)),(.p (.int .i64 x2)),(.p (.int .i64 n7)),x4] q76.2 (some 111)).bind fun q80 =>
(extV q80.1 0).bind fun t81 =>
(castI .i64 t81).bind fun n82 =>
(extV q80.1 1).bind fun t83 =>
(asB t83).bind fun b84 =>
bif decide ((IntKind.wrap .i64 (n82-x1))<(IntKind.wrap .i64 (x2-n82))) then (
(callO rec 142 (5::0::1::1::1::1::1::1::1::1::1::1::1::1::1::1::0::σ) [x0,(.p (.int .i64 x1)),(.p (.int .i64 n82)),(.p (.int .i64 (IntKind.wrap .i64 (x3-1)))),x4] q80.2 (some 134)).bind fun q85 =>
loop zd zc (1::σ) (envL [(0,x0),(1,(.p (.int .i64 (IntKind.wrap .i64 (n82+1))))),(2,(.p (.int .i64 x2))),(3,(.p (.int .i64 (IntKind.wrap .i64 (x3-1))))),(4,x4),(10,(.p (.bool (decide ((IntKind.wrap .i64 (n82-x1))≥(IntKind.wrap .i64 (Int.tdiv (IntKind.wrap .i64 (x2-x1)) 8))))))),(11,(.p (.bool b84)))]) q85.2)
else (
(callO rec 142 (6::0::1::1::1::1::1::1::1::1::1::1::1::1::1::1::0::σ) [x0,(.p (.int .i64 (IntKind.wrap .i64 (n82+1)))),(.p (.int .i64 x2)),(.p (.int .i64 (IntKind.wrap .i64 (x3-1)))),x4] q80.2 (some 146)).bind fun q86 =>
loop zd zc (1::σ) (envL [(0,x0),(1,(.p (.int .i64 x1))),(2,(.p (.int .i64 n82))),(3,(.p (.int .i64 (IntKind.wrap .i64 (x3-1))))),(4,x4),(10,(.p (.bool (decide ((IntKind.wrap .i64 (x2-n82))≥(IntKind.wrap .i64 (Int.tdiv (IntKind.wrap .i64 (x2-x1)) 8))))))),(11,(.p (.bool b84)))]) q86.2)))))
else (
(callO rec 159 (4::0::1::1::1::1::0::σ) [x0,(.p (.int .i64 x1)),(.p (.int .i64 x2)),x4] h (some 52)).bind fun q87 =>
(extV q87.1 0).bind fun t88 =>
(castI .i64 t88).bind fun n89 =>
(extV q87.1 1).bind fun t90 =>
(castI .i64 t90).bind fun n91 =>
bif n91==2 then (
(callO rec 160 (4::0::1::0::1::1::1::1::1::0::σ) [x0,(.p (.int .i64 x1)),(.p (.int .i64 x2)),x4] q87.2 (some 61)).bind fun q92 =>
(bif x10 then (some x11) else (some false)).bind fun b93 =>
(bif b93 then (some (1==1)) else (some false)).bind fun b94 =>
bif b94 then (
(callO rec 161 (4::0::1::0::1::1::1::1::1::1::0::σ) [x0,(.p (.int .i64 x1)),(.p (.int .i64 x2)),x4] q92.2 (some 80)).bind fun q95 =>
(asB q95.1).bind fun b96 =>
bif b96 then (
some (.ret,(envL []),q95.2))
else (
(bif decide (x1>0) then ((iS 2 x0 (IntKind.wrap .i64 (x1-1))).bind fun t97 =>
(ldO true 2 q95.2 t97).bind fun t98 =>
(iS 2 x0 (IntKind.wrap .i64 ((IntKind.wrap .i64 (x2-1))-(IntKind.wrap .i64 (n89-x1))))).bind fun t99 =>
(ldO true 2 q95.2 t99).bind fun t100 =>
(cloO rec x4 (13::0::0::1::1::1::1::1::1::1::0::σ) [t98,t100] q95.2 (some 94)).bind fun q101 =>
(castI .i64 q101.1).bind fun n102 =>
some ((.p (.bool (!(decide (n102<0))))),q101.2)) else (some ((.p (.bool false)),q95.2))).bind fun q103 =>
(asB q103.1).bind fun b104 =>
bif b104 then (
(callO rec 162 (5::0::1::0::1::1::1::1::1::1::1::0::σ) [x0,(.p (.int .i64 x1)),(.p (.int .i64 x2)),(.p (.int .i64 (IntKind.wrap .i64 ((IntKind.wrap .i64 (x2-1))-(IntKind.wrap .i64 (n89-x1)))))),x4] q103.2 (some 103)).bind fun q105 =>
(castI .i64 q105.1).bind fun n106 =>
loop zd zc (1::σ) (envL [(0,x0),(1,(.p (.int .i64 n106))),(2,(.p (.int .i64 x2))),(3,(.p (.int .i64 x3))),(4,x4),(10,(.p (.bool x10))),(11,(.p (.bool x11)))]) q105.2)
else (
(callO rec 163 (5::0::1::1::1::1::1::1::1::1::0::σ) [x0,(.p (.int .i64 x1)),(.p (.int .i64 x2)),(.p (.int .i64 (IntKind.wrap .i64 ((IntKind.wrap .i64 (x2-1))-(IntKind.wrap .i64 (n89-x1)))))),x4] q103.2 (some 111)).bind fun q107 =>
(extV q107.1 0).bind fun t108 =>
(castI .i64 t108).bind fun n109 =>
(extV q107.1 1).bind fun t110 =>
(asB t110).bind fun b111 =>
bif decide ((IntKind.wrap .i64 (n109-x1))<(IntKind.wrap .i64 (x2-n109))) then (
(callO rec 142 (5::0::1::1::1::1::1::1::1::1::1::1::1::1::1::1::0::σ) [x0,(.p (.int .i64 x1)),(.p (.int .i64 n109)),(.p (.int .i64 x3)),x4] q107.2 (some 134)).bind fun q112 =>
loop zd zc (1::σ) (envL [(0,x0),(1,(.p (.int .i64 (IntKind.wrap .i64 (n109+1))))),(2,(.p (.int .i64 x2))),(3,(.p (.int .i64 x3))),(4,x4),(10,(.p (.bool (decide ((IntKind.wrap .i64 (n109-x1))≥(IntKind.wrap .i64 (Int.tdiv (IntKind.wrap .i64 (x2-x1)) 8))))))),(11,(.p (.bool b111)))]) q112.2)
else (
(callO rec 142 (6::0::1::1::1::1::1::1::1::1::1::1::1::1::1::1::0::σ) [x0,(.p (.int .i64 (IntKind.wrap .i64 (n109+1)))),(.p (.int .i64 x2)),(.p (.int .i64 x3)),x4] q107.2 (some 146)).bind fun q113 =>
loop zd zc (1::σ) (envL [(0,x0),(1,(.p (.int .i64 x1))),(2,(.p (.int .i64 n109))),(3,(.p (.int .i64 x3))),(4,x4),(10,(.p (.bool (decide ((IntKind.wrap .i64 (x2-n109))≥(IntKind.wrap .i64 (Int.tdiv (IntKind.wrap .i64 (x2-x1)) 8))))))),(11,(.p (.bool b111)))]) q113.2))))
else (
(bif decide (x1>0) then ((iS 2 x0 (IntKind.wrap .i64 (x1-1))).bind fun t114 =>
(ldO true 2 q92.2 t114).bind fun t115 =>
(iS 2 x0 (IntKind.wrap .i64 ((IntKind.wrap .i64 (x2-1))-(IntKind.wrap .i64 (n89-x1))))).bind fun t116 =>
(ldO true 2 q92.2 t116).bind fun t117 =>
(cloO rec x4 (13::0::0::1::1::1::1::1::1::1::0::σ) [t115,t117] q92.2 (some 94)).bind fun q118 =>
(castI .i64 q118.1).bind fun n119 =>
some ((.p (.bool (!(decide (n119<0))))),q118.2)) else (some ((.p (.bool false)),q92.2))).bind fun q120 =>
(asB q120.1).bind fun b121 =>
bif b121 then (
(callO rec 162 (5::0::1::0::1::1::1::1::1::1::1::0::σ) [x0,(.p (.int .i64 x1)),(.p (.int .i64 x2)),(.p (.int .i64 (IntKind.wrap .i64 ((IntKind.wrap .i64 (x2-1))-(IntKind.wrap .i64 (n89-x1)))))),x4] q120.2 (some 103)).bind fun q122 =>
(castI .i64 q122.1).bind fun n123 =>
loop zd zc (1::σ) (envL [(0,x0),(1,(.p (.int .i64 n123))),(2,(.p (.int .i64 x2))),(3,(.p (.int .i64 x3))),(4,x4),(10,(.p (.bool x10))),(11,(.p (.bool x11)))]) q122.2)
else (
(callO rec 163 (5::0::1::1::1::1::1::1::1::1::0::σ) [x0,(.p (.int .i64 x1)),(.p (.int .i64 x2)),(.p (.int .i64 (IntKind.wrap .i64 ((IntKind.wrap .i64 (x2-1))-(IntKind.wrap .i64 (n89-x1)))))),x4] q120.2 (some 111)).bind fun q124 =>
(extV q124.1 0).bind fun t125 =>
(castI .i64 t125).bind fun n126 =>
(extV q124.1 1).bind fun t127 =>
(asB t127).bind fun b128 =>
bif decide ((IntKind.wrap .i64 (n126-x1))<(IntKind.wrap .i64 (x2-n126))) then (
(callO rec 142 (5::0::1::1::1::1::1::1::1::1::1::1::1::1::1::1::0::σ) [x0,(.p (.int .i64 x1)),(.p (.int .i64 n126)),(.p (.int .i64 x3)),x4] q124.2 (some 134)).bind fun q129 =>
loop zd zc (1::σ) (envL [(0,x0),(1,(.p (.int .i64 (IntKind.wrap .i64 (n126+1))))),(2,(.p (.int .i64 x2))),(3,(.p (.int .i64 x3))),(4,x4),(10,(.p (.bool (decide ((IntKind.wrap .i64 (n126-x1))≥(IntKind.wrap .i64 (Int.tdiv (IntKind.wrap .i64 (x2-x1)) 8))))))),(11,(.p (.bool b128)))]) q129.2)
else (
(callO rec 142 (6::0::1::1::1::1::1::1::1::1::1::1::1::1::1::1::0::σ) [x0,(.p (.int .i64 (IntKind.wrap .i64 (n126+1)))),(.p (.int .i64 x2)),(.p (.int .i64 x3)),x4] q124.2 (some 146)).bind fun q130 =>
loop zd zc (1::σ) (envL [(0,x0),(1,(.p (.int .i64 x1))),(2,(.p (.int .i64 n126))),(3,(.p (.int .i64 x3))),(4,x4),(10,(.p (.bool (decide ((IntKind.wrap .i64 (x2-n126))≥(IntKind.wrap .i64 (Int.tdiv (IntKind.wrap .i64 (x2-x1)) 8))))))),(11,(.p (.bool b128)))]) q130.2))))
else (
(bif x10 then (some x11) else (some false)).bind fun b131 =>
(bif b131 then (some (n91==1)) else (some false)).bind fun b132 =>
bif b132 then (
(callO rec 161 (4::0::1::0::1::1::1::1::1::1::0::σ) [x0,(.p (.int .i64 x1)),(.p (.int .i64 x2)),x4] q87.2 (some 80)).bind fun q133 =>
(asB q133.1).bind fun b134 =>
bif b134 then (
some (.ret,(envL []),q133.2))
else (
(bif decide (x1>0) then ((iS 2 x0 (IntKind.wrap .i64 (x1-1))).bind fun t135 =>
(ldO true 2 q133.2 t135).bind fun t136 =>
(iS 2 x0 n89).bind fun t137 =>
(ldO true 2 q133.2 t137).bind fun t138 =>
(cloO rec x4 (13::0::0::1::1::1::1::1::1::1::0::σ) [t136,t138] q133.2 (some 94)).bind fun q139 =>
(castI .i64 q139.1).bind fun n140 =>
some ((.p (.bool (!(decide (n140<0))))),q139.2)) else (some ((.p (.bool false)),q133.2))).bind fun q141 =>
(asB q141.1).bind fun b142 =>
bif b142 then (
(callO rec 162 (5::0::1::0::1::1::1::1::1::1::1::0::σ) [x0,(.p (.int .i64 x1)),(.p (.int .i64 x2)),(.p (.int .i64 n89)),x4] q141.2 (some 103)).bind fun q143 =>
(castI .i64 q143.1).bind fun n144 =>
loop zd zc (1::σ) (envL [(0,x0),(1,(.p (.int .i64 n144))),(2,(.p (.int .i64 x2))),(3,(.p (.int .i64 x3))),(4,x4),(10,(.p (.bool x10))),(11,(.p (.bool x11)))]) q143.2)
else (
(callO rec 163 (5::0::1::1::1::1::1::1::1::1::0::σ) [x0,(.p (.int .i64 x1)),(.p (.int .i64 x2)),(.p (.int .i64 n89)),x4] q141.2 (some 111)).bind fun q145 =>
(extV q145.1 0).bind fun t146 =>
(castI .i64 t146).bind fun n147 =>
(extV q145.1 1).bind fun t148 =>
(asB t148).bind fun b149 =>
bif decide ((IntKind.wrap .i64 (n147-x1))<(IntKind.wrap .i64 (x2-n147))) then (
(callO rec 142 (5::0::1::1::1::1::1::1::1::1::1::1::1::1::1::1::0::σ) [x0,(.p (.int .i64 x1)),(.p (.int .i64 n147)),(.p (.int .i64 x3)),x4] q145.2 (some 134)).bind fun q150 =>
loop zd zc (1::σ) (envL [(0,x0),(1,(.p (.int .i64 (IntKind.wrap .i64 (n147+1))))),(2,(.p (.int .i64 x2))),(3,(.p (.int .i64 x3))),(4,x4),(10,(.p (.bool (decide ((IntKind.wrap .i64 (n147-x1))≥(IntKind.wrap .i64 (Int.tdiv (IntKind.wrap .i64 (x2-x1)) 8))))))),(11,(.p (.bool b149)))]) q150.2)
else (
(callO rec 142 (6::0::1::1::1::1::1::1::1::1::1::1::1::1::1::1::0::σ) [x0,(.p (.int .i64 (IntKind.wrap .i64 (n147+1)))),(.p (.int .i64 x2)),(.p (.int .i64 x3)),x4] q145.2 (some 146)).bind fun q151 =>
loop zd zc (1::σ) (envL [(0,x0),(1,(.p (.int .i64 x1))),(2,(.p (.int .i64 n147))),(3,(.p (.int .i64 x3))),(4,x4),(10,(.p (.bool (decide ((IntKind.wrap .i64 (x2-n147))≥(IntKind.wrap .i64 (Int.tdiv (IntKind.wrap .i64 (x2-x1)) 8))))))),(11,(.p (.bool b149)))]) q151.2))))
else (
(bif decide (x1>0) then ((iS 2 x0 (IntKind.wrap .i64 (x1-1))).bind fun t152 =>
(ldO true 2 q87.2 t152).bind fun t153 =>
(iS 2 x0 n89).bind fun t154 =>
(ldO true 2 q87.2 t154).bind fun t155 =>
(cloO rec x4 (13::0::0::1::1::1::1::1::1::1::0::σ) [t153,t155] q87.2 (some 94)).bind fun q156 =>
(castI .i64 q156.1).bind fun n157 =>
some ((.p (.bool (!(decide (n157<0))))),q156.2)) else (some ((.p (.bool false)),q87.2))).bind fun q158 =>
(asB q158.1).bind fun b159 =>
bif b159 then (
(callO rec 162 (5::0::1::0::1::1::1::1::1::1::1::0::σ) [x0,(.p (.int .i64 x1)),(.p (.int .i64 x2)),(.p (.int .i64 n89)),x4] q158.2 (some 103)).bind fun q160 =>
(castI .i64 q160.1).bind fun n161 =>
loop zd zc (1::σ) (envL [(0,x0),(1,(.p (.int .i64 n161))),(2,(.p (.int .i64 x2))),(3,(.p (.int .i64 x3))),(4,x4),(10,(.p (.bool x10))),(11,(.p (.bool x11)))]) q160.2)
else (
(callO rec 163 (5::0::1::1::1::1::1::1::1::1::0::σ) [x0,(.p (.int .i64 x1)),(.p (.int .i64 x2)),(.p (.int .i64 n89)),x4] q158.2 (some 111)).bind fun q162 =>
(extV q162.1 0).bind fun t163 =>
(castI .i64 t163).bind fun n164 =>
(extV q162.1 1).bind fun t165 =>
(asB t165).bind fun b166 =>
bif decide ((IntKind.wrap .i64 (n164-x1))<(IntKind.wrap .i64 (x2-n164))) then (
(callO rec 142 (5::0::1::1::1::1::1::1::1::1::1::1::1::1::1::1::0::σ) [x0,(.p (.int .i64 x1)),(.p (.int .i64 n164)),(.p (.int .i64 x3)),x4] q162.2 (some 134)).bind fun q167 =>
loop zd zc (1::σ) (envL [(0,x0),(1,(.p (.int .i64 (IntKind.wrap .i64 (n164+1))))),(2,(.p (.int .i64 x2))),(3,(.p (.int .i64 x3))),(4,x4),(10,(.p (.bool (decide ((IntKind.wrap .i64 (n164-x1))≥(IntKind.wrap .i64 (Int.tdiv (IntKind.wrap .i64 (x2-x1)) 8))))))),(11,(.p (.bool b166)))]) q167.2)
else (
(callO rec 142 (6::0::1::1::1::1::1::1::1::1::1::1::1::1::1::1::0::σ) [x0,(.p (.int .i64 (IntKind.wrap .i64 (n164+1)))),(.p (.int .i64 x2)),(.p (.int .i64 x3)),x4] q162.2 (some 146)).bind fun q168 =>
loop zd zc (1::σ) (envL [(0,x0),(1,(.p (.int .i64 x1))),(2,(.p (.int .i64 n164))),(3,(.p (.int .i64 x3))),(4,x4),(10,(.p (.bool (decide ((IntKind.wrap .i64 (x2-n164))≥(IntKind.wrap .i64 (Int.tdiv (IntKind.wrap .i64 (x2-x1)) 8))))))),(11,(.p (.bool b166)))]) q168.2))))))):=by kernel_rfl
theorem zal  (h:H):z7k rec loop σ .ret (envL []) h =
fin false σ h []:=by kernel_rfl
theorem zf3 (x0:V) (x1:V) (h:H):cvBody G rec loop 114 σ [x0,x1] h =
(boxO false (0::0::0::σ) 2 (List.replicate 17 []::h) x0).bind fun q1 =>
(boxO false (1::0::0::σ) 3 q1.2 x1).bind fun q2 =>
(fA q1.1 0).bind fun t3 =>
(ldO false 1 q2.2 t3).bind fun t4 =>
(castI .i64 t4).bind fun n5 =>
(fA q2.1 0).bind fun t6 =>
(ldO false 1 q2.2 t6).bind fun t7 =>
(castI .i64 t7).bind fun n8 =>
(fA q1.1 1).bind fun t9 =>
(ldO false 1 q2.2 t9).bind fun t10 =>
(castI .u64 t10).bind fun n11 =>
(fA q2.1 1).bind fun t12 =>
(ldO false 1 q2.2 t12).bind fun t13 =>
(castI .u64 t13).bind fun n14 =>
(callO rec 116 (4::0::1::0::σ) [(.p (.int .i64 n5)),(.p (.int .i64 n8))] q2.2 (some 9)).bind fun q15 =>
(castI .i64 q15.1).bind fun n16 =>
need (ldO false 1 q15.2 t12=some (.p (.int .u64 n14))) (
need (ldO false 1 q15.2 t9=some (.p (.int .u64 n11))) (
(callO rec 117 (9::0::1::0::σ) [(.p (.int .u64 n11)),(.p (.int .u64 n14))] q15.2 (some 14)).bind fun q17 =>
(castI .i64 q17.1).bind fun n18 =>
(bSV Try.prog 23 2 [(0,(.p (.int .i64 n16))),(1,(.p (.int .i64 n18)))]).bind fun t19 =>
(callO rec 115 (11::0::1::0::σ) [t19] q17.2 (some 16)).bind fun q20 =>
(castI .i64 q20.1).bind fun n21 =>
fin false σ q20.2 [(.p (.int .i64 n21))])):=by kernel_rfl
theorem zf0 (x0:Int) (x1:Int) (h:H):cvBody G rec loop 116 σ [(.p (.int .i64 x0)),(.p (.int .i64 x1))] h =
(callO rec 144 (1::0::1::0::σ) [(.p (.int .i64 x0))] (List.replicate 20 []::h) (some 8)).bind fun q1 =>
(asB q1.1).bind fun b2 =>
(callO rec 144 (1::0::1::1::0::σ) [(.p (.int .i64 x1))] q1.2 (some 10)).bind fun q3 =>
(asB q3.1).bind fun b4 =>
bif b2 then (
bif b4 then (
fin false σ q3.2 [(.p (.int .i64 0))])
else (
fin false σ q3.2 [(.p (.int .i64 (-1)))]))
else (
bif b4 then (
fin false σ q3.2 [(.p (.int .i64 1))])
else (
bif decide (x0<x1) then (
fin false σ q3.2 [(.p (.int .i64 (-1)))])
else (
bif decide (x0>x1) then (
fin false σ q3.2 [(.p (.int .i64 1))])
else (
fin false σ q3.2 [(.p (.int .i64 0))])))):=by kernel_rfl
theorem zgl (x0:Int) (h:H):cvBody G rec loop 144 σ [(.p (.int .i64 x0))] h =
fin false σ (List.replicate 6 []::h) [(.p (.bool (x0 != x0)))]:=by kernel_rfl
end
end Go.Ev
namespace Go.Ev
open Go.Proofs
set_option linter.unusedVariables false
set_option linter.unusedSimpArgs false
set_option maxRecDepth 100000
section
variable {β α : Type} {Q : β→α→Prop} {K : Exit × Env × H→Option α}
def z7l (x0:Int):Option (Bool) :=
some ((x0 != x0))
theorem zdn {h:H} {σ:Stamp} (x0:Int):Sim (z7l x0) (ev G X0 144 σ [(.p (.int .i64 x0))] h) (fun r s=>s=([.v (.p (.bool r))],h)):=by
 refine .ev rfl (Sim.ext (zgl _ _ _ _ _) ?_)
 rw [z7l]
 have S0:Fm 6 h [] [] [] (List.replicate 6 []::h):=Fm.start0
 exact .fin (S0.finN (lC (sB _).lv lN)) rfl
def z6c (x0:Int) (x1:Int):Option (Int) :=
(z7l x0).bind fun r1 =>
(z7l x1).bind fun r6 =>
bif r1 then (
bif r6 then (
some (0))
else (
some ((-1))))
else (
bif r6 then (
some (1))
else (
bif decide (x0<x1) then (
some ((-1)))
else (
bif decide (x0>x1) then (
some (1))
else (
some (0)))))
theorem zgn {h:H} {σ:Stamp} (x0:Int) (x1:Int):Sim (z6c x0 x1) (ev G X0 116 σ [(.p (.int .i64 x0)),(.p (.int .i64 x1))] h) (fun r s=>s=([.v (.p (.int .i64 r))],h)):=by
 refine .ev rfl (Sim.ext (zf0 _ _ _ _ _ _) ?_)
 rw [z6c]
 have S0:Fm 20 h [] [] [] (List.replicate 20 []::h):=Fm.start0
 refine .call (zdn x0) fun r1 cs2 H3 h4 q5=>?_
 cases q5
 refine .ab ?_
 refine .call (zdn x1) fun r6 cs7 H8 h9 q10=>?_
 cases q10
 refine .ab ?_
 refine .cq ?_ ?_
 ·refine .cq ?_ ?_
  ·exact .fin (S0.finN (lC (sI _ _).lv lN)) rfl
  exact .fin (S0.finN (lC (sI _ _).lv lN)) rfl
 refine .cq ?_ ?_
 ·exact .fin (S0.finN (lC (sI _ _).lv lN)) rfl
 refine .cq ?_ ?_
 ·exact .fin (S0.finN (lC (sI _ _).lv lN)) rfl
 refine .cq ?_ ?_
 ·exact .fin (S0.finN (lC (sI _ _).lv lN)) rfl
 exact .fin (S0.finN (lC (sI _ _).lv lN)) rfl
end
end Go.Ev
namespace Go.Ev
open Go.Proofs
set_option linter.unusedVariables false
set_option linter.unusedSimpArgs false
set_option maxRecDepth 100000
noncomputable section
abbrev KT3:=Exit→Env→H→Option (List C × H)
variable (rec : CallF) (loop : LoopV) (σ : Stamp)
theorem zes (x0:Int) (x1:Int) (h:H):cvBody G rec loop 117 σ [(.p (.int .u64 x0)),(.p (.int .u64 x1))] h =
(callO rec 145 (1::0::1::0::σ) [(.p (.int .u64 x0))] (List.replicate 20 []::h) (some 8)).bind fun q1 =>
(asB q1.1).bind fun b2 =>
(callO rec 145 (1::0::1::1::0::σ) [(.p (.int .u64 x1))] q1.2 (some 10)).bind fun q3 =>
(asB q3.1).bind fun b4 =>
bif b2 then (
bif b4 then (
fin false σ q3.2 [(.p (.int .i64 0))])
else (
fin false σ q3.2 [(.p (.int .i64 (-1)))]))
else (
bif b4 then (
fin false σ q3.2 [(.p (.int .i64 1))])
else (
bif decide (x0<x1) then (
fin false σ q3.2 [(.p (.int .i64 (-1)))])
else (
bif decide (x0>x1) then (
fin false σ q3.2 [(.p (.int .i64 1))])
else (
fin false σ q3.2 [(.p (.int .i64 0))])))):=by kernel_rfl
theorem zfi (x0:Int) (h:H):cvBody G rec loop 145 σ [(.p (.int .u64 x0))] h =
fin false σ (List.replicate 6 []::h) [(.p (.bool (x0 != x0)))]:=by kernel_rfl
end
end Go.Ev
namespace Go.Ev
open Go.Proofs
set_option linter.unusedVariables false
set_option linter.unusedSimpArgs false
set_option maxRecDepth 100000
section
variable {β α : Type} {Q : β→α→Prop} {K : Exit × Env × H→Option α}
def z75 (x0:Int):Option (Bool) :=
some ((x0 != x0))
theorem zcw {h:H} {σ:Stamp} (x0:Int):Sim (z75 x0) (ev G X0 145 σ [(.p (.int .u64 x0))] h) (fun r s=>s=([.v (.p (.bool r))],h)):=by
 refine .ev rfl (Sim.ext (zfi _ _ _ _ _) ?_)
 rw [z75]
 have S0:Fm 6 h [] [] [] (List.replicate 6 []::h):=Fm.start0
 exact .fin (S0.finN (lC (sB _).lv lN)) rfl
def z48 (x0:Int) (x1:Int):Option (Int) :=
(z75 x0).bind fun r1 =>
(z75 x1).bind fun r6 =>
bif r1 then (
bif r6 then (
some (0))
else (
some ((-1))))
else (
bif r6 then (
some (1))
else (
bif decide (x0<x1) then (
some ((-1)))
else (
bif decide (x0>x1) then (
some (1))
else (
some (0)))))
theorem z99 {h:H} {σ:Stamp} (x0:Int) (x1:Int):Sim (z48 x0 x1) (ev G X0 117 σ [(.p (.int .u64 x0)),(.p (.int .u64 x1))] h) (fun r s=>s=([.v (.p (.int .i64 r))],h)):=by
 refine .ev rfl (Sim.ext (zes _ _ _ _ _ _) ?_)
 rw [z48]
 have S0:Fm 20 h [] [] [] (List.replicate 20 []::h):=Fm.start0
 refine .call (zcw x0) fun r1 cs2 H3 h4 q5=>?_
 cases q5
 refine .ab ?_
 refine .call (zcw x1) fun r6 cs7 H8 h9 q10=>?_
 cases q10
 refine .ab ?_
 refine .cq ?_ ?_
 ·refine .cq ?_ ?_
  ·exact .fin (S0.finN (lC (sI _ _).lv lN)) rfl
  exact .fin (S0.finN (lC (sI _ _).lv lN)) rfl
 refine .cq ?_ ?_
 ·exact .fin (S0.finN (lC (sI _ _).lv lN)) rfl
 refine .cq ?_ ?_
 ·exact .fin (S0.finN (lC (sI _ _).lv lN)) rfl
 refine .cq ?_ ?_
 ·exact .fin (S0.finN (lC (sI _ _).lv lN)) rfl
 exact .fin (S0.finN (lC (sI _ _).lv lN)) rfl
end
end Go.Ev
namespace Go.Ev
open Go.Proofs
set_option linter.unusedVariables false
set_option linter.unusedSimpArgs false
set_option maxRecDepth 100000
noncomputable section
abbrev KT4:=Exit→Env→H→Option (List C × H)
variable (rec : CallF) (loop : LoopV) (σ : Stamp)
def zby:Code:=(codeAt (bodyOf Try.f115) [1,1,0,1,0,0])
def zc3:Lv:=⟨8,4,[(0,8)]⟩
def zdx:KT4:=(kBlock 0 (kSeq G rec loop (codeAt (bodyOf Try.f115) [1,1,1]) ⟨4,4,[]⟩ (1::1::0::σ) (finC G false Try.f115 (1::σ))))
theorem zkb (x0:V) (h:H):cvBody G rec loop 115 σ [x0] h =
(lenO x0).bind fun t1 =>
(castI .i64 t1).bind fun n2 =>
(loop zby zc3 (1::0::1::1::0::σ) (envL [(3,(.p (.int .i64 0))),(6,x0),(7,(.p (.int .i64 n2))),(8,(.p (.int .i64 0)))]) (List.replicate 18 []::h)).bind fun r3=>zdx rec loop σ r3.1 r3.2.1 r3.2.2:=by kernel_rfl
theorem zog (x3:Int) (x6:V) (x7:Int) (x8:Int) (h:H):z1n G rec loop zby zc3 σ (envL [(3,(.p (.int .i64 x3))),(6,x6),(7,(.p (.int .i64 x7))),(8,(.p (.int .i64 x8)))]) h =
bif decide (x8<x7) then (
(iS 1 x6 x8).bind fun t4 =>
(ldO false 1 h t4).bind fun t5 =>
(castI .i64 t5).bind fun n6 =>
bif n6 != x3 then (
some (.ret,(envL [(2,(.p (.int .i64 n6)))]),h))
else (
loop zby zc3 (1::σ) (envL [(3,(.p (.int .i64 x3))),(6,x6),(7,(.p (.int .i64 x7))),(8,(.p (.int .i64 (IntKind.wrap .i64 (x8+1)))))]) h))
else (
some ((.exit 0),(envL [(3,(.p (.int .i64 x3)))]),h)):=by kernel_rfl
theorem zlc (x3:Int) (h:H):zdx rec loop σ (.exit 0) (envL [(3,(.p (.int .i64 x3)))]) h =
fin false σ h [(.p (.int .i64 x3))]:=by kernel_rfl
theorem zjm (x2:Int) (h:H):zdx rec loop σ .ret (envL [(2,(.p (.int .i64 x2)))]) h =
fin false σ h [(.p (.int .i64 x2))]:=by kernel_rfl
end
end Go.Ev
namespace Go.Ev
open Go.Proofs
set_option linter.unusedVariables false
set_option linter.unusedSimpArgs false
set_option maxRecDepth 100000
section
variable {β α : Type} {Q : β→α→Prop} {K : Exit × Env × H→Option α}
def z5n {β:Type} (k:Nat) (kE0:Int→Option β) (kE1:Int→Option β) (x3:Int) (x6:(List Int)) (x7:Int) (x8:Int):Option β:=match k with
| 0=>none
| k+1 =>
bif decide (x8<x7) then (
(ix x6 x8).bind fun a6 =>
bif a6 != x3 then (
kE1 a6)
else (
z5n k kE0 kE1 x3 x6 x7 (IntKind.wrap .i64 (x8+1))))
else (
kE0 x3)
def z6z (k:Nat) (x0:(List Int)):Option (Int) :=
z5n k (fun r14_3 =>
some (r14_3)) (fun r17_2 =>
some (r17_2)) 0 x0 ((x0.length:Int)) 0
theorem zke {h:H}  {kE0:Int→Option β} {kE1:Int→Option β} (hE0:∀ (q3:Int) (H10:Go.Ev.H) (_:Fm 18 h [] [] [] H10),Sim (kE0 q3) (K ((.exit 0),(envL [(3,(.p (.int .i64 q3)))]),H10)) Q) (hE1:∀ (q2:Int) (H12:Go.Ev.H) (_:Fm 18 h [] [] [] H12),Sim (kE1 q2) (K (.ret,(envL [(2,(.p (.int .i64 q2)))]),H12)) Q) (k:Nat):∀ (x3:Int) (x6:(List Int)) (x7:Int) (x8:Int) (v3:V) (h4:SlH h (dI .i64) x6 v3) (H1:Go.Ev.H) (_:Fm 18 h [] [] [] H1) {σ:Stamp},Sim (z5n k kE0 kE1 x3 x6 x7 x8) ((cvL G X0 zby zc3 σ (envL [(3,(.p (.int .i64 x3))),(6,v3),(7,(.p (.int .i64 x7))),(8,(.p (.int .i64 x8)))]) H1).bind K) Q:=by
 induction k with
 | zero=>intros;exact .no
 | succ k ih =>
  intro x3 x6 x7 x8 v3 h4 H1 S2 σ
  rw [z5n]
  refine .round (Sim.ext (zog _ _ _ _ _ _ _ _) ?_)
  refine .cq ?_ ?_
  ·refine .bd fun a6 h7=>?_
   refine .op ((S2.low h4).iS h7 rfl) ?_
   obtain ⟨_,rfl,hE8⟩:=(S2.low h4).el h7 rfl
   refine .op (hE8.ld (j:=0) rfl) ?_
   refine .ci ?_
   refine .cq ?_ ?_
   ·exact hE1 a6 H1 (S2.wk2 aN aN)
   exact ih x3 x6 x7 (IntKind.wrap .i64 (x8+1)) v3 h4 H1 (S2.wk2 aN aN)
  exact hE0 x3 H1 (S2.wk2 aN aN)
theorem zc1 (k:Nat) {h:H} {σ:Stamp} (x0:List Int) {u0:V} (hu0:SlH h (dI .i64) x0 u0):Sim (z6z k x0) (ev G X0 115 σ [u0] h) (fun r s=>s=([.v (.p (.int .i64 r))],h)):=by
 refine .ev rfl (Sim.ext (zkb _ _ _ _ _) ?_)
 rw [z6z]
 have S0:Fm 18 h [] [] [] (List.replicate 18 []::h):=Fm.start0
 refine .op ((S0.low hu0).len) ?_
 refine .ci ?_
 refine .as (zke ?_ ?_ k 0 x0 ((x0.length:Int)) 0 u0 hu0 (List.replicate 18 []::h) (S0.wk2 aN aN))
 ·intro r14_3 H15 S16
  refine .ext (zlc _ _ _ _ _) ?_
  exact .fin (S16.finN (lC (sI _ _).lv lN)) rfl
 ·intro r17_2 H18 S19
  refine .ext (zjm _ _ _ _ _) ?_
  exact .fin (S19.finN (lC (sI _ _).lv lN)) rfl
def zk (k:Nat) (x0:z8) (x1:z8):Option (Int) :=
(z6c x0.f_At x1.f_At).bind fun r9 =>
(z48 x0.Key x1.Key).bind fun r14 =>
(z6z k ([r9,r14])).bind fun r20 =>
some (r20)
theorem z19 (k:Nat) {h:H} {σ:Stamp} (x0:z8) {u0:List V} (hu0:z5.R x0 u0) (x1:z8) {u1:List V} (hu1:z5.R x1 u1):Sim (zk k x0 x1) (ev G X0 114 σ [(.agg u0),(.agg u1)] h) (fun r s=>s=([.v (.p (.int .i64 r))],h)):=by
 refine .ev rfl (Sim.ext (zf3 _ _ _ _ _ _) ?_)
 rw [zk]
 obtain rfl:=z5.inv hu0
 obtain rfl:=z5.inv hu1
 have S0:Fm 17 h [] [] [] (List.replicate 17 []::h):=Fm.start0
 obtain ⟨H1,e2,S3⟩:=S0.box (own:=false) (d:=2) (s:=(0::0::0::σ)) (xs:=[(.p (.int .i64 x0.f_At)),(.p (.int .u64 x0.Key))]) (sC (sI _ _) (sC (sI _ _) sN)) (by decide) rfl
 refine .op (e2) ?_
 obtain ⟨H5,e6,S7⟩:=S3.box (own:=false) (d:=3) (s:=(1::0::0::σ)) (xs:=[(.p (.int .i64 x1.f_At)),(.p (.int .u64 x1.Key))]) (sC (sI _ _) (sC (sI _ _) sN)) (by decide) rfl
 refine .op (e6) ?_
 refine .fa ?_
 refine .op ((S7.atG (i:=1) rfl).ld (j:=0) rfl) ?_
 refine .ci ?_
 refine .fa ?_
 refine .op ((S7.atG (i:=0) rfl).ld (j:=0) rfl) ?_
 refine .ci ?_
 refine .fa ?_
 refine .op ((S7.atG (i:=1) rfl).ld (j:=1) rfl) ?_
 refine .ci ?_
 refine .fa ?_
 refine .op ((S7.atG (i:=0) rfl).ld (j:=1) rfl) ?_
 refine .ci ?_
 refine .call (zgn x0.f_At x1.f_At) fun r9 cs10 H11 h12 q13=>?_
 cases q13
 refine .ci ?_
 refine .nd ((S7.atG (i:=0) rfl).ld (j:=1) rfl) ?_
 refine .nd ((S7.atG (i:=1) rfl).ld (j:=1) rfl) ?_
 refine .call (z99 x0.Key x1.Key) fun r14 cs15 H16 h17 q18=>?_
 cases q18
 refine .ci ?_
 have h19:SlF (dI .i64) [r9,r14] (.fz [(.p (.int .i64 r9)),(.p (.int .i64 r14))] 2 1 true):=SlF.lit (cs:=[(.p (.int .i64 r9)),(.p (.int .i64 r14))]) (RL.cons (show (dI .i64).R r9 [(.p (.int .i64 r9))] from rfl) (RL.cons (show (dI .i64).R r14 [(.p (.int .i64 r14))] from rfl) RL.nil)) rfl rfl true
 refine .op (bldS (pC rfl (pC rfl pN)) (by kernel_rfl:_=some (vOf h19))) ?_
 refine .call (zc1 k ([r9,r14]) (h19.h H5)) fun r20 cs21 H22 h23 q24=>?_
 cases q24
 refine .ci ?_
 exact .fin (S7.finN (lC (sI _ _).lv lN)) rfl
end
end Go.Ev
namespace Go.Ev
open Go.Proofs
set_option linter.unusedVariables false
set_option linter.unusedSimpArgs false
set_option maxRecDepth 100000
noncomputable section
abbrev KT5:=Exit→Env→H→Option (List C × H)
variable (rec : CallF) (loop : LoopV) (σ : Stamp)
def z2f:Code:=(codeAt (bodyOf Try.f158) [1,1,0,1,1,1,0,0])
def z2g:Lv:=⟨0,0,[(0,0)]⟩
def z5o (rec:CallF) (loop:LoopV) (σ:Stamp):KT5:=(kBlock 0 (finC G false Try.f158 (1::σ)))
theorem z93 (x0:V) (x1:Int) (x2:Int) (x3:V) (h:H):cvBody G rec loop 158 σ [x0,(.p (.int .i64 x1)),(.p (.int .i64 x2)),x3] h =
bif decide ((IntKind.wrap .i64 (x2-x1))≥8) then (
(some (alO [.p (.int .u64 0)] (2::0::1::1::0::σ) 9 (List.replicate 67 []::h))).bind fun q1 =>
((stO true 1 (3::0::1::1::0::σ) q1.2 q1.1 (.p (.int .u64 (IntKind.wrap .u64 (IntKind.wrap .i64 (x2-x1)))))).map fun h=>(udf,h)).bind fun q2 =>
(callO rec 168 (1::0::1::1::1::0::σ) [(.p (.int .i64 (IntKind.wrap .i64 (x2-x1))))] q2.2 (some 21)).bind fun q3 =>
(castI .u64 q3.1).bind fun n4 =>
(loop z2f z2g (1::1::1::1::1::0::σ) (envL [(0,x0),(1,(.p (.int .i64 x1))),(8,(.p (.int .i64 (IntKind.wrap .i64 (x2-x1))))),(9,q1.1),(10,(.p (.int .u64 n4))),(11,(.p (.int .i64 (IntKind.wrap .i64 ((IntKind.wrap .i64 (x1+(IntKind.wrap .i64 ((IntKind.wrap .i64 (Int.tdiv (IntKind.wrap .i64 (x2-x1)) 4))*2))))-1)))))]) q3.2).bind fun r5=>z5o rec loop σ r5.1 r5.2.1 r5.2.2)
else (
fin false σ (List.replicate 67 []::h) []):=by kernel_rfl
theorem z9y (x0:V) (x1:Int) (x8:Int) (x9:V) (x10:Int) (x11:Int) (h:H):z1n G rec loop z2f z2g σ (envL [(0,x0),(1,(.p (.int .i64 x1))),(8,(.p (.int .i64 x8))),(9,x9),(10,(.p (.int .u64 x10))),(11,(.p (.int .i64 x11)))]) h =
bif decide (x11≤(IntKind.wrap .i64 ((IntKind.wrap .i64 (x1+(IntKind.wrap .i64 ((IntKind.wrap .i64 (Int.tdiv x8 4))*2))))+1))) then (
(callO rec 169 (0::0::0::1::0::σ) [x9] h (some 38)).bind fun q6 =>
(castI .u64 q6.1).bind fun n7 =>
bif decide ((IntKind.wrap .i64 (intBits .and .u64 n7 (IntKind.wrap .u64 (x10-1))))≥x8) then (
(iS 2 x0 (IntKind.wrap .i64 (x1+(IntKind.wrap .i64 ((IntKind.wrap .i64 (intBits .and .u64 n7 (IntKind.wrap .u64 (x10-1))))-x8))))).bind fun t8 =>
(ldO true 2 q6.2 t8).bind fun t9 =>
(iS 2 x0 x11).bind fun t10 =>
(ldO true 2 q6.2 t10).bind fun t11 =>
(iS 2 x0 x11).bind fun t12 =>
((stO false 2 (17::1::1::0::1::0::σ) q6.2 t12 t9).map fun h=>(udf,h)).bind fun q13 =>
(iS 2 x0 (IntKind.wrap .i64 (x1+(IntKind.wrap .i64 ((IntKind.wrap .i64 (intBits .and .u64 n7 (IntKind.wrap .u64 (x10-1))))-x8))))).bind fun t14 =>
((stO false 2 (19::1::1::0::1::0::σ) q13.2 t14 t11).map fun h=>(udf,h)).bind fun q15 =>
loop z2f z2g (1::σ) (envL [(0,x0),(1,(.p (.int .i64 x1))),(8,(.p (.int .i64 x8))),(9,x9),(10,(.p (.int .u64 x10))),(11,(.p (.int .i64 (IntKind.wrap .i64 (x11+1)))))]) q15.2)
else (
(iS 2 x0 (IntKind.wrap .i64 (x1+(IntKind.wrap .i64 (intBits .and .u64 n7 (IntKind.wrap .u64 (x10-1))))))).bind fun t16 =>
(ldO true 2 q6.2 t16).bind fun t17 =>
(iS 2 x0 x11).bind fun t18 =>
(ldO true 2 q6.2 t18).bind fun t19 =>
(iS 2 x0 x11).bind fun t20 =>
((stO false 2 (17::1::1::0::1::0::σ) q6.2 t20 t17).map fun h=>(udf,h)).bind fun q21 =>
(iS 2 x0 (IntKind.wrap .i64 (x1+(IntKind.wrap .i64 (intBits .and .u64 n7 (IntKind.wrap .u64 (x10-1))))))).bind fun t22 =>
((stO false 2 (19::1::1::0::1::0::σ) q21.2 t22 t19).map fun h=>(udf,h)).bind fun q23 =>
loop z2f z2g (1::σ) (envL [(0,x0),(1,(.p (.int .i64 x1))),(8,(.p (.int .i64 x8))),(9,x9),(10,(.p (.int .u64 x10))),(11,(.p (.int .i64 (IntKind.wrap .i64 (x11+1)))))]) q23.2))
else (
some ((.exit 0),(envL []),h)):=by kernel_rfl
theorem z9i  (h:H):z5o rec loop σ (.exit 0) (envL []) h =
fin false σ h []:=by kernel_rfl
theorem zdo (x0:Int) (h:H):cvBody G rec loop 168 σ [(.p (.int .i64 x0))] h =
(callO rec 143 (2::0::1::0::σ) [(.p (.int .u64 (IntKind.wrap .u64 x0)))] (List.replicate 7 []::h) (some 5)).bind fun q1 =>
(castI .i64 q1.1).bind fun n2 =>
(shiftV .shl .u64 1 n2).bind fun t3 =>
(castI .u64 t3).bind fun n4 =>
fin false σ q1.2 [(.p (.int .u64 n4))]:=by kernel_rfl
end
end Go.Ev
namespace Go.Ev
open Go.Proofs
set_option linter.unusedVariables false
set_option linter.unusedSimpArgs false
set_option maxRecDepth 100000
section
variable {β α : Type} {Q : β→α→Prop} {K : Exit × Env × H→Option α}
def z4t (x0:Int):Option (Int) :=
(z50 (IntKind.wrap .u64 x0)).bind fun r1 =>
(shP .shl .u64 1 r1).bind fun n6 =>
some (n6)
theorem zem {h:H} {σ:Stamp} (x0:Int):Sim (z4t x0) (ev G X0 168 σ [(.p (.int .i64 x0))] h) (fun r s=>s=([.v (.p (.int .u64 r))],h)):=by
 refine .ev rfl (Sim.ext (zdo _ _ _ _ _) ?_)
 rw [z4t]
 have S0:Fm 7 h [] [] [] (List.replicate 7 []::h):=Fm.start0
 refine .call (zel (IntKind.wrap .u64 x0)) fun r1 cs2 H3 h4 q5=>?_
 cases q5
 refine .ci ?_
 refine .bd fun n6 h7=>?_
 refine .op (shP_ok h7) ?_
 refine .ci ?_
 exact .fin (S0.finN (lC (sI _ _).lv lN)) rfl
end
end Go.Ev
namespace Go.Ev
open Go.Proofs
set_option linter.unusedVariables false
set_option linter.unusedSimpArgs false
set_option maxRecDepth 100000
noncomputable section
abbrev KT6:=Exit→Env→H→Option (List C × H)
variable (rec : CallF) (loop : LoopV) (σ : Stamp)
theorem zdw (x0:V) (h:H):cvBody G rec loop 169 σ [x0] h =
(nilChk x0).bind fun t1 =>
(ldO false 1 (List.replicate 33 []::h) t1).bind fun t2 =>
(castI .u64 t2).bind fun n3 =>
(nilChk x0).bind fun t4 =>
(ldO false 1 (List.replicate 33 []::h) t4).bind fun t5 =>
(castI .u64 t5).bind fun n6 =>
(nilChk x0).bind fun t7 =>
((stO true 1 (9::0::1::0::σ) (List.replicate 33 []::h) t7 (.p (.int .u64 (intBits .xor .u64 n3 (IntKind.wrap .u64 (n6*2^13)))))).map fun h=>(udf,h)).bind fun q8 =>
(nilChk x0).bind fun t9 =>
(ldO false 1 q8.2 t9).bind fun t10 =>
(castI .u64 t10).bind fun n11 =>
(nilChk x0).bind fun t12 =>
(ldO false 1 q8.2 t12).bind fun t13 =>
(castI .u64 t13).bind fun n14 =>
(nilChk x0).bind fun t15 =>
((stO true 1 (9::0::1::1::0::σ) q8.2 t15 (.p (.int .u64 (intBits .xor .u64 n11 (Int.fdiv n14 (2^7)))))).map fun h=>(udf,h)).bind fun q16 =>
(nilChk x0).bind fun t17 =>
(ldO false 1 q16.2 t17).bind fun t18 =>
(castI .u64 t18).bind fun n19 =>
(nilChk x0).bind fun t20 =>
(ldO false 1 q16.2 t20).bind fun t21 =>
(castI .u64 t21).bind fun n22 =>
(nilChk x0).bind fun t23 =>
((stO true 1 (9::0::1::1::1::0::σ) q16.2 t23 (.p (.int .u64 (intBits .xor .u64 n19 (IntKind.wrap .u64 (n22*2^17)))))).map fun h=>(udf,h)).bind fun q24 =>
(nilChk x0).bind fun t25 =>
(ldO false 1 q24.2 t25).bind fun t26 =>
(castI .u64 t26).bind fun n27 =>
fin false σ q24.2 [(.p (.int .u64 n27))]:=by kernel_rfl
end
end Go.Ev
namespace Go.Ev
open Go.Proofs
set_option linter.unusedVariables false
set_option linter.unusedSimpArgs false
set_option maxRecDepth 100000
section
variable {β α : Type} {Q : β→α→Prop} {K : Exit × Env × H→Option α}
def z6r (x0:Int):Option (Int×Int) :=
some ((intBits .xor .u64 (intBits .xor .u64 (intBits .xor .u64 x0 (IntKind.wrap .u64 (x0*2^13))) (Int.fdiv (intBits .xor .u64 x0 (IntKind.wrap .u64 (x0*2^13))) (2^7))) (IntKind.wrap .u64 ((intBits .xor .u64 (intBits .xor .u64 x0 (IntKind.wrap .u64 (x0*2^13))) (Int.fdiv (intBits .xor .u64 x0 (IntKind.wrap .u64 (x0*2^13))) (2^7)))*2^17))),(intBits .xor .u64 (intBits .xor .u64 (intBits .xor .u64 x0 (IntKind.wrap .u64 (x0*2^13))) (Int.fdiv (intBits .xor .u64 x0 (IntKind.wrap .u64 (x0*2^13))) (2^7))) (IntKind.wrap .u64 ((intBits .xor .u64 (intBits .xor .u64 x0 (IntKind.wrap .u64 (x0*2^13))) (Int.fdiv (intBits .xor .u64 x0 (IntKind.wrap .u64 (x0*2^13))) (2^7)))*2^17))))
theorem zf1 {h:H} {σ:Stamp} (x0:Int)  {l0:Loc} {o0:Nat} (ha0:AtC h l0 o0 (List.map C.v [(.p (.int .u64 x0))])):Sim (z6r x0) (ev G X0 169 σ [(.ref l0 o0)] h) (fun r s=>s=([.v (.p (.int .u64 r.1))],pts h [⟨l0,o0,[.v (.p (.int .u64 r.2))]⟩])):=by
 refine .ev rfl (Sim.ext (zdw _ _ _ _ _) ?_)
 rw [z6r]
 have S0:Fm 33 h [⟨l0,o0,List.map C.v [(.p (.int .u64 x0))]⟩] [] [] (List.replicate 33 []::h):=Fm.start1 ha0
 refine .nc ?_
 refine .op ((S0.atB (i:=0) rfl).ld (j:=0) rfl) ?_
 refine .ci ?_
 refine .nc ?_
 refine .op ((S0.atB (i:=0) rfl).ld (j:=0) rfl) ?_
 refine .ci ?_
 refine .nc ?_
 obtain ⟨H1,e2,S3⟩:=S0.stB (i:=0) (j:=0) (own:=true) (σ:=(9::0::1::0::σ)) (x:=(.p (.int .u64 (intBits .xor .u64 x0 (IntKind.wrap .u64 (x0*2^13)))))) rfl (sI _ _) rfl
 refine .op (sM e2) ?_
 refine .nc ?_
 refine .op ((S3.atB (i:=0) rfl).ld (j:=0) rfl) ?_
 refine .ci ?_
 refine .nc ?_
 refine .op ((S3.atB (i:=0) rfl).ld (j:=0) rfl) ?_
 refine .ci ?_
 refine .nc ?_
 obtain ⟨H4,e5,S6⟩:=S3.stB (i:=0) (j:=0) (own:=true) (σ:=(9::0::1::1::0::σ)) (x:=(.p (.int .u64 (intBits .xor .u64 (intBits .xor .u64 x0 (IntKind.wrap .u64 (x0*2^13))) (Int.fdiv (intBits .xor .u64 x0 (IntKind.wrap .u64 (x0*2^13))) (2^7)))))) rfl (sI _ _) rfl
 refine .op (sM e5) ?_
 refine .nc ?_
 refine .op ((S6.atB (i:=0) rfl).ld (j:=0) rfl) ?_
 refine .ci ?_
 refine .nc ?_
 refine .op ((S6.atB (i:=0) rfl).ld (j:=0) rfl) ?_
 refine .ci ?_
 refine .nc ?_
 obtain ⟨H7,e8,S9⟩:=S6.stB (i:=0) (j:=0) (own:=true) (σ:=(9::0::1::1::1::0::σ)) (x:=(.p (.int .u64 (intBits .xor .u64 (intBits .xor .u64 (intBits .xor .u64 x0 (IntKind.wrap .u64 (x0*2^13))) (Int.fdiv (intBits .xor .u64 x0 (IntKind.wrap .u64 (x0*2^13))) (2^7))) (IntKind.wrap .u64 ((intBits .xor .u64 (intBits .xor .u64 x0 (IntKind.wrap .u64 (x0*2^13))) (Int.fdiv (intBits .xor .u64 x0 (IntKind.wrap .u64 (x0*2^13))) (2^7)))*2^17)))))) rfl (sI _ _) rfl
 refine .op (sM e8) ?_
 refine .nc ?_
 refine .op ((S9.atB (i:=0) rfl).ld (j:=0) rfl) ?_
 refine .ci ?_
 exact .fin (S9.finN (lC (sI _ _).lv lN)) rfl
def zq {β:Type} (k:Nat) (kE0:(List z8)→Option β) (x1:Int) (x8:Int) (x10:Int) (x11:Int) (yg5:Int) (zw0:(List z8)):Option β:=match k with
| 0=>none
| k+1 =>
bif decide (x11≤(IntKind.wrap .i64 ((IntKind.wrap .i64 (x1+(IntKind.wrap .i64 ((IntKind.wrap .i64 (Int.tdiv x8 4))*2))))+1))) then (
(z6r yg5).bind fun r21 =>
bif decide ((IntKind.wrap .i64 (intBits .and .u64 r21.1 (IntKind.wrap .u64 (x10-1))))≥x8) then (
(ix zw0 (IntKind.wrap .i64 (x1+(IntKind.wrap .i64 ((IntKind.wrap .i64 (intBits .and .u64 r21.1 (IntKind.wrap .u64 (x10-1))))-x8))))).bind fun a28 =>
(ix zw0 x11).bind fun a33 =>
(ix zw0 x11).bind fun a38 =>
(stx zw0 x11 a28).bind fun a43 =>
(ix a43 (IntKind.wrap .i64 (x1+(IntKind.wrap .i64 ((IntKind.wrap .i64 (intBits .and .u64 r21.1 (IntKind.wrap .u64 (x10-1))))-x8))))).bind fun a47 =>
(stx a43 (IntKind.wrap .i64 (x1+(IntKind.wrap .i64 ((IntKind.wrap .i64 (intBits .and .u64 r21.1 (IntKind.wrap .u64 (x10-1))))-x8)))) a33).bind fun a52 =>
zq k kE0 x1 x8 x10 (IntKind.wrap .i64 (x11+1)) r21.2 a52)
else (
(ix zw0 (IntKind.wrap .i64 (x1+(IntKind.wrap .i64 (intBits .and .u64 r21.1 (IntKind.wrap .u64 (x10-1))))))).bind fun a56 =>
(ix zw0 x11).bind fun a61 =>
(ix zw0 x11).bind fun a66 =>
(stx zw0 x11 a56).bind fun a71 =>
(ix a71 (IntKind.wrap .i64 (x1+(IntKind.wrap .i64 (intBits .and .u64 r21.1 (IntKind.wrap .u64 (x10-1))))))).bind fun a75 =>
(stx a71 (IntKind.wrap .i64 (x1+(IntKind.wrap .i64 (intBits .and .u64 r21.1 (IntKind.wrap .u64 (x10-1)))))) a61).bind fun a80 =>
zq k kE0 x1 x8 x10 (IntKind.wrap .i64 (x11+1)) r21.2 a80))
else (
kE0 zw0)
def z1m (k:Nat) (x0:(List z8)) (x1:Int) (x2:Int):Option ((List z8)) :=
bif decide ((IntKind.wrap .i64 (x2-x1))≥8) then (
(z4t (IntKind.wrap .i64 (x2-x1))).bind fun r9 =>
zq k (fun zw0 =>
some (zw0)) x1 (IntKind.wrap .i64 (x2-x1)) r9 (IntKind.wrap .i64 ((IntKind.wrap .i64 (x1+(IntKind.wrap .i64 ((IntKind.wrap .i64 (Int.tdiv (IntKind.wrap .i64 (x2-x1)) 4))*2))))-1)) (IntKind.wrap .u64 (IntKind.wrap .i64 (x2-x1))) x0)
else (
some (x0))
theorem z5g {h:H} {l0:Loc} {o0:Nat} {u0:V} {kE0:(List z8)→Option β} (hE0:∀ (zw0:(List z8)) (w86:List C) (h87:WL l0 o0 z5 zw0 u0 w86) (H84:Go.Ev.H) (_:Fm 67 h [⟨l0,o0,w86⟩] [] [] H84),Sim (kE0 zw0) (K ((.exit 0),(envL []),H84)) Q) (k:Nat):∀ (x1:Int) (x8:Int) (x10:Int) (x11:Int) (yg5:Int) (zw0:(List z8)) (s16:Stamp) (w18:List C) (h19:WL l0 o0 z5 zw0 u0 w18) (H14:Go.Ev.H) (_:Fm 67 h [⟨l0,o0,w18⟩] [(9,s16,List.map C.v [(.p (.int .u64 yg5))])] [] H14) {σ:Stamp},Sim (zq k kE0 x1 x8 x10 x11 yg5 zw0) ((cvL G X0 z2f z2g σ (envL [(0,u0),(1,(.p (.int .i64 x1))),(8,(.p (.int .i64 x8))),(9,(.ref ⟨h.length,9,0,s16,[]⟩ 0)),(10,(.p (.int .u64 x10))),(11,(.p (.int .i64 x11)))]) H14).bind K) Q:=by
 induction k with
 | zero=>intros;exact .no
 | succ k ih =>
  intro x1 x8 x10 x11 yg5 zw0 s16 w18 h19 H14 S15 σ
  rw [zq]
  refine .round (Sim.ext (z9y _ _ _ _ _ _ _ _ _ _) ?_)
  refine .cq ?_ ?_
  ·refine .call (zf1 yg5 (S15.atG (i:=0) rfl)) fun r21 cs22 H23 h24 q25=>?_
   cases q25
   have S26:=S15.setG (i:=0) (cs':=List.map C.v [(.p (.int .u64 r21.2))]) rfl rfl rfl
   refine .ci ?_
   refine .cq ?_ ?_
   ·refine .bd fun a28 h29=>?_
    refine .op ((S26.slW (i:=0) rfl h19).iS h29 rfl) ?_
    obtain ⟨w31,h32,hE30⟩:=(S26.slW (i:=0) rfl h19).el h29 rfl
    obtain rfl:=z5.inv h32
    refine .op (hE30.all (by simp)) ?_
    refine .bd fun a33 h34=>?_
    refine .op ((S26.slW (i:=0) rfl h19).iS h34 rfl) ?_
    obtain ⟨w36,h37,hE35⟩:=(S26.slW (i:=0) rfl h19).el h34 rfl
    obtain rfl:=z5.inv h37
    refine .op (hE35.all (by simp)) ?_
    refine .bd fun a38 h39=>?_
    refine .op ((S26.slW (i:=0) rfl h19).iS h39 rfl) ?_
    refine .bd fun a43 h44=>?_
    obtain ⟨w45,H40,e41,h46,S42⟩:=S26.setWA (i:=0) (e:=2) (own:=false) (σ:=(17::1::1::0::1::0::σ)) (nv:=[.p (.int .i64 a28.f_At),.p (.int .u64 a28.Key)]) (xv:=(.agg [.p (.int .i64 a28.f_At),.p (.int .u64 a28.Key)])) rfl h19 h44 rfl (z28 (sC (sI _ _) (sC (sI _ _) sN))) (show z5.R a28 [.p (.int .i64 a28.f_At),.p (.int .u64 a28.Key)] from (z5.mk)) rfl
    refine .op (sM e41) ?_
    refine .bd fun a47 h48=>?_
    refine .op ((S42.slW (i:=0) rfl h46).iS h48 rfl) ?_
    refine .bd fun a52 h53=>?_
    obtain ⟨w54,H49,e50,h55,S51⟩:=S42.setWA (i:=0) (e:=2) (own:=false) (σ:=(19::1::1::0::1::0::σ)) (nv:=[.p (.int .i64 a33.f_At),.p (.int .u64 a33.Key)]) (xv:=(.agg [.p (.int .i64 a33.f_At),.p (.int .u64 a33.Key)])) rfl h46 h53 rfl (z28 (sC (sI _ _) (sC (sI _ _) sN))) (show z5.R a33 [.p (.int .i64 a33.f_At),.p (.int .u64 a33.Key)] from (z5.mk)) rfl
    refine .op (sM e50) ?_
    exact ih x1 x8 x10 (IntKind.wrap .i64 (x11+1)) r21.2 a52 s16 w54 h55 H49 (S51.wk2 (aC (aM 0 rfl) aN) aN)
   refine .bd fun a56 h57=>?_
   refine .op ((S26.slW (i:=0) rfl h19).iS h57 rfl) ?_
   obtain ⟨w59,h60,hE58⟩:=(S26.slW (i:=0) rfl h19).el h57 rfl
   obtain rfl:=z5.inv h60
   refine .op (hE58.all (by simp)) ?_
   refine .bd fun a61 h62=>?_
   refine .op ((S26.slW (i:=0) rfl h19).iS h62 rfl) ?_
   obtain ⟨w64,h65,hE63⟩:=(S26.slW (i:=0) rfl h19).el h62 rfl
   obtain rfl:=z5.inv h65
   refine .op (hE63.all (by simp)) ?_
   refine .bd fun a66 h67=>?_
   refine .op ((S26.slW (i:=0) rfl h19).iS h67 rfl) ?_
   refine .bd fun a71 h72=>?_
   obtain ⟨w73,H68,e69,h74,S70⟩:=S26.setWA (i:=0) (e:=2) (own:=false) (σ:=(17::1::1::0::1::0::σ)) (nv:=[.p (.int .i64 a56.f_At),.p (.int .u64 a56.Key)]) (xv:=(.agg [.p (.int .i64 a56.f_At),.p (.int .u64 a56.Key)])) rfl h19 h72 rfl (z28 (sC (sI _ _) (sC (sI _ _) sN))) (show z5.R a56 [.p (.int .i64 a56.f_At),.p (.int .u64 a56.Key)] from (z5.mk)) rfl
   refine .op (sM e69) ?_
   refine .bd fun a75 h76=>?_
   refine .op ((S70.slW (i:=0) rfl h74).iS h76 rfl) ?_
   refine .bd fun a80 h81=>?_
   obtain ⟨w82,H77,e78,h83,S79⟩:=S70.setWA (i:=0) (e:=2) (own:=false) (σ:=(19::1::1::0::1::0::σ)) (nv:=[.p (.int .i64 a61.f_At),.p (.int .u64 a61.Key)]) (xv:=(.agg [.p (.int .i64 a61.f_At),.p (.int .u64 a61.Key)])) rfl h74 h81 rfl (z28 (sC (sI _ _) (sC (sI _ _) sN))) (show z5.R a61 [.p (.int .i64 a61.f_At),.p (.int .u64 a61.Key)] from (z5.mk)) rfl
   refine .op (sM e78) ?_
   exact ih x1 x8 x10 (IntKind.wrap .i64 (x11+1)) r21.2 a80 s16 w82 h83 H77 (S79.wk2 (aC (aM 0 rfl) aN) aN)
  exact hE0 zw0 w18 h19 H14 (S15.wk2 aN aN)
theorem z67 (k:Nat) {h:H} {σ:Stamp} (x0:List z8) {u0:V} {l0:Loc} {o0:Nat} {w0:List C} (hw0:WL l0 o0 z5 x0 u0 w0) (ha0:AtC h l0 o0 w0) (x1:Int) (x2:Int):Sim (z1m k x0 x1 x2) (ev G X0 158 σ [u0,(.p (.int .i64 x1)),(.p (.int .i64 x2)),(.clo 114 [])] h) (fun r s=>∃ (wb0:List C),WL l0 o0 z5 r u0 wb0∧s=([],pts h [⟨l0,o0,wb0⟩])):=by
 refine .ev rfl (Sim.ext (z93 _ _ _ _ _ _ _ _) ?_)
 rw [z1m]
 have S0:Fm 67 h [⟨l0,o0,w0⟩] [] [] (List.replicate 67 []::h):=Fm.start1 ha0
 refine .cq ?_ ?_
 ·obtain ⟨H2,e3,S4⟩:=S0.al (d:=9) (s:=(2::0::1::1::0::σ)) (z:=[(.p (.int .u64 0))]) (by decide) rfl
  refine .op (congrArg some e3) ?_
  obtain ⟨H6,e7,S8⟩:=S4.stG (i:=0) (j:=0) (own:=true) (σ:=(3::0::1::1::0::σ)) (x:=(.p (.int .u64 (IntKind.wrap .u64 (IntKind.wrap .i64 (x2-x1)))))) rfl rfl (sI _ _) rfl
  refine .op (sM e7) ?_
  refine .call (zem (IntKind.wrap .i64 (x2-x1))) fun r9 cs10 H11 h12 q13=>?_
  cases q13
  refine .ci ?_
  refine .as (z5g ?_ k x1 (IntKind.wrap .i64 (x2-x1)) r9 (IntKind.wrap .i64 ((IntKind.wrap .i64 (x1+(IntKind.wrap .i64 ((IntKind.wrap .i64 (Int.tdiv (IntKind.wrap .i64 (x2-x1)) 4))*2))))-1)) (IntKind.wrap .u64 (IntKind.wrap .i64 (x2-x1))) x0 (2::0::1::1::0::σ) w0 hw0 H6 (S8.wk2 (aC (aM 0 rfl) aN) aN))
  ·intro zw0 w91 h92 H89 S90
   refine .ext (z9i _ _ _ _) ?_
   exact .fin (S90.finN lN) ⟨w91,h92,rfl⟩
 exact .fin (S0.finN lN) ⟨w0,hw0,rfl⟩
end
end Go.Ev
namespace Go.Ev
open Go.Proofs
set_option linter.unusedVariables false
set_option linter.unusedSimpArgs false
set_option maxRecDepth 100000
noncomputable section
abbrev KT7:=Exit→Env→H→Option (List C × H)
variable (rec : CallF) (loop : LoopV) (σ : Stamp)
theorem z9m (x0:V) (x1:Int) (x2:Int) (x3:V) (h:H):cvBody G rec loop 159 σ [x0,(.p (.int .i64 x1)),(.p (.int .i64 x2)),x3] h =
(some (alO [.p (.int .i64 0)] (0::0::1::1::0::σ) 11 (List.replicate 63 []::h))).bind fun q1 =>
bif decide ((IntKind.wrap .i64 (x2-x1))≥8) then (
bif decide ((IntKind.wrap .i64 (x2-x1))≥50) then (
(callO rec 170 (3::0::1::0::1::0::1::1::1::1::1::1::0::σ) [x0,(.p (.int .i64 (IntKind.wrap .i64 (x1+(IntKind.wrap .i64 ((IntKind.wrap .i64 (Int.tdiv (IntKind.wrap .i64 (x2-x1)) 4))*1)))))),q1.1,x3] q1.2 (some 40)).bind fun q2 =>
(castI .i64 q2.1).bind fun n3 =>
(callO rec 170 (3::0::1::1::0::1::0::1::1::1::1::1::1::0::σ) [x0,(.p (.int .i64 (IntKind.wrap .i64 (x1+(IntKind.wrap .i64 ((IntKind.wrap .i64 (Int.tdiv (IntKind.wrap .i64 (x2-x1)) 4))*2)))))),q1.1,x3] q2.2 (some 44)).bind fun q4 =>
(castI .i64 q4.1).bind fun n5 =>
(callO rec 170 (3::1::1::1::0::1::0::1::1::1::1::1::1::0::σ) [x0,(.p (.int .i64 (IntKind.wrap .i64 (x1+(IntKind.wrap .i64 ((IntKind.wrap .i64 (Int.tdiv (IntKind.wrap .i64 (x2-x1)) 4))*3)))))),q1.1,x3] q4.2 (some 48)).bind fun q6 =>
(castI .i64 q6.1).bind fun n7 =>
(callO rec 171 (5::1::1::0::1::1::1::1::1::1::0::σ) [x0,(.p (.int .i64 n3)),(.p (.int .i64 n5)),(.p (.int .i64 n7)),q1.1,x3] q6.2 (some 54)).bind fun q8 =>
(castI .i64 q8.1).bind fun n9 =>
(ldO false 1 q8.2 q1.1).bind fun t10 =>
(castI .i64 t10).bind fun n11 =>
bif n11==0 then (
fin false σ q8.2 [(.p (.int .i64 n9)),(.p (.int .i64 1))])
else (
bif n11==12 then (
fin false σ q8.2 [(.p (.int .i64 n9)),(.p (.int .i64 2))])
else (
fin false σ q8.2 [(.p (.int .i64 n9)),(.p (.int .i64 0))])))
else (
(callO rec 171 (5::1::1::0::1::1::1::1::1::1::0::σ) [x0,(.p (.int .i64 (IntKind.wrap .i64 (x1+(IntKind.wrap .i64 ((IntKind.wrap .i64 (Int.tdiv (IntKind.wrap .i64 (x2-x1)) 4))*1)))))),(.p (.int .i64 (IntKind.wrap .i64 (x1+(IntKind.wrap .i64 ((IntKind.wrap .i64 (Int.tdiv (IntKind.wrap .i64 (x2-x1)) 4))*2)))))),(.p (.int .i64 (IntKind.wrap .i64 (x1+(IntKind.wrap .i64 ((IntKind.wrap .i64 (Int.tdiv (IntKind.wrap .i64 (x2-x1)) 4))*3)))))),q1.1,x3] q1.2 (some 54)).bind fun q12 =>
(castI .i64 q12.1).bind fun n13 =>
(ldO false 1 q12.2 q1.1).bind fun t14 =>
(castI .i64 t14).bind fun n15 =>
bif n15==0 then (
fin false σ q12.2 [(.p (.int .i64 n13)),(.p (.int .i64 1))])
else (
bif n15==12 then (
fin false σ q12.2 [(.p (.int .i64 n13)),(.p (.int .i64 2))])
else (
fin false σ q12.2 [(.p (.int .i64 n13)),(.p (.int .i64 0))]))))
else (
(ldO false 1 q1.2 q1.1).bind fun t16 =>
(castI .i64 t16).bind fun n17 =>
bif n17==0 then (
fin false σ q1.2 [(.p (.int .i64 (IntKind.wrap .i64 (x1+(IntKind.wrap .i64 ((IntKind.wrap .i64 (Int.tdiv (IntKind.wrap .i64 (x2-x1)) 4))*2)))))),(.p (.int .i64 1))])
else (
bif n17==12 then (
fin false σ q1.2 [(.p (.int .i64 (IntKind.wrap .i64 (x1+(IntKind.wrap .i64 ((IntKind.wrap .i64 (Int.tdiv (IntKind.wrap .i64 (x2-x1)) 4))*2)))))),(.p (.int .i64 2))])
else (
fin false σ q1.2 [(.p (.int .i64 (IntKind.wrap .i64 (x1+(IntKind.wrap .i64 ((IntKind.wrap .i64 (Int.tdiv (IntKind.wrap .i64 (x2-x1)) 4))*2)))))),(.p (.int .i64 0))]))):=by kernel_rfl
theorem z8x (x0:V) (x1:Int) (x2:V) (x3:V) (h:H):cvBody G rec loop 170 σ [x0,(.p (.int .i64 x1)),x2,x3] h =
(callO rec 171 (8::0::1::0::σ) [x0,(.p (.int .i64 (IntKind.wrap .i64 (x1-1)))),(.p (.int .i64 x1)),(.p (.int .i64 (IntKind.wrap .i64 (x1+1)))),x2,x3] (List.replicate 18 []::h) (some 17)).bind fun q1 =>
(castI .i64 q1.1).bind fun n2 =>
fin false σ q1.2 [(.p (.int .i64 n2))]:=by kernel_rfl
theorem zas (x0:V) (x1:Int) (x2:Int) (x3:Int) (x4:V) (x5:V) (h:H):cvBody G rec loop 171 σ [x0,(.p (.int .i64 x1)),(.p (.int .i64 x2)),(.p (.int .i64 x3)),x4,x5] h =
(callO rec 172 (5::0::1::0::σ) [x0,(.p (.int .i64 x1)),(.p (.int .i64 x2)),x4,x5] (List.replicate 41 []::h) (some 19)).bind fun q1 =>
(extV q1.1 0).bind fun t2 =>
(castI .i64 t2).bind fun n3 =>
(extV q1.1 1).bind fun t4 =>
(castI .i64 t4).bind fun n5 =>
(callO rec 172 (5::0::1::1::0::σ) [x0,(.p (.int .i64 n5)),(.p (.int .i64 x3)),x4,x5] q1.2 (some 28)).bind fun q6 =>
(extV q6.1 0).bind fun t7 =>
(castI .i64 t7).bind fun n8 =>
(extV q6.1 1).bind fun t9 =>
(castI .i64 t9).bind fun n10 =>
(callO rec 172 (5::0::1::1::1::0::σ) [x0,(.p (.int .i64 n3)),(.p (.int .i64 n8)),x4,x5] q6.2 (some 37)).bind fun q11 =>
(extV q11.1 0).bind fun t12 =>
(castI .i64 t12).bind fun n13 =>
(extV q11.1 1).bind fun t14 =>
(castI .i64 t14).bind fun n15 =>
fin false σ q11.2 [(.p (.int .i64 n15))]:=by kernel_rfl
theorem zax (x0:V) (x1:Int) (x2:Int) (x3:V) (x4:V) (h:H):cvBody G rec loop 172 σ [x0,(.p (.int .i64 x1)),(.p (.int .i64 x2)),x3,x4] h =
(iS 2 x0 x2).bind fun t1 =>
(ldO true 2 (List.replicate 32 []::h) t1).bind fun t2 =>
(iS 2 x0 x1).bind fun t3 =>
(ldO true 2 (List.replicate 32 []::h) t3).bind fun t4 =>
(cloO rec x4 (9::0::0::1::0::σ) [t2,t4] (List.replicate 32 []::h) (some 21)).bind fun q5 =>
(castI .i64 q5.1).bind fun n6 =>
bif decide (n6<0) then (
(nilChk x3).bind fun t7 =>
(ldO false 1 q5.2 t7).bind fun t8 =>
(castI .i64 t8).bind fun n9 =>
(nilChk x3).bind fun t10 =>
((stO true 1 (5::0::1::0::1::0::σ) q5.2 t10 (.p (.int .i64 (IntKind.wrap .i64 (n9+1))))).map fun h=>(udf,h)).bind fun q11 =>
fin false σ q11.2 [(.p (.int .i64 x2)),(.p (.int .i64 x1))])
else (
fin false σ q5.2 [(.p (.int .i64 x1)),(.p (.int .i64 x2))]):=by kernel_rfl
end
end Go.Ev
namespace Go.Ev
open Go.Proofs
set_option linter.unusedVariables false
set_option linter.unusedSimpArgs false
set_option maxRecDepth 100000
section
variable {β α : Type} {Q : β→α→Prop} {K : Exit × Env × H→Option α}
def z1k (k:Nat) (x0:(List z8)) (x1:Int) (x2:Int) (x3:Int):Option (Int×Int×Int) :=
(ix x0 x2).bind fun a1 =>
(ix x0 x1).bind fun a6 =>
(zk k a1 a6).bind fun r11 =>
bif decide (r11<0) then (
some (x2,x1,(IntKind.wrap .i64 (x3+1))))
else (
some (x1,x2,x3))
theorem z31 (k:Nat) {h:H} {σ:Stamp} (x0:List z8) {u0:V} (hu0:SlH h z5 x0 u0) (x1:Int) (x2:Int) (x3:Int)  {l3:Loc} {o3:Nat} (ha3:AtC h l3 o3 (List.map C.v [(.p (.int .i64 x3))])) (hk0_p3:KN u0 l3):Sim (z1k k x0 x1 x2 x3) (ev G X0 172 σ [u0,(.p (.int .i64 x1)),(.p (.int .i64 x2)),(.ref l3 o3),(.clo 114 [])] h) (fun r s=>s=([.v (.p (.int .i64 r.1)),.v (.p (.int .i64 r.2.1))],pts h [⟨l3,o3,[.v (.p (.int .i64 r.2.2))]⟩])):=by
 refine .ev rfl (Sim.ext (zax _ _ _ _ _ _ _ _ _) ?_)
 rw [z1k]
 have S0:Fm 32 h [⟨l3,o3,List.map C.v [(.p (.int .i64 x3))]⟩] [] [] (List.replicate 32 []::h):=Fm.start1 ha3
 refine .bd fun a1 h2=>?_
 refine .op ((S0.lowN (aC hk0_p3 aN) hu0).iS h2 rfl) ?_
 obtain ⟨w4,h5,hE3⟩:=(S0.lowN (aC hk0_p3 aN) hu0).el h2 rfl
 obtain rfl:=z5.inv h5
 refine .op (hE3.all (by simp)) ?_
 refine .bd fun a6 h7=>?_
 refine .op ((S0.lowN (aC hk0_p3 aN) hu0).iS h7 rfl) ?_
 obtain ⟨w9,h10,hE8⟩:=(S0.lowN (aC hk0_p3 aN) hu0).el h7 rfl
 obtain rfl:=z5.inv h10
 refine .op (hE8.all (by simp)) ?_
 refine .clo ?_
 refine .call (z19 k a1 (show z5.R a1 [.p (.int .i64 a1.f_At),.p (.int .u64 a1.Key)] from (z5.mk)) a6 (show z5.R a6 [.p (.int .i64 a6.f_At),.p (.int .u64 a6.Key)] from (z5.mk))) fun r11 cs12 H13 h14 q15=>?_
 cases q15
 refine .ci ?_
 refine .cq ?_ ?_
 ·refine .nc ?_
  refine .op ((S0.atB (i:=0) rfl).ld (j:=0) rfl) ?_
  refine .ci ?_
  refine .nc ?_
  obtain ⟨H17,e18,S19⟩:=S0.stB (i:=0) (j:=0) (own:=true) (σ:=(5::0::1::0::1::0::σ)) (x:=(.p (.int .i64 (IntKind.wrap .i64 (x3+1))))) rfl (sI _ _) rfl
  refine .op (sM e18) ?_
  exact .fin (S19.finN (lC (sI _ _).lv (lC (sI _ _).lv lN))) rfl
 exact .fin (S0.finN (lC (sI _ _).lv (lC (sI _ _).lv lN))) rfl
def z1l (k:Nat) (x0:(List z8)) (x1:Int) (x2:Int) (x3:Int) (x4:Int):Option (Int×Int) :=
(z1k k x0 x1 x2 x4).bind fun r1 =>
(z1k k x0 r1.2.1 x3 r1.2.2).bind fun r7 =>
(z1k k x0 r1.1 r7.1 r7.2.2).bind fun r13 =>
some (r13.2.1,r13.2.2)
theorem z32 (k:Nat) {h:H} {σ:Stamp} (x0:List z8) {u0:V} (hu0:SlH h z5 x0 u0) (x1:Int) (x2:Int) (x3:Int) (x4:Int)  {l4:Loc} {o4:Nat} (ha4:AtC h l4 o4 (List.map C.v [(.p (.int .i64 x4))])) (hk0_p4:KN u0 l4):Sim (z1l k x0 x1 x2 x3 x4) (ev G X0 171 σ [u0,(.p (.int .i64 x1)),(.p (.int .i64 x2)),(.p (.int .i64 x3)),(.ref l4 o4),(.clo 114 [])] h) (fun r s=>s=([.v (.p (.int .i64 r.1))],pts h [⟨l4,o4,[.v (.p (.int .i64 r.2))]⟩])):=by
 refine .ev rfl (Sim.ext (zas _ _ _ _ _ _ _ _ _ _) ?_)
 rw [z1l]
 have S0:Fm 41 h [⟨l4,o4,List.map C.v [(.p (.int .i64 x4))]⟩] [] [] (List.replicate 41 []::h):=Fm.start1 ha4
 refine .call (z31 k x0 (S0.lowN (aC hk0_p4 aN) hu0) x1 x2 x4 (S0.atB (i:=0) rfl) hk0_p4) fun r1 cs2 H3 h4 q5=>?_
 cases q5
 have S6:=S0.setB (i:=0) (cs:=List.map C.v [(.p (.int .i64 r1.2.2))]) rfl rfl
 refine .or ?_
 refine .ci ?_
 refine .or ?_
 refine .ci ?_
 refine .call (z31 k x0 (S6.lowN (aC hk0_p4 aN) hu0) r1.2.1 x3 r1.2.2 (S6.atB (i:=0) rfl) hk0_p4) fun r7 cs8 H9 h10 q11=>?_
 cases q11
 have S12:=S6.setB (i:=0) (cs:=List.map C.v [(.p (.int .i64 r7.2.2))]) rfl rfl
 refine .or ?_
 refine .ci ?_
 refine .or ?_
 refine .ci ?_
 refine .call (z31 k x0 (S12.lowN (aC hk0_p4 aN) hu0) r1.1 r7.1 r7.2.2 (S12.atB (i:=0) rfl) hk0_p4) fun r13 cs14 H15 h16 q17=>?_
 cases q17
 have S18:=S12.setB (i:=0) (cs:=List.map C.v [(.p (.int .i64 r13.2.2))]) rfl rfl
 refine .or ?_
 refine .ci ?_
 refine .or ?_
 refine .ci ?_
 exact .fin (S18.finN (lC (sI _ _).lv lN)) rfl
def z18 (k:Nat) (x0:(List z8)) (x1:Int) (x2:Int):Option (Int×Int) :=
(z1l k x0 (IntKind.wrap .i64 (x1-1)) x1 (IntKind.wrap .i64 (x1+1)) x2).bind fun r1 =>
some (r1.1,r1.2)
theorem z2h (k:Nat) {h:H} {σ:Stamp} (x0:List z8) {u0:V} (hu0:SlH h z5 x0 u0) (x1:Int) (x2:Int)  {l2:Loc} {o2:Nat} (ha2:AtC h l2 o2 (List.map C.v [(.p (.int .i64 x2))])) (hk0_p2:KN u0 l2):Sim (z18 k x0 x1 x2) (ev G X0 170 σ [u0,(.p (.int .i64 x1)),(.ref l2 o2),(.clo 114 [])] h) (fun r s=>s=([.v (.p (.int .i64 r.1))],pts h [⟨l2,o2,[.v (.p (.int .i64 r.2))]⟩])):=by
 refine .ev rfl (Sim.ext (z8x _ _ _ _ _ _ _ _) ?_)
 rw [z18]
 have S0:Fm 18 h [⟨l2,o2,List.map C.v [(.p (.int .i64 x2))]⟩] [] [] (List.replicate 18 []::h):=Fm.start1 ha2
 refine .call (z32 k x0 (S0.lowN (aC hk0_p2 aN) hu0) (IntKind.wrap .i64 (x1-1)) x1 (IntKind.wrap .i64 (x1+1)) x2 (S0.atB (i:=0) rfl) hk0_p2) fun r1 cs2 H3 h4 q5=>?_
 cases q5
 have S6:=S0.setB (i:=0) (cs:=List.map C.v [(.p (.int .i64 r1.2))]) rfl rfl
 refine .ci ?_
 exact .fin (S6.finN (lC (sI _ _).lv lN)) rfl
def z1e (k:Nat) (x0:(List z8)) (x1:Int) (x2:Int):Option (Int×Int) :=
bif decide ((IntKind.wrap .i64 (x2-x1))≥8) then (
bif decide ((IntKind.wrap .i64 (x2-x1))≥50) then (
(z18 k x0 (IntKind.wrap .i64 (x1+(IntKind.wrap .i64 ((IntKind.wrap .i64 (Int.tdiv (IntKind.wrap .i64 (x2-x1)) 4))*1)))) 0).bind fun r7 =>
(z18 k x0 (IntKind.wrap .i64 (x1+(IntKind.wrap .i64 ((IntKind.wrap .i64 (Int.tdiv (IntKind.wrap .i64 (x2-x1)) 4))*2)))) r7.2).bind fun r13 =>
(z18 k x0 (IntKind.wrap .i64 (x1+(IntKind.wrap .i64 ((IntKind.wrap .i64 (Int.tdiv (IntKind.wrap .i64 (x2-x1)) 4))*3)))) r13.2).bind fun r19 =>
(z1l k x0 r7.1 r13.1 r19.1 r19.2).bind fun r25 =>
bif r25.2==0 then (
some (r25.1,1))
else (
bif r25.2==12 then (
some (r25.1,2))
else (
some (r25.1,0))))
else (
(z1l k x0 (IntKind.wrap .i64 (x1+(IntKind.wrap .i64 ((IntKind.wrap .i64 (Int.tdiv (IntKind.wrap .i64 (x2-x1)) 4))*1)))) (IntKind.wrap .i64 (x1+(IntKind.wrap .i64 ((IntKind.wrap .i64 (Int.tdiv (IntKind.wrap .i64 (x2-x1)) 4))*2)))) (IntKind.wrap .i64 (x1+(IntKind.wrap .i64 ((IntKind.wrap .i64 (Int.tdiv (IntKind.wrap .i64 (x2-x1)) 4))*3)))) 0).bind fun r33 =>
bif r33.2==0 then (
some (r33.1,1))
else (
bif r33.2==12 then (
some (r33.1,2))
else (
some (r33.1,0)))))
else (
bif 0==0 then (
some ((IntKind.wrap .i64 (x1+(IntKind.wrap .i64 ((IntKind.wrap .i64 (Int.tdiv (IntKind.wrap .i64 (x2-x1)) 4))*2)))),1))
else (
bif 0==12 then (
some ((IntKind.wrap .i64 (x1+(IntKind.wrap .i64 ((IntKind.wrap .i64 (Int.tdiv (IntKind.wrap .i64 (x2-x1)) 4))*2)))),2))
else (
some ((IntKind.wrap .i64 (x1+(IntKind.wrap .i64 ((IntKind.wrap .i64 (Int.tdiv (IntKind.wrap .i64 (x2-x1)) 4))*2)))),0))))
theorem z44 (k:Nat) {h:H} {σ:Stamp} (x0:List z8) {u0:V} (hu0:SlH h z5 x0 u0) (x1:Int) (x2:Int):Sim (z1e k x0 x1 x2) (ev G X0 159 σ [u0,(.p (.int .i64 x1)),(.p (.int .i64 x2)),(.clo 114 [])] h) (fun r s=>s=([.v (.p (.int .i64 r.1)),.v (.p (.int .i64 r.2))],h)):=by
 refine .ev rfl (Sim.ext (z9m _ _ _ _ _ _ _ _) ?_)
 rw [z1e]
 have S0:Fm 63 h [] [] [] (List.replicate 63 []::h):=Fm.start0
 obtain ⟨H1,e2,S3⟩:=S0.al (d:=11) (s:=(0::0::1::1::0::σ)) (z:=[(.p (.int .i64 0))]) (by decide) rfl
 refine .op (congrArg some e2) ?_
 refine .cq ?_ ?_
 ·refine .cq ?_ ?_
  ·refine .call (z2h k x0 (S3.low hu0) (IntKind.wrap .i64 (x1+(IntKind.wrap .i64 ((IntKind.wrap .i64 (Int.tdiv (IntKind.wrap .i64 (x2-x1)) 4))*1)))) 0 (S3.atG (i:=0) rfl) (KN.of_low hu0 (Nat.le_refl _))) fun r7 cs8 H9 h10 q11=>?_
   cases q11
   have S12:=S3.setG (i:=0) (cs':=List.map C.v [(.p (.int .i64 r7.2))]) rfl rfl rfl
   refine .ci ?_
   refine .call (z2h k x0 (S12.low hu0) (IntKind.wrap .i64 (x1+(IntKind.wrap .i64 ((IntKind.wrap .i64 (Int.tdiv (IntKind.wrap .i64 (x2-x1)) 4))*2)))) r7.2 (S12.atG (i:=0) rfl) (KN.of_low hu0 (Nat.le_refl _))) fun r13 cs14 H15 h16 q17=>?_
   cases q17
   have S18:=S12.setG (i:=0) (cs':=List.map C.v [(.p (.int .i64 r13.2))]) rfl rfl rfl
   refine .ci ?_
   refine .call (z2h k x0 (S18.low hu0) (IntKind.wrap .i64 (x1+(IntKind.wrap .i64 ((IntKind.wrap .i64 (Int.tdiv (IntKind.wrap .i64 (x2-x1)) 4))*3)))) r13.2 (S18.atG (i:=0) rfl) (KN.of_low hu0 (Nat.le_refl _))) fun r19 cs20 H21 h22 q23=>?_
   cases q23
   have S24:=S18.setG (i:=0) (cs':=List.map C.v [(.p (.int .i64 r19.2))]) rfl rfl rfl
   refine .ci ?_
   refine .call (z32 k x0 (S24.low hu0) r7.1 r13.1 r19.1 r19.2 (S24.atG (i:=0) rfl) (KN.of_low hu0 (Nat.le_refl _))) fun r25 cs26 H27 h28 q29=>?_
   cases q29
   have S30:=S24.setG (i:=0) (cs':=List.map C.v [(.p (.int .i64 r25.2))]) rfl rfl rfl
   refine .ci ?_
   refine .op ((S30.atG (i:=0) rfl).ld (j:=0) rfl) ?_
   refine .ci ?_
   refine .cq ?_ ?_
   ·exact .fin (S30.finN (lC (sI _ _).lv (lC (sI _ _).lv lN))) rfl
   refine .cq ?_ ?_
   ·exact .fin (S30.finN (lC (sI _ _).lv (lC (sI _ _).lv lN))) rfl
   exact .fin (S30.finN (lC (sI _ _).lv (lC (sI _ _).lv lN))) rfl
  refine .call (z32 k x0 (S3.low hu0) (IntKind.wrap .i64 (x1+(IntKind.wrap .i64 ((IntKind.wrap .i64 (Int.tdiv (IntKind.wrap .i64 (x2-x1)) 4))*1)))) (IntKind.wrap .i64 (x1+(IntKind.wrap .i64 ((IntKind.wrap .i64 (Int.tdiv (IntKind.wrap .i64 (x2-x1)) 4))*2)))) (IntKind.wrap .i64 (x1+(IntKind.wrap .i64 ((IntKind.wrap .i64 (Int.tdiv (IntKind.wrap .i64 (x2-x1)) 4))*3)))) 0 (S3.atG (i:=0) rfl) (KN.of_low hu0 (Nat.le_refl _))) fun r33 cs34 H35 h36 q37=>?_
  cases q37
  have S38:=S3.setG (i:=0) (cs':=List.map C.v [(.p (.int .i64 r33.2))]) rfl rfl rfl
  refine .ci ?_
  refine .op ((S38.atG (i:=0) rfl).ld (j:=0) rfl) ?_
  refine .ci ?_
  refine .cq ?_ ?_
  ·exact .fin (S38.finN (lC (sI _ _).lv (lC (sI _ _).lv lN))) rfl
  refine .cq ?_ ?_
  ·exact .fin (S38.finN (lC (sI _ _).lv (lC (sI _ _).lv lN))) rfl
  exact .fin (S38.finN (lC (sI _ _).lv (lC (sI _ _).lv lN))) rfl
 refine .op ((S3.atG (i:=0) rfl).ld (j:=0) rfl) ?_
 refine .ci ?_
 refine .cq ?_ ?_
 ·exact .fin (S3.finN (lC (sI _ _).lv (lC (sI _ _).lv lN))) rfl
 refine .cq ?_ ?_
 ·exact .fin (S3.finN (lC (sI _ _).lv (lC (sI _ _).lv lN))) rfl
 exact .fin (S3.finN (lC (sI _ _).lv (lC (sI _ _).lv lN))) rfl
end
end Go.Ev
namespace Go.Ev
open Go.Proofs
set_option linter.unusedVariables false
set_option linter.unusedSimpArgs false
set_option maxRecDepth 100000
noncomputable section
abbrev KT8:=Exit→Env→H→Option (List C × H)
variable (rec : CallF) (loop : LoopV) (σ : Stamp)
def z3z:Code:=(codeAt (bodyOf Try.f157) [1,1,1,0,1,0,0])
def z3y:Lv:=⟨1801,0,[(0,1801)]⟩
def z7b:KT8:=(kBlock 0 (kSeq G rec loop (codeAt (bodyOf Try.f157) [1,1,1,1]) ⟨0,0,[]⟩ (1::1::1::0::σ) (finC G false Try.f157 (1::σ))))
def z40:Code:=(codeAt (bodyOf Try.f157) [1,1,1,1,1,0,0])
def z41:Lv:=⟨0,0,[(2,0)]⟩
def z7e (rec:CallF) (loop:LoopV) (σ:Stamp):KT8:=(kBlock 2 (finC G false Try.f157 (1::σ)))
theorem zam (x0:V) (x1:Int) (x2:Int) (x3:V) (h:H):cvBody G rec loop 157 σ [x0,(.p (.int .i64 x1)),(.p (.int .i64 x2)),x3] h =
(loop z3z z3y (1::0::1::1::1::0::σ) (envL [(0,x0),(3,x3),(8,(.p (.int .i64 x1))),(9,(.p (.int .i64 0))),(10,(.p (.int .i64 (IntKind.wrap .i64 (x2-x1))))),(11,(.p (.int .i64 (IntKind.wrap .i64 (Int.tdiv (IntKind.wrap .i64 ((IntKind.wrap .i64 (x2-x1))-1)) 2)))))]) (List.replicate 60 []::h)).bind fun r1=>z7b rec loop σ r1.1 r1.2.1 r1.2.2:=by kernel_rfl
theorem zbc (x0:V) (x3:V) (x8:Int) (x9:Int) (x10:Int) (x11:Int) (h:H):z1n G rec loop z3z z3y σ (envL [(0,x0),(3,x3),(8,(.p (.int .i64 x8))),(9,(.p (.int .i64 x9))),(10,(.p (.int .i64 x10))),(11,(.p (.int .i64 x11)))]) h =
bif decide (x11≥0) then (
(callO rec 167 (5::0::1::0::σ) [x0,(.p (.int .i64 x11)),(.p (.int .i64 x10)),(.p (.int .i64 x8)),x3] h (some 29)).bind fun q2 =>
loop z3z z3y (1::σ) (envL [(0,x0),(3,x3),(8,(.p (.int .i64 x8))),(9,(.p (.int .i64 x9))),(10,(.p (.int .i64 x10))),(11,(.p (.int .i64 (IntKind.wrap .i64 (x11-1)))))]) q2.2)
else (
some ((.exit 0),(envL [(0,x0),(3,x3),(8,(.p (.int .i64 x8))),(9,(.p (.int .i64 x9))),(10,(.p (.int .i64 x10)))]),h)):=by kernel_rfl
theorem zaq (x0:V) (x3:V) (x8:Int) (x9:Int) (x10:Int) (h:H):z7b rec loop σ (.exit 0) (envL [(0,x0),(3,x3),(8,(.p (.int .i64 x8))),(9,(.p (.int .i64 x9))),(10,(.p (.int .i64 x10)))]) h =
(loop z40 z41 (1::1::1::1::1::0::σ) (envL [(0,x0),(3,x3),(8,(.p (.int .i64 x8))),(9,(.p (.int .i64 x9))),(12,(.p (.int .i64 (IntKind.wrap .i64 (x10-1)))))]) h).bind fun r3=>z7e rec loop σ r3.1 r3.2.1 r3.2.2:=by kernel_rfl
theorem zbh (x0:V) (x3:V) (x8:Int) (x9:Int) (x12:Int) (h:H):z1n G rec loop z40 z41 σ (envL [(0,x0),(3,x3),(8,(.p (.int .i64 x8))),(9,(.p (.int .i64 x9))),(12,(.p (.int .i64 x12)))]) h =
bif decide (x12≥0) then (
(iS 2 x0 (IntKind.wrap .i64 (x8+x12))).bind fun t4 =>
(ldO true 2 h t4).bind fun t5 =>
(iS 2 x0 x8).bind fun t6 =>
(ldO true 2 h t6).bind fun t7 =>
(iS 2 x0 x8).bind fun t8 =>
((stO false 2 (17::0::0::1::0::σ) h t8 t5).map fun h=>(udf,h)).bind fun q9 =>
(iS 2 x0 (IntKind.wrap .i64 (x8+x12))).bind fun t10 =>
((stO false 2 (19::0::0::1::0::σ) q9.2 t10 t7).map fun h=>(udf,h)).bind fun q11 =>
(callO rec 167 (5::1::0::1::0::σ) [x0,(.p (.int .i64 x9)),(.p (.int .i64 x12)),(.p (.int .i64 x8)),x3] q11.2 (some 59)).bind fun q12 =>
loop z40 z41 (1::σ) (envL [(0,x0),(3,x3),(8,(.p (.int .i64 x8))),(9,(.p (.int .i64 x9))),(12,(.p (.int .i64 (IntKind.wrap .i64 (x12-1)))))]) q12.2)
else (
some ((.exit 2),(envL []),h)):=by kernel_rfl
theorem zap  (h:H):z7e rec loop σ (.exit 2) (envL []) h =
fin false σ h []:=by kernel_rfl
def z2q:Code:=(codeAt (bodyOf Try.f167) [1,0,0])
def z2r:Lv:=⟨0,0,[(0,0)]⟩
def z4q (rec:CallF) (loop:LoopV) (σ:Stamp):KT8:=(kBlock 0 (finC G false Try.f167 (1::σ)))
theorem zaj (x0:V) (x1:Int) (x2:Int) (x3:Int) (x4:V) (h:H):cvBody G rec loop 167 σ [x0,(.p (.int .i64 x1)),(.p (.int .i64 x2)),(.p (.int .i64 x3)),x4] h =
(loop z2q z2r (1::0::σ) (envL [(0,x0),(2,(.p (.int .i64 x2))),(3,(.p (.int .i64 x3))),(4,x4),(10,(.p (.int .i64 x1)))]) (List.replicate 82 []::h)).bind fun r1=>z4q rec loop σ r1.1 r1.2.1 r1.2.2:=by kernel_rfl
theorem zbi (x0:V) (x2:Int) (x3:Int) (x4:V) (x10:Int) (h:H):z1n G rec loop z2q z2r σ (envL [(0,x0),(2,(.p (.int .i64 x2))),(3,(.p (.int .i64 x3))),(4,x4),(10,(.p (.int .i64 x10)))]) h =
bif decide ((IntKind.wrap .i64 ((IntKind.wrap .i64 (2*x10))+1))≥x2) then (
some ((.exit 0),(envL []),h))
else (
(bif decide ((IntKind.wrap .i64 ((IntKind.wrap .i64 ((IntKind.wrap .i64 (2*x10))+1))+1))<x2) then ((iS 2 x0 (IntKind.wrap .i64 (x3+(IntKind.wrap .i64 ((IntKind.wrap .i64 (2*x10))+1))))).bind fun t2 =>
(ldO true 2 h t2).bind fun t3 =>
(iS 2 x0 (IntKind.wrap .i64 ((IntKind.wrap .i64 (x3+(IntKind.wrap .i64 ((IntKind.wrap .i64 (2*x10))+1))))+1))).bind fun t4 =>
(ldO true 2 h t4).bind fun t5 =>
(cloO rec x4 (19::0::0::1::1::0::σ) [t3,t5] h (some 38)).bind fun q6 =>
(castI .i64 q6.1).bind fun n7 =>
some ((.p (.bool (decide (n7<0)))),q6.2)) else (some ((.p (.bool false)),h))).bind fun q8 =>
(asB q8.1).bind fun b9 =>
bif b9 then (
(iS 2 x0 (IntKind.wrap .i64 (x3+x10))).bind fun t10 =>
(ldO true 2 q8.2 t10).bind fun t11 =>
(iS 2 x0 (IntKind.wrap .i64 (x3+(IntKind.wrap .i64 ((IntKind.wrap .i64 ((IntKind.wrap .i64 (2*x10))+1))+1))))).bind fun t12 =>
(ldO true 2 q8.2 t12).bind fun t13 =>
(cloO rec x4 (13::0::0::1::1::1::0::σ) [t11,t13] q8.2 (some 56)).bind fun q14 =>
(castI .i64 q14.1).bind fun n15 =>
bif !(decide (n15<0)) then (
some (.ret,(envL []),q14.2))
else (
(iS 2 x0 (IntKind.wrap .i64 (x3+(IntKind.wrap .i64 ((IntKind.wrap .i64 ((IntKind.wrap .i64 (2*x10))+1))+1))))).bind fun t16 =>
(ldO true 2 q14.2 t16).bind fun t17 =>
(iS 2 x0 (IntKind.wrap .i64 (x3+x10))).bind fun t18 =>
(ldO true 2 q14.2 t18).bind fun t19 =>
(iS 2 x0 (IntKind.wrap .i64 (x3+x10))).bind fun t20 =>
((stO false 2 (21::0::1::1::1::1::0::σ) q14.2 t20 t17).map fun h=>(udf,h)).bind fun q21 =>
(iS 2 x0 (IntKind.wrap .i64 (x3+(IntKind.wrap .i64 ((IntKind.wrap .i64 ((IntKind.wrap .i64 (2*x10))+1))+1))))).bind fun t22 =>
((stO false 2 (23::0::1::1::1::1::0::σ) q21.2 t22 t19).map fun h=>(udf,h)).bind fun q23 =>
loop z2q z2r (1::σ) (envL [(0,x0),(2,(.p (.int .i64 x2))),(3,(.p (.int .i64 x3))),(4,x4),(10,(.p (.int .i64 (IntKind.wrap .i64 ((IntKind.wrap .i64 ((IntKind.wrap .i64 (2*x10))+1))+1)))))]) q23.2))
else (
(iS 2 x0 (IntKind.wrap .i64 (x3+x10))).bind fun t24 =>
(ldO true 2 q8.2 t24).bind fun t25 =>
(iS 2 x0 (IntKind.wrap .i64 (x3+(IntKind.wrap .i64 ((IntKind.wrap .i64 (2*x10))+1))))).bind fun t26 =>
(ldO true 2 q8.2 t26).bind fun t27 =>
(cloO rec x4 (13::0::0::1::1::1::0::σ) [t25,t27] q8.2 (some 56)).bind fun q28 =>
(castI .i64 q28.1).bind fun n29 =>
bif !(decide (n29<0)) then (
some (.ret,(envL []),q28.2))
else (
(iS 2 x0 (IntKind.wrap .i64 (x3+(IntKind.wrap .i64 ((IntKind.wrap .i64 (2*x10))+1))))).bind fun t30 =>
(ldO true 2 q28.2 t30).bind fun t31 =>
(iS 2 x0 (IntKind.wrap .i64 (x3+x10))).bind fun t32 =>
(ldO true 2 q28.2 t32).bind fun t33 =>
(iS 2 x0 (IntKind.wrap .i64 (x3+x10))).bind fun t34 =>
((stO false 2 (21::0::1::1::1::1::0::σ) q28.2 t34 t31).map fun h=>(udf,h)).bind fun q35 =>
(iS 2 x0 (IntKind.wrap .i64 (x3+(IntKind.wrap .i64 ((IntKind.wrap .i64 (2*x10))+1))))).bind fun t36 =>
((stO false 2 (23::0::1::1::1::1::0::σ) q35.2 t36 t33).map fun h=>(udf,h)).bind fun q37 =>
loop z2q z2r (1::σ) (envL [(0,x0),(2,(.p (.int .i64 x2))),(3,(.p (.int .i64 x3))),(4,x4),(10,(.p (.int .i64 (IntKind.wrap .i64 ((IntKind.wrap .i64 (2*x10))+1)))))]) q37.2))):=by kernel_rfl
theorem zar  (h:H):z4q rec loop σ (.exit 0) (envL []) h =
fin false σ h []:=by kernel_rfl
theorem zaa  (h:H):z4q rec loop σ .ret (envL []) h =
fin false σ h []:=by kernel_rfl
end
end Go.Ev
namespace Go.Ev
open Go.Proofs
set_option linter.unusedVariables false
set_option linter.unusedSimpArgs false
set_option maxRecDepth 100000
section
variable {β α : Type} {Q : β→α→Prop} {K : Exit × Env × H→Option α}
def zn {β:Type} (k:Nat) (kE0:(List z8)→Option β) (kE1:(List z8)→Option β) (x2:Int) (x3:Int) (x10:Int) (zw0:(List z8)):Option β:=match k with
| 0=>none
| k+1 =>
bif decide ((IntKind.wrap .i64 ((IntKind.wrap .i64 (2*x10))+1))≥x2) then (
kE0 zw0)
else (
(bif decide ((IntKind.wrap .i64 ((IntKind.wrap .i64 ((IntKind.wrap .i64 (2*x10))+1))+1))<x2) then ((ix zw0 (IntKind.wrap .i64 (x3+(IntKind.wrap .i64 ((IntKind.wrap .i64 (2*x10))+1))))).bind fun a6 =>
(ix zw0 (IntKind.wrap .i64 ((IntKind.wrap .i64 (x3+(IntKind.wrap .i64 ((IntKind.wrap .i64 (2*x10))+1))))+1))).bind fun a11 =>
(zk k a6 a11).bind fun r16 =>
some (decide (r16<0))) else (some false)).bind fun b21 =>
bif b21 then (
(ix zw0 (IntKind.wrap .i64 (x3+x10))).bind fun a26 =>
(ix zw0 (IntKind.wrap .i64 (x3+(IntKind.wrap .i64 ((IntKind.wrap .i64 ((IntKind.wrap .i64 (2*x10))+1))+1))))).bind fun a31 =>
(zk k a26 a31).bind fun r36 =>
bif !(decide (r36<0)) then (
kE1 zw0)
else (
(ix zw0 (IntKind.wrap .i64 (x3+(IntKind.wrap .i64 ((IntKind.wrap .i64 ((IntKind.wrap .i64 (2*x10))+1))+1))))).bind fun a42 =>
(ix zw0 (IntKind.wrap .i64 (x3+x10))).bind fun a47 =>
(ix zw0 (IntKind.wrap .i64 (x3+x10))).bind fun a52 =>
(stx zw0 (IntKind.wrap .i64 (x3+x10)) a42).bind fun a57 =>
(ix a57 (IntKind.wrap .i64 (x3+(IntKind.wrap .i64 ((IntKind.wrap .i64 ((IntKind.wrap .i64 (2*x10))+1))+1))))).bind fun a61 =>
(stx a57 (IntKind.wrap .i64 (x3+(IntKind.wrap .i64 ((IntKind.wrap .i64 ((IntKind.wrap .i64 (2*x10))+1))+1)))) a47).bind fun a66 =>
zn k kE0 kE1 x2 x3 (IntKind.wrap .i64 ((IntKind.wrap .i64 ((IntKind.wrap .i64 (2*x10))+1))+1)) a66))
else (
(ix zw0 (IntKind.wrap .i64 (x3+x10))).bind fun a70 =>
(ix zw0 (IntKind.wrap .i64 (x3+(IntKind.wrap .i64 ((IntKind.wrap .i64 (2*x10))+1))))).bind fun a75 =>
(zk k a70 a75).bind fun r80 =>
bif !(decide (r80<0)) then (
kE1 zw0)
else (
(ix zw0 (IntKind.wrap .i64 (x3+(IntKind.wrap .i64 ((IntKind.wrap .i64 (2*x10))+1))))).bind fun a86 =>
(ix zw0 (IntKind.wrap .i64 (x3+x10))).bind fun a91 =>
(ix zw0 (IntKind.wrap .i64 (x3+x10))).bind fun a96 =>
(stx zw0 (IntKind.wrap .i64 (x3+x10)) a86).bind fun a101 =>
(ix a101 (IntKind.wrap .i64 (x3+(IntKind.wrap .i64 ((IntKind.wrap .i64 (2*x10))+1))))).bind fun a105 =>
(stx a101 (IntKind.wrap .i64 (x3+(IntKind.wrap .i64 ((IntKind.wrap .i64 (2*x10))+1)))) a91).bind fun a110 =>
zn k kE0 kE1 x2 x3 (IntKind.wrap .i64 ((IntKind.wrap .i64 (2*x10))+1)) a110)))
def z1h (k:Nat) (x0:(List z8)) (x1:Int) (x2:Int) (x3:Int):Option ((List z8)) :=
zn k (fun zw0 =>
some (zw0)) (fun zw0 =>
some (zw0)) x2 x3 x1 x0
theorem z6m {h:H} {l0:Loc} {o0:Nat} {u0:V} {kE0:(List z8)→Option β} {kE1:(List z8)→Option β} (hE0:∀ (zw0:(List z8)) (w116:List C) (h117:WL l0 o0 z5 zw0 u0 w116) (H114:Go.Ev.H) (_:Fm 82 h [⟨l0,o0,w116⟩] [] [] H114),Sim (kE0 zw0) (K ((.exit 0),(envL []),H114)) Q) (hE1:∀ (zw0:(List z8)) (w120:List C) (h121:WL l0 o0 z5 zw0 u0 w120) (H118:Go.Ev.H) (_:Fm 82 h [⟨l0,o0,w120⟩] [] [] H118),Sim (kE1 zw0) (K (.ret,(envL []),H118)) Q) (k:Nat):∀ (x2:Int) (x3:Int) (x10:Int) (zw0:(List z8)) (w3:List C) (h4:WL l0 o0 z5 zw0 u0 w3) (H1:Go.Ev.H) (_:Fm 82 h [⟨l0,o0,w3⟩] [] [] H1) {σ:Stamp},Sim (zn k kE0 kE1 x2 x3 x10 zw0) ((cvL G X0 z2q z2r σ (envL [(0,u0),(2,(.p (.int .i64 x2))),(3,(.p (.int .i64 x3))),(4,(.clo 114 [])),(10,(.p (.int .i64 x10)))]) H1).bind K) Q:=by
 induction k with
 | zero=>intros;exact .no
 | succ k ih =>
  intro x2 x3 x10 zw0 w3 h4 H1 S2 σ
  rw [zn]
  refine .round (Sim.ext (zbi _ _ _ _ _ _ _ _ _) ?_)
  refine .cq ?_ ?_
  ·exact hE0 zw0 w3 h4 H1 (S2.wk2 aN aN)
  refine .ch (P:=fun r y=>(.p (.bool r),H1)=y) ?_ (fun b21 y22 h23 h24=>?_)
  ·refine .cq ?_ ?_
   ·refine .bd fun a6 h7=>?_
    refine .op ((S2.slW (i:=0) rfl h4).iS h7 rfl) ?_
    obtain ⟨w9,h10,hE8⟩:=(S2.slW (i:=0) rfl h4).el h7 rfl
    obtain rfl:=z5.inv h10
    refine .op (hE8.all (by simp)) ?_
    refine .bd fun a11 h12=>?_
    refine .op ((S2.slW (i:=0) rfl h4).iS h12 rfl) ?_
    obtain ⟨w14,h15,hE13⟩:=(S2.slW (i:=0) rfl h4).el h12 rfl
    obtain rfl:=z5.inv h15
    refine .op (hE13.all (by simp)) ?_
    refine .clo ?_
    refine .call (z19 k a6 (show z5.R a6 [.p (.int .i64 a6.f_At),.p (.int .u64 a6.Key)] from (z5.mk)) a11 (show z5.R a11 [.p (.int .i64 a11.f_At),.p (.int .u64 a11.Key)] from (z5.mk))) fun r16 cs17 H18 h19 q20=>?_
    cases q20
    refine .ci ?_
    exact .ret rfl rfl
   ·exact .ret rfl rfl
  subst h24
  refine .ab ?_
  refine .cq ?_ ?_
  ·refine .bd fun a26 h27=>?_
   refine .op ((S2.slW (i:=0) rfl h4).iS h27 rfl) ?_
   obtain ⟨w29,h30,hE28⟩:=(S2.slW (i:=0) rfl h4).el h27 rfl
   obtain rfl:=z5.inv h30
   refine .op (hE28.all (by simp)) ?_
   refine .bd fun a31 h32=>?_
   refine .op ((S2.slW (i:=0) rfl h4).iS h32 rfl) ?_
   obtain ⟨w34,h35,hE33⟩:=(S2.slW (i:=0) rfl h4).el h32 rfl
   obtain rfl:=z5.inv h35
   refine .op (hE33.all (by simp)) ?_
   refine .clo ?_
   refine .call (z19 k a26 (show z5.R a26 [.p (.int .i64 a26.f_At),.p (.int .u64 a26.Key)] from (z5.mk)) a31 (show z5.R a31 [.p (.int .i64 a31.f_At),.p (.int .u64 a31.Key)] from (z5.mk))) fun r36 cs37 H38 h39 q40=>?_
   cases q40
   refine .ci ?_
   refine .cq ?_ ?_
   ·exact hE1 zw0 w3 h4 H1 (S2.wk2 aN aN)
   refine .bd fun a42 h43=>?_
   refine .op ((S2.slW (i:=0) rfl h4).iS h43 rfl) ?_
   obtain ⟨w45,h46,hE44⟩:=(S2.slW (i:=0) rfl h4).el h43 rfl
   obtain rfl:=z5.inv h46
   refine .op (hE44.all (by simp)) ?_
   refine .bd fun a47 h48=>?_
   refine .op ((S2.slW (i:=0) rfl h4).iS h48 rfl) ?_
   obtain ⟨w50,h51,hE49⟩:=(S2.slW (i:=0) rfl h4).el h48 rfl
   obtain rfl:=z5.inv h51
   refine .op (hE49.all (by simp)) ?_
   refine .bd fun a52 h53=>?_
   refine .op ((S2.slW (i:=0) rfl h4).iS h53 rfl) ?_
   refine .bd fun a57 h58=>?_
   obtain ⟨w59,H54,e55,h60,S56⟩:=S2.setWA (i:=0) (e:=2) (own:=false) (σ:=(21::0::1::1::1::1::0::σ)) (nv:=[.p (.int .i64 a42.f_At),.p (.int .u64 a42.Key)]) (xv:=(.agg [.p (.int .i64 a42.f_At),.p (.int .u64 a42.Key)])) rfl h4 h58 rfl (z28 (sC (sI _ _) (sC (sI _ _) sN))) (show z5.R a42 [.p (.int .i64 a42.f_At),.p (.int .u64 a42.Key)] from (z5.mk)) rfl
   refine .op (sM e55) ?_
   refine .bd fun a61 h62=>?_
   refine .op ((S56.slW (i:=0) rfl h60).iS h62 rfl) ?_
   refine .bd fun a66 h67=>?_
   obtain ⟨w68,H63,e64,h69,S65⟩:=S56.setWA (i:=0) (e:=2) (own:=false) (σ:=(23::0::1::1::1::1::0::σ)) (nv:=[.p (.int .i64 a47.f_At),.p (.int .u64 a47.Key)]) (xv:=(.agg [.p (.int .i64 a47.f_At),.p (.int .u64 a47.Key)])) rfl h60 h67 rfl (z28 (sC (sI _ _) (sC (sI _ _) sN))) (show z5.R a47 [.p (.int .i64 a47.f_At),.p (.int .u64 a47.Key)] from (z5.mk)) rfl
   refine .op (sM e64) ?_
   exact ih x2 x3 (IntKind.wrap .i64 ((IntKind.wrap .i64 ((IntKind.wrap .i64 (2*x10))+1))+1)) a66 w68 h69 H63 (S65.wk2 aN aN)
  refine .bd fun a70 h71=>?_
  refine .op ((S2.slW (i:=0) rfl h4).iS h71 rfl) ?_
  obtain ⟨w73,h74,hE72⟩:=(S2.slW (i:=0) rfl h4).el h71 rfl
  obtain rfl:=z5.inv h74
  refine .op (hE72.all (by simp)) ?_
  refine .bd fun a75 h76=>?_
  refine .op ((S2.slW (i:=0) rfl h4).iS h76 rfl) ?_
  obtain ⟨w78,h79,hE77⟩:=(S2.slW (i:=0) rfl h4).el h76 rfl
  obtain rfl:=z5.inv h79
  refine .op (hE77.all (by simp)) ?_
  refine .clo ?_
  refine .call (z19 k a70 (show z5.R a70 [.p (.int .i64 a70.f_At),.p (.int .u64 a70.Key)] from (z5.mk)) a75 (show z5.R a75 [.p (.int .i64 a75.f_At),.p (.int .u64 a75.Key)] from (z5.mk))) fun r80 cs81 H82 h83 q84=>?_
  cases q84
  refine .ci ?_
  refine .cq ?_ ?_
  ·exact hE1 zw0 w3 h4 H1 (S2.wk2 aN aN)
  refine .bd fun a86 h87=>?_
  refine .op ((S2.slW (i:=0) rfl h4).iS h87 rfl) ?_
  obtain ⟨w89,h90,hE88⟩:=(S2.slW (i:=0) rfl h4).el h87 rfl
  obtain rfl:=z5.inv h90
  refine .op (hE88.all (by simp)) ?_
  refine .bd fun a91 h92=>?_
  refine .op ((S2.slW (i:=0) rfl h4).iS h92 rfl) ?_
  obtain ⟨w94,h95,hE93⟩:=(S2.slW (i:=0) rfl h4).el h92 rfl
  obtain rfl:=z5.inv h95
  refine .op (hE93.all (by simp)) ?_
  refine .bd fun a96 h97=>?_
  refine .op ((S2.slW (i:=0) rfl h4).iS h97 rfl) ?_
  refine .bd fun a101 h102=>?_
  obtain ⟨w103,H98,e99,h104,S100⟩:=S2.setWA (i:=0) (e:=2) (own:=false) (σ:=(21::0::1::1::1::1::0::σ)) (nv:=[.p (.int .i64 a86.f_At),.p (.int .u64 a86.Key)]) (xv:=(.agg [.p (.int .i64 a86.f_At),.p (.int .u64 a86.Key)])) rfl h4 h102 rfl (z28 (sC (sI _ _) (sC (sI _ _) sN))) (show z5.R a86 [.p (.int .i64 a86.f_At),.p (.int .u64 a86.Key)] from (z5.mk)) rfl
  refine .op (sM e99) ?_
  refine .bd fun a105 h106=>?_
  refine .op ((S100.slW (i:=0) rfl h104).iS h106 rfl) ?_
  refine .bd fun a110 h111=>?_
  obtain ⟨w112,H107,e108,h113,S109⟩:=S100.setWA (i:=0) (e:=2) (own:=false) (σ:=(23::0::1::1::1::1::0::σ)) (nv:=[.p (.int .i64 a91.f_At),.p (.int .u64 a91.Key)]) (xv:=(.agg [.p (.int .i64 a91.f_At),.p (.int .u64 a91.Key)])) rfl h104 h111 rfl (z28 (sC (sI _ _) (sC (sI _ _) sN))) (show z5.R a91 [.p (.int .i64 a91.f_At),.p (.int .u64 a91.Key)] from (z5.mk)) rfl
  refine .op (sM e108) ?_
  exact ih x2 x3 (IntKind.wrap .i64 ((IntKind.wrap .i64 (2*x10))+1)) a110 w112 h113 H107 (S109.wk2 aN aN)
theorem z4e (k:Nat) {h:H} {σ:Stamp} (x0:List z8) {u0:V} {l0:Loc} {o0:Nat} {w0:List C} (hw0:WL l0 o0 z5 x0 u0 w0) (ha0:AtC h l0 o0 w0) (x1:Int) (x2:Int) (x3:Int):Sim (z1h k x0 x1 x2 x3) (ev G X0 167 σ [u0,(.p (.int .i64 x1)),(.p (.int .i64 x2)),(.p (.int .i64 x3)),(.clo 114 [])] h) (fun r s=>∃ (wb0:List C),WL l0 o0 z5 r u0 wb0∧s=([],pts h [⟨l0,o0,wb0⟩])):=by
 refine .ev rfl (Sim.ext (zaj _ _ _ _ _ _ _ _ _) ?_)
 rw [z1h]
 have S0:Fm 82 h [⟨l0,o0,w0⟩] [] [] (List.replicate 82 []::h):=Fm.start1 ha0
 refine .as (z6m ?_ ?_ k x2 x3 x1 x0 w0 hw0 (List.replicate 82 []::h) (S0.wk2 aN aN))
 ·intro zw0 w125 h126 H123 S124
  refine .ext (zar _ _ _ _) ?_
  exact .fin (S124.finN lN) ⟨w125,h126,rfl⟩
 ·intro zw0 w130 h131 H128 S129
  refine .ext (zaa _ _ _ _) ?_
  exact .fin (S129.finN lN) ⟨w130,h131,rfl⟩
def z1f {β:Type} (k:Nat) (kE0:Int→Int→Int→(List z8)→Option β) (x8:Int) (x9:Int) (x10:Int) (x11:Int) (zw0:(List z8)):Option β:=match k with
| 0=>none
| k+1 =>
bif decide (x11≥0) then (
(z1h k zw0 x11 x10 x8).bind fun r6 =>
z1f k kE0 x8 x9 x10 (IntKind.wrap .i64 (x11-1)) r6)
else (
kE0 x8 x9 x10 zw0)
def zm {β:Type} (k:Nat) (kE0:(List z8)→Option β) (x8:Int) (x9:Int) (x12:Int) (zw0:(List z8)):Option β:=match k with
| 0=>none
| k+1 =>
bif decide (x12≥0) then (
(ix zw0 (IntKind.wrap .i64 (x8+x12))).bind fun a28 =>
(ix zw0 x8).bind fun a33 =>
(ix zw0 x8).bind fun a38 =>
(stx zw0 x8 a28).bind fun a43 =>
(ix a43 (IntKind.wrap .i64 (x8+x12))).bind fun a47 =>
(stx a43 (IntKind.wrap .i64 (x8+x12)) a33).bind fun a52 =>
(z1h k a52 x9 x12 x8).bind fun r56 =>
zm k kE0 x8 x9 (IntKind.wrap .i64 (x12-1)) r56)
else (
kE0 zw0)
def z1p (k:Nat) (x0:(List z8)) (x1:Int) (x2:Int):Option ((List z8)) :=
z1f k (fun r18_8 r18_9 r18_10 zw0 =>
zm k (fun zw0 =>
some (zw0)) r18_8 r18_9 (IntKind.wrap .i64 (r18_10-1)) zw0) x1 0 (IntKind.wrap .i64 (x2-x1)) (IntKind.wrap .i64 (Int.tdiv (IntKind.wrap .i64 ((IntKind.wrap .i64 (x2-x1))-1)) 2)) x0
theorem z6p {h:H} {l0:Loc} {o0:Nat} {u0:V} {kE0:Int→Int→Int→(List z8)→Option β} (hE0:∀ (q8:Int) (q9:Int) (q10:Int) (zw0:(List z8)) (w16:List C) (h17:WL l0 o0 z5 zw0 u0 w16) (H14:Go.Ev.H) (_:Fm 60 h [⟨l0,o0,w16⟩] [] [] H14),Sim (kE0 q8 q9 q10 zw0) (K ((.exit 0),(envL [(0,u0),(3,(.clo 114 [])),(8,(.p (.int .i64 q8))),(9,(.p (.int .i64 q9))),(10,(.p (.int .i64 q10)))]),H14)) Q) (k:Nat):∀ (x8:Int) (x9:Int) (x10:Int) (x11:Int) (zw0:(List z8)) (w3:List C) (h4:WL l0 o0 z5 zw0 u0 w3) (H1:Go.Ev.H) (_:Fm 60 h [⟨l0,o0,w3⟩] [] [] H1) {σ:Stamp},Sim (z1f k kE0 x8 x9 x10 x11 zw0) ((cvL G X0 z3z z3y σ (envL [(0,u0),(3,(.clo 114 [])),(8,(.p (.int .i64 x8))),(9,(.p (.int .i64 x9))),(10,(.p (.int .i64 x10))),(11,(.p (.int .i64 x11)))]) H1).bind K) Q:=by
 induction k with
 | zero=>intros;exact .no
 | succ k ih =>
  intro x8 x9 x10 x11 zw0 w3 h4 H1 S2 σ
  rw [z1f]
  refine .round (Sim.ext (zbc _ _ _ _ _ _ _ _ _ _) ?_)
  refine .cq ?_ ?_
  ·refine .call (z4e k zw0 h4 (S2.atB (i:=0) rfl) x11 x10 x8) fun r6 cs7 H8 h9 q10=>?_
   obtain ⟨w11,h12,q10⟩:=q10
   cases q10
   have S13:=S2.setB (i:=0) (cs:=w11) rfl (WL.same h4 h12)
   exact ih x8 x9 x10 (IntKind.wrap .i64 (x11-1)) r6 w11 h12 (ptC H1 l0 o0 w11) (S13.wk2 aN aN)
  exact hE0 x8 x9 x10 zw0 w3 h4 H1 (S2.wk2 aN aN)
theorem z6q {h:H} {l0:Loc} {o0:Nat} {u0:V} {kE0:(List z8)→Option β} (hE0:∀ (zw0:(List z8)) (w66:List C) (h67:WL l0 o0 z5 zw0 u0 w66) (H64:Go.Ev.H) (_:Fm 60 h [⟨l0,o0,w66⟩] [] [] H64),Sim (kE0 zw0) (K ((.exit 2),(envL []),H64)) Q) (k:Nat):∀ (x8:Int) (x9:Int) (x12:Int) (zw0:(List z8)) (w25:List C) (h26:WL l0 o0 z5 zw0 u0 w25) (H23:Go.Ev.H) (_:Fm 60 h [⟨l0,o0,w25⟩] [] [] H23) {σ:Stamp},Sim (zm k kE0 x8 x9 x12 zw0) ((cvL G X0 z40 z41 σ (envL [(0,u0),(3,(.clo 114 [])),(8,(.p (.int .i64 x8))),(9,(.p (.int .i64 x9))),(12,(.p (.int .i64 x12)))]) H23).bind K) Q:=by
 induction k with
 | zero=>intros;exact .no
 | succ k ih =>
  intro x8 x9 x12 zw0 w25 h26 H23 S24 σ
  rw [zm]
  refine .round (Sim.ext (zbh _ _ _ _ _ _ _ _ _) ?_)
  refine .cq ?_ ?_
  ·refine .bd fun a28 h29=>?_
   refine .op ((S24.slW (i:=0) rfl h26).iS h29 rfl) ?_
   obtain ⟨w31,h32,hE30⟩:=(S24.slW (i:=0) rfl h26).el h29 rfl
   obtain rfl:=z5.inv h32
   refine .op (hE30.all (by simp)) ?_
   refine .bd fun a33 h34=>?_
   refine .op ((S24.slW (i:=0) rfl h26).iS h34 rfl) ?_
   obtain ⟨w36,h37,hE35⟩:=(S24.slW (i:=0) rfl h26).el h34 rfl
   obtain rfl:=z5.inv h37
   refine .op (hE35.all (by simp)) ?_
   refine .bd fun a38 h39=>?_
   refine .op ((S24.slW (i:=0) rfl h26).iS h39 rfl) ?_
   refine .bd fun a43 h44=>?_
   obtain ⟨w45,H40,e41,h46,S42⟩:=S24.setWA (i:=0) (e:=2) (own:=false) (σ:=(17::0::0::1::0::σ)) (nv:=[.p (.int .i64 a28.f_At),.p (.int .u64 a28.Key)]) (xv:=(.agg [.p (.int .i64 a28.f_At),.p (.int .u64 a28.Key)])) rfl h26 h44 rfl (z28 (sC (sI _ _) (sC (sI _ _) sN))) (show z5.R a28 [.p (.int .i64 a28.f_At),.p (.int .u64 a28.Key)] from (z5.mk)) rfl
   refine .op (sM e41) ?_
   refine .bd fun a47 h48=>?_
   refine .op ((S42.slW (i:=0) rfl h46).iS h48 rfl) ?_
   refine .bd fun a52 h53=>?_
   obtain ⟨w54,H49,e50,h55,S51⟩:=S42.setWA (i:=0) (e:=2) (own:=false) (σ:=(19::0::0::1::0::σ)) (nv:=[.p (.int .i64 a33.f_At),.p (.int .u64 a33.Key)]) (xv:=(.agg [.p (.int .i64 a33.f_At),.p (.int .u64 a33.Key)])) rfl h46 h53 rfl (z28 (sC (sI _ _) (sC (sI _ _) sN))) (show z5.R a33 [.p (.int .i64 a33.f_At),.p (.int .u64 a33.Key)] from (z5.mk)) rfl
   refine .op (sM e50) ?_
   refine .call (z4e k a52 h55 (S51.atB (i:=0) rfl) x9 x12 x8) fun r56 cs57 H58 h59 q60=>?_
   obtain ⟨w61,h62,q60⟩:=q60
   cases q60
   have S63:=S51.setB (i:=0) (cs:=w61) rfl (WL.same h55 h62)
   exact ih x8 x9 (IntKind.wrap .i64 (x12-1)) r56 w61 h62 (ptC H49 l0 o0 w61) (S63.wk2 aN aN)
  exact hE0 zw0 w25 h26 H23 (S24.wk2 aN aN)
theorem z7a (k:Nat) {h:H} {σ:Stamp} (x0:List z8) {u0:V} {l0:Loc} {o0:Nat} {w0:List C} (hw0:WL l0 o0 z5 x0 u0 w0) (ha0:AtC h l0 o0 w0) (x1:Int) (x2:Int):Sim (z1p k x0 x1 x2) (ev G X0 157 σ [u0,(.p (.int .i64 x1)),(.p (.int .i64 x2)),(.clo 114 [])] h) (fun r s=>∃ (wb0:List C),WL l0 o0 z5 r u0 wb0∧s=([],pts h [⟨l0,o0,wb0⟩])):=by
 refine .ev rfl (Sim.ext (zam _ _ _ _ _ _ _ _) ?_)
 rw [z1p]
 have S0:Fm 60 h [⟨l0,o0,w0⟩] [] [] (List.replicate 60 []::h):=Fm.start1 ha0
 refine .as (z6p ?_ k x1 0 (IntKind.wrap .i64 (x2-x1)) (IntKind.wrap .i64 (Int.tdiv (IntKind.wrap .i64 ((IntKind.wrap .i64 (x2-x1))-1)) 2)) x0 w0 hw0 (List.replicate 60 []::h) (S0.wk2 aN aN))
 ·intro r18_8 r18_9 r18_10 zw0 w21 h22 H19 S20
  refine .ext (zaq _ _ _ _ _ _ _ _ _) ?_
  refine .as (z6q ?_ k r18_8 r18_9 (IntKind.wrap .i64 (r18_10-1)) zw0 w21 h22 H19 (S20.wk2 aN aN))
  ·intro zw0 w71 h72 H69 S70
   refine .ext (zap _ _ _ _) ?_
   exact .fin (S70.finN lN) ⟨w71,h72,rfl⟩
end
end Go.Ev
namespace Go.Ev
open Go.Proofs
set_option linter.unusedVariables false
set_option linter.unusedSimpArgs false
set_option maxRecDepth 100000
noncomputable section
abbrev KT9:=Exit→Env→H→Option (List C × H)
variable (rec : CallF) (loop : LoopV) (σ : Stamp)
def z3c:Code:=(codeAt (bodyOf Try.f156) [1,0,0])
def z39:Lv:=⟨0,0,[(0,0)]⟩
def z5w (rec:CallF) (loop:LoopV) (σ:Stamp):KT9:=(kBlock 0 (finC G false Try.f156 (1::σ)))
def z38:Code:=(codeAt (bodyOf Try.f156) [1,0,0,1,0,0,1,0,0])
def z36:Lv:=⟨271,0,[(2,271),(1,271),(0,0)]⟩
def z5q:Exit→Env→H→Option (Exit×Env×H):=(kBlock 2 (kBlock 1 (kSeq G rec loop (codeAt (bodyOf Try.f156) [1,0,0,1,1]) ⟨271,0,[(0,0)]⟩ (1::0::σ) (kRound loop (codeAt (bodyOf Try.f156) [1,0,0]) ⟨0,0,[(0,0)]⟩ σ))))
theorem z95 (x0:V) (x1:Int) (x2:Int) (x3:V) (h:H):cvBody G rec loop 156 σ [x0,(.p (.int .i64 x1)),(.p (.int .i64 x2)),x3] h =
(loop z3c z39 (1::0::σ) (envL [(0,x0),(1,(.p (.int .i64 x1))),(2,(.p (.int .i64 x2))),(3,x3),(8,(.p (.int .i64 (IntKind.wrap .i64 (x1+1)))))]) (List.replicate 53 []::h)).bind fun r1=>z5w rec loop σ r1.1 r1.2.1 r1.2.2:=by kernel_rfl
theorem za4 (x0:V) (x1:Int) (x2:Int) (x3:V) (x8:Int) (h:H):z1n G rec loop z3c z39 σ (envL [(0,x0),(1,(.p (.int .i64 x1))),(2,(.p (.int .i64 x2))),(3,x3),(8,(.p (.int .i64 x8)))]) h =
bif decide (x8<x2) then (
(loop z38 z36 (1::0::1::0::σ) (envL [(0,x0),(1,(.p (.int .i64 x1))),(2,(.p (.int .i64 x2))),(3,x3),(8,(.p (.int .i64 x8))),(9,(.p (.int .i64 x8)))]) h).bind fun r2=>z5q rec loop σ r2.1 r2.2.1 r2.2.2)
else (
some ((.exit 0),(envL []),h)):=by kernel_rfl
theorem z9j  (h:H):z5w rec loop σ (.exit 0) (envL []) h =
fin false σ h []:=by kernel_rfl
theorem z9w (x0:V) (x1:Int) (x2:Int) (x3:V) (x8:Int) (x9:Int) (h:H):z1n G rec loop z38 z36 σ (envL [(0,x0),(1,(.p (.int .i64 x1))),(2,(.p (.int .i64 x2))),(3,x3),(8,(.p (.int .i64 x8))),(9,(.p (.int .i64 x9)))]) h =
(bif decide (x9>x1) then ((iS 2 x0 x9).bind fun t3 =>
(ldO true 2 h t3).bind fun t4 =>
(iS 2 x0 (IntKind.wrap .i64 (x9-1))).bind fun t5 =>
(ldO true 2 h t5).bind fun t6 =>
(cloO rec x3 (14::0::0::0::σ) [t4,t6] h (some 32)).bind fun q7 =>
(castI .i64 q7.1).bind fun n8 =>
some ((.p (.bool (decide (n8<0)))),q7.2)) else (some ((.p (.bool false)),h))).bind fun q9 =>
(asB q9.1).bind fun b10 =>
bif b10 then (
(iS 2 x0 (IntKind.wrap .i64 (x9-1))).bind fun t11 =>
(ldO true 2 q9.2 t11).bind fun t12 =>
(iS 2 x0 x9).bind fun t13 =>
(ldO true 2 q9.2 t13).bind fun t14 =>
(iS 2 x0 x9).bind fun t15 =>
((stO false 2 (15::0::1::0::σ) q9.2 t15 t12).map fun h=>(udf,h)).bind fun q16 =>
(iS 2 x0 (IntKind.wrap .i64 (x9-1))).bind fun t17 =>
((stO false 2 (17::0::1::0::σ) q16.2 t17 t14).map fun h=>(udf,h)).bind fun q18 =>
loop z38 z36 (1::σ) (envL [(0,x0),(1,(.p (.int .i64 x1))),(2,(.p (.int .i64 x2))),(3,x3),(8,(.p (.int .i64 x8))),(9,(.p (.int .i64 (IntKind.wrap .i64 (x9-1)))))]) q18.2)
else (
some ((.exit 2),(envL [(0,x0),(1,(.p (.int .i64 x1))),(2,(.p (.int .i64 x2))),(3,x3),(8,(.p (.int .i64 x8)))]),q9.2)):=by kernel_rfl
theorem z9k (x0:V) (x1:Int) (x2:Int) (x3:V) (x8:Int) (h:H):z5q rec loop σ (.exit 2) (envL [(0,x0),(1,(.p (.int .i64 x1))),(2,(.p (.int .i64 x2))),(3,x3),(8,(.p (.int .i64 x8)))]) h =
loop z3c z39 (1::σ) (envL [(0,x0),(1,(.p (.int .i64 x1))),(2,(.p (.int .i64 x2))),(3,x3),(8,(.p (.int .i64 (IntKind.wrap .i64 (x8+1)))))]) h:=by kernel_rfl
end
end Go.Ev
namespace Go.Ev
open Go.Proofs
set_option linter.unusedVariables false
set_option linter.unusedSimpArgs false
set_option maxRecDepth 100000
section
variable {β α : Type} {Q : β→α→Prop} {K : Exit × Env × H→Option α}
def z13 {β:Type} (k:Nat) (kE0:Int→Int→Int→(List z8)→Option β) (x1:Int) (x2:Int) (x8:Int) (x9:Int) (zw0:(List z8)):Option β:=match k with
| 0=>none
| k+1 =>
(bif decide (x9>x1) then ((ix zw0 x9).bind fun a10 =>
(ix zw0 (IntKind.wrap .i64 (x9-1))).bind fun a15 =>
(zk k a10 a15).bind fun r20 =>
some (decide (r20<0))) else (some false)).bind fun b25 =>
bif b25 then (
(ix zw0 (IntKind.wrap .i64 (x9-1))).bind fun a30 =>
(ix zw0 x9).bind fun a35 =>
(ix zw0 x9).bind fun a40 =>
(stx zw0 x9 a30).bind fun a45 =>
(ix a45 (IntKind.wrap .i64 (x9-1))).bind fun a49 =>
(stx a45 (IntKind.wrap .i64 (x9-1)) a35).bind fun a54 =>
z13 k kE0 x1 x2 x8 (IntKind.wrap .i64 (x9-1)) a54)
else (
kE0 x1 x2 x8 zw0)
def zl {β:Type} (k:Nat) (kE0:(List z8)→Option β) (x1:Int) (x2:Int) (x8:Int) (zw0:(List z8)):Option β:=match k with
| 0=>none
| k+1 =>
bif decide (x8<x2) then (
z13 k (fun r62_1 r62_2 r62_8 zw0 =>
zl k kE0 r62_1 r62_2 (IntKind.wrap .i64 (r62_8+1)) zw0) x1 x2 x8 x8 zw0)
else (
kE0 zw0)
def zu (k:Nat) (x0:(List z8)) (x1:Int) (x2:Int):Option ((List z8)) :=
zl k (fun zw0 =>
some (zw0)) x1 x2 (IntKind.wrap .i64 (x1+1)) x0
theorem z5i {h:H} {l0:Loc} {o0:Nat} {u0:V} {kE0:Int→Int→Int→(List z8)→Option β} (hE0:∀ (q1:Int) (q2:Int) (q8:Int) (zw0:(List z8)) (w60:List C) (h61:WL l0 o0 z5 zw0 u0 w60) (H58:Go.Ev.H) (_:Fm 53 h [⟨l0,o0,w60⟩] [] [] H58),Sim (kE0 q1 q2 q8 zw0) (K ((.exit 2),(envL [(0,u0),(1,(.p (.int .i64 q1))),(2,(.p (.int .i64 q2))),(3,(.clo 114 [])),(8,(.p (.int .i64 q8)))]),H58)) Q) (k:Nat):∀ (x1:Int) (x2:Int) (x8:Int) (x9:Int) (zw0:(List z8)) (w8:List C) (h9:WL l0 o0 z5 zw0 u0 w8) (H6:Go.Ev.H) (_:Fm 53 h [⟨l0,o0,w8⟩] [] [] H6) {σ:Stamp},Sim (z13 k kE0 x1 x2 x8 x9 zw0) ((cvL G X0 z38 z36 σ (envL [(0,u0),(1,(.p (.int .i64 x1))),(2,(.p (.int .i64 x2))),(3,(.clo 114 [])),(8,(.p (.int .i64 x8))),(9,(.p (.int .i64 x9)))]) H6).bind K) Q:=by
 induction k with
 | zero=>intros;exact .no
 | succ k ih =>
  intro x1 x2 x8 x9 zw0 w8 h9 H6 S7 σ
  rw [z13]
  refine .round (Sim.ext (z9w _ _ _ _ _ _ _ _ _ _) ?_)
  refine .ch (P:=fun r y=>(.p (.bool r),H6)=y) ?_ (fun b25 y26 h27 h28=>?_)
  ·refine .cq ?_ ?_
   ·refine .bd fun a10 h11=>?_
    refine .op ((S7.slW (i:=0) rfl h9).iS h11 rfl) ?_
    obtain ⟨w13,h14,hE12⟩:=(S7.slW (i:=0) rfl h9).el h11 rfl
    obtain rfl:=z5.inv h14
    refine .op (hE12.all (by simp)) ?_
    refine .bd fun a15 h16=>?_
    refine .op ((S7.slW (i:=0) rfl h9).iS h16 rfl) ?_
    obtain ⟨w18,h19,hE17⟩:=(S7.slW (i:=0) rfl h9).el h16 rfl
    obtain rfl:=z5.inv h19
    refine .op (hE17.all (by simp)) ?_
    refine .clo ?_
    refine .call (z19 k a10 (show z5.R a10 [.p (.int .i64 a10.f_At),.p (.int .u64 a10.Key)] from (z5.mk)) a15 (show z5.R a15 [.p (.int .i64 a15.f_At),.p (.int .u64 a15.Key)] from (z5.mk))) fun r20 cs21 H22 h23 q24=>?_
    cases q24
    refine .ci ?_
    exact .ret rfl rfl
   ·exact .ret rfl rfl
  subst h28
  refine .ab ?_
  refine .cq ?_ ?_
  ·refine .bd fun a30 h31=>?_
   refine .op ((S7.slW (i:=0) rfl h9).iS h31 rfl) ?_
   obtain ⟨w33,h34,hE32⟩:=(S7.slW (i:=0) rfl h9).el h31 rfl
   obtain rfl:=z5.inv h34
   refine .op (hE32.all (by simp)) ?_
   refine .bd fun a35 h36=>?_
   refine .op ((S7.slW (i:=0) rfl h9).iS h36 rfl) ?_
   obtain ⟨w38,h39,hE37⟩:=(S7.slW (i:=0) rfl h9).el h36 rfl
   obtain rfl:=z5.inv h39
   refine .op (hE37.all (by simp)) ?_
   refine .bd fun a40 h41=>?_
   refine .op ((S7.slW (i:=0) rfl h9).iS h41 rfl) ?_
   refine .bd fun a45 h46=>?_
   obtain ⟨w47,H42,e43,h48,S44⟩:=S7.setWA (i:=0) (e:=2) (own:=false) (σ:=(15::0::1::0::σ)) (nv:=[.p (.int .i64 a30.f_At),.p (.int .u64 a30.Key)]) (xv:=(.agg [.p (.int .i64 a30.f_At),.p (.int .u64 a30.Key)])) rfl h9 h46 rfl (z28 (sC (sI _ _) (sC (sI _ _) sN))) (show z5.R a30 [.p (.int .i64 a30.f_At),.p (.int .u64 a30.Key)] from (z5.mk)) rfl
   refine .op (sM e43) ?_
   refine .bd fun a49 h50=>?_
   refine .op ((S44.slW (i:=0) rfl h48).iS h50 rfl) ?_
   refine .bd fun a54 h55=>?_
   obtain ⟨w56,H51,e52,h57,S53⟩:=S44.setWA (i:=0) (e:=2) (own:=false) (σ:=(17::0::1::0::σ)) (nv:=[.p (.int .i64 a35.f_At),.p (.int .u64 a35.Key)]) (xv:=(.agg [.p (.int .i64 a35.f_At),.p (.int .u64 a35.Key)])) rfl h48 h55 rfl (z28 (sC (sI _ _) (sC (sI _ _) sN))) (show z5.R a35 [.p (.int .i64 a35.f_At),.p (.int .u64 a35.Key)] from (z5.mk)) rfl
   refine .op (sM e52) ?_
   exact ih x1 x2 x8 (IntKind.wrap .i64 (x9-1)) a54 w56 h57 H51 (S53.wk2 aN aN)
  exact hE0 x1 x2 x8 zw0 w8 h9 H6 (S7.wk2 aN aN)
theorem z5h {h:H} {l0:Loc} {o0:Nat} {u0:V} {kE0:(List z8)→Option β} (hE0:∀ (zw0:(List z8)) (w69:List C) (h70:WL l0 o0 z5 zw0 u0 w69) (H67:Go.Ev.H) (_:Fm 53 h [⟨l0,o0,w69⟩] [] [] H67),Sim (kE0 zw0) (K ((.exit 0),(envL []),H67)) Q) (k:Nat):∀ (x1:Int) (x2:Int) (x8:Int) (zw0:(List z8)) (w3:List C) (h4:WL l0 o0 z5 zw0 u0 w3) (H1:Go.Ev.H) (_:Fm 53 h [⟨l0,o0,w3⟩] [] [] H1) {σ:Stamp},Sim (zl k kE0 x1 x2 x8 zw0) ((cvL G X0 z3c z39 σ (envL [(0,u0),(1,(.p (.int .i64 x1))),(2,(.p (.int .i64 x2))),(3,(.clo 114 [])),(8,(.p (.int .i64 x8)))]) H1).bind K) Q:=by
 induction k with
 | zero=>intros;exact .no
 | succ k ih =>
  intro x1 x2 x8 zw0 w3 h4 H1 S2 σ
  rw [zl]
  refine .round (Sim.ext (za4 _ _ _ _ _ _ _ _ _) ?_)
  refine .cq ?_ ?_
  ·refine .as (z5i ?_ k x1 x2 x8 x8 zw0 w3 h4 H1 (S2.wk2 aN aN))
   ·intro r62_1 r62_2 r62_8 zw0 w65 h66 H63 S64
    refine .ext (z9k _ _ _ _ _ _ _ _ _) ?_
    exact ih r62_1 r62_2 (IntKind.wrap .i64 (r62_8+1)) zw0 w65 h66 H63 (S64.wk2 aN aN)
  exact hE0 zw0 w3 h4 H1 (S2.wk2 aN aN)
theorem z66 (k:Nat) {h:H} {σ:Stamp} (x0:List z8) {u0:V} {l0:Loc} {o0:Nat} {w0:List C} (hw0:WL l0 o0 z5 x0 u0 w0) (ha0:AtC h l0 o0 w0) (x1:Int) (x2:Int):Sim (zu k x0 x1 x2) (ev G X0 156 σ [u0,(.p (.int .i64 x1)),(.p (.int .i64 x2)),(.clo 114 [])] h) (fun r s=>∃ (wb0:List C),WL l0 o0 z5 r u0 wb0∧s=([],pts h [⟨l0,o0,wb0⟩])):=by
 refine .ev rfl (Sim.ext (z95 _ _ _ _ _ _ _ _) ?_)
 rw [zu]
 have S0:Fm 53 h [⟨l0,o0,w0⟩] [] [] (List.replicate 53 []::h):=Fm.start1 ha0
 refine .as (z5h ?_ k x1 x2 (IntKind.wrap .i64 (x1+1)) x0 w0 hw0 (List.replicate 53 []::h) (S0.wk2 aN aN))
 ·intro zw0 w74 h75 H72 S73
  refine .ext (z9j _ _ _ _) ?_
  exact .fin (S73.finN lN) ⟨w74,h75,rfl⟩
end
end Go.Ev
namespace Go.Ev
open Go.Proofs
set_option linter.unusedVariables false
set_option linter.unusedSimpArgs false
set_option maxRecDepth 100000
noncomputable section
abbrev KT10:=Exit→Env→H→Option (List C × H)
variable (rec : CallF) (loop : LoopV) (σ : Stamp)
def z1x:Code:=(codeAt (bodyOf Try.f161) [1,1,0,1,0,0])
def z1w:Lv:=⟨0,256,[(0,0)]⟩
def z3k:KT10:=(kBlock 0 (kSeq G rec loop (codeAt (bodyOf Try.f161) [1,1,1]) ⟨256,256,[]⟩ (1::1::0::σ) (finC G false Try.f161 (1::σ))))
def z2l:Code:=(codeAt (bodyOf Try.f161) [1,1,0,1,0,0,1,0,0,0,0,0])
def z2i:Lv:=⟨1551,256,[(2,1551),(1,1551),(0,0)]⟩
def z4o:Exit→Env→H→Option (Exit×Env×H):=(kBlock 2 (kSeq G rec loop (codeAt (bodyOf Try.f161) [1,1,0,1,0,0,1,0,0,1]) ⟨1551,256,[(1,1551),(0,0)]⟩ (0::1::0::σ) (kBlock 1 (kSeq G rec loop (codeAt (bodyOf Try.f161) [1,1,0,1,0,0,1,1]) ⟨1551,256,[(0,0)]⟩ (1::0::σ) (kRound loop (codeAt (bodyOf Try.f161) [1,1,0,1,0,0]) ⟨0,256,[(0,0)]⟩ σ)))))
def z2k:Code:=(codeAt (bodyOf Try.f161) [1,1,0,1,0,0,1,0,0,1,1,1,1,0,1,0,1,0,0])
def z2j:Lv:=⟨1551,256,[(4,1551),(1,1551),(0,0)]⟩
def z4p:Exit→Env→H→Option (Exit×Env×H):=(kBlock 4 (kSeq G rec loop (codeAt (bodyOf Try.f161) [1,1,0,1,0,0,1,0,0,1,1,1,1,1]) ⟨1551,256,[(1,1551),(0,0)]⟩ (1::1::1::1::0::1::0::σ) (kBlock 1 (kSeq G rec loop (codeAt (bodyOf Try.f161) [1,1,0,1,0,0,1,1]) ⟨1551,256,[(0,0)]⟩ (1::0::σ) (kRound loop (codeAt (bodyOf Try.f161) [1,1,0,1,0,0]) ⟨0,256,[(0,0)]⟩ σ)))))
def z25:Code:=(codeAt (bodyOf Try.f161) [1,1,0,1,0,0,1,0,0,1,1,1,1,1,1,0,1,0,0])
def z26:Lv:=⟨1551,256,[(6,1551),(1,1551),(0,0)]⟩
def z3j:Exit→Env→H→Option (Exit×Env×H):=(kBlock 6 (kBlock 1 (kSeq G rec loop (codeAt (bodyOf Try.f161) [1,1,0,1,0,0,1,1]) ⟨1551,256,[(0,0)]⟩ (1::0::σ) (kRound loop (codeAt (bodyOf Try.f161) [1,1,0,1,0,0]) ⟨0,256,[(0,0)]⟩ σ))))
theorem z7q (x0:V) (x1:Int) (x2:Int) (x3:V) (h:H):cvBody G rec loop 161 σ [x0,(.p (.int .i64 x1)),(.p (.int .i64 x2)),x3] h =
(loop z1x z1w (1::0::1::1::0::σ) (envL [(0,x0),(1,(.p (.int .i64 x1))),(2,(.p (.int .i64 x2))),(3,x3),(9,(.p (.int .i64 (IntKind.wrap .i64 (x1+1))))),(10,(.p (.int .i64 0)))]) (List.replicate 141 []::h)).bind fun r1=>z3k rec loop σ r1.1 r1.2.1 r1.2.2:=by kernel_rfl
theorem z88 (x0:V) (x1:Int) (x2:Int) (x3:V) (x9:Int) (x10:Int) (h:H):z1n G rec loop z1x z1w σ (envL [(0,x0),(1,(.p (.int .i64 x1))),(2,(.p (.int .i64 x2))),(3,x3),(9,(.p (.int .i64 x9))),(10,(.p (.int .i64 x10)))]) h =
bif decide (x10<5) then (
(loop z2l z2i (0::0::1::0::σ) (envL [(0,x0),(1,(.p (.int .i64 x1))),(2,(.p (.int .i64 x2))),(3,x3),(9,(.p (.int .i64 x9))),(10,(.p (.int .i64 x10)))]) h).bind fun r2=>z4o rec loop σ r2.1 r2.2.1 r2.2.2)
else (
some ((.exit 0),(envL []),h)):=by kernel_rfl
theorem z7w  (h:H):z3k rec loop σ (.exit 0) (envL []) h =
fin false σ h [(.p (.bool false))]:=by kernel_rfl
theorem z7p (x8:Bool) (h:H):z3k rec loop σ .ret (envL [(8,(.p (.bool x8)))]) h =
fin false σ h [(.p (.bool x8))]:=by kernel_rfl
theorem z85 (x0:V) (x1:Int) (x2:Int) (x3:V) (x9:Int) (x10:Int) (h:H):z1n G rec loop z2l z2i σ (envL [(0,x0),(1,(.p (.int .i64 x1))),(2,(.p (.int .i64 x2))),(3,x3),(9,(.p (.int .i64 x9))),(10,(.p (.int .i64 x10)))]) h =
(bif decide (x9<x2) then ((iS 2 x0 x9).bind fun t3 =>
(ldO true 2 h t3).bind fun t4 =>
(iS 2 x0 (IntKind.wrap .i64 (x9-1))).bind fun t5 =>
(ldO true 2 h t5).bind fun t6 =>
(cloO rec x3 (14::0::0::0::σ) [t4,t6] h (some 33)).bind fun q7 =>
(castI .i64 q7.1).bind fun n8 =>
some ((.p (.bool (!(decide (n8<0))))),q7.2)) else (some ((.p (.bool false)),h))).bind fun q9 =>
(asB q9.1).bind fun b10 =>
bif b10 then (
loop z2l z2i (1::σ) (envL [(0,x0),(1,(.p (.int .i64 x1))),(2,(.p (.int .i64 x2))),(3,x3),(9,(.p (.int .i64 (IntKind.wrap .i64 (x9+1))))),(10,(.p (.int .i64 x10)))]) q9.2)
else (
some ((.exit 2),(envL [(0,x0),(1,(.p (.int .i64 x1))),(2,(.p (.int .i64 x2))),(3,x3),(9,(.p (.int .i64 x9))),(10,(.p (.int .i64 x10)))]),q9.2)):=by kernel_rfl
theorem z7x (x0:V) (x1:Int) (x2:Int) (x3:V) (x9:Int) (x10:Int) (h:H):z4o rec loop σ (.exit 2) (envL [(0,x0),(1,(.p (.int .i64 x1))),(2,(.p (.int .i64 x2))),(3,x3),(9,(.p (.int .i64 x9))),(10,(.p (.int .i64 x10)))]) h =
bif x9==x2 then (
some (.ret,(envL [(8,(.p (.bool true)))]),h))
else (
bif decide ((IntKind.wrap .i64 (x2-x1))<50) then (
some (.ret,(envL [(8,(.p (.bool false)))]),h))
else (
(iS 2 x0 (IntKind.wrap .i64 (x9-1))).bind fun t11 =>
(ldO true 2 h t11).bind fun t12 =>
(iS 2 x0 x9).bind fun t13 =>
(ldO true 2 h t13).bind fun t14 =>
(iS 2 x0 x9).bind fun t15 =>
((stO false 2 (15::0::1::1::1::0::1::0::σ) h t15 t12).map fun h=>(udf,h)).bind fun q16 =>
(iS 2 x0 (IntKind.wrap .i64 (x9-1))).bind fun t17 =>
((stO false 2 (17::0::1::1::1::0::1::0::σ) q16.2 t17 t14).map fun h=>(udf,h)).bind fun q18 =>
bif decide ((IntKind.wrap .i64 (x9-x1))≥2) then (
(loop z2k z2j (1::1::0::1::1::1::1::0::1::0::σ) (envL [(0,x0),(1,(.p (.int .i64 x1))),(2,(.p (.int .i64 x2))),(3,x3),(9,(.p (.int .i64 x9))),(10,(.p (.int .i64 x10))),(11,(.p (.int .i64 (IntKind.wrap .i64 (x9-1)))))]) q18.2).bind fun r19=>z4p rec loop σ r19.1 r19.2.1 r19.2.2)
else (
bif decide ((IntKind.wrap .i64 (x2-x9))≥2) then (
(loop z25 z26 (1::1::1::1::1::1::1::0::1::0::σ) (envL [(0,x0),(1,(.p (.int .i64 x1))),(2,(.p (.int .i64 x2))),(3,x3),(9,(.p (.int .i64 x9))),(10,(.p (.int .i64 x10))),(12,(.p (.int .i64 (IntKind.wrap .i64 (x9+1)))))]) q18.2).bind fun r20=>z3j rec loop σ r20.1 r20.2.1 r20.2.2)
else (
loop z1x z1w (1::σ) (envL [(0,x0),(1,(.p (.int .i64 x1))),(2,(.p (.int .i64 x2))),(3,x3),(9,(.p (.int .i64 x9))),(10,(.p (.int .i64 (IntKind.wrap .i64 (x10+1)))))]) q18.2)))):=by kernel_rfl
theorem z86 (x0:V) (x1:Int) (x2:Int) (x3:V) (x9:Int) (x10:Int) (x11:Int) (h:H):z1n G rec loop z2k z2j σ (envL [(0,x0),(1,(.p (.int .i64 x1))),(2,(.p (.int .i64 x2))),(3,x3),(9,(.p (.int .i64 x9))),(10,(.p (.int .i64 x10))),(11,(.p (.int .i64 x11)))]) h =
bif decide (x11≥1) then (
(iS 2 x0 x11).bind fun t21 =>
(ldO true 2 h t21).bind fun t22 =>
(iS 2 x0 (IntKind.wrap .i64 (x11-1))).bind fun t23 =>
(ldO true 2 h t23).bind fun t24 =>
(cloO rec x3 (10::0::0::0::1::0::σ) [t22,t24] h (some 82)).bind fun q25 =>
(castI .i64 q25.1).bind fun n26 =>
bif !(decide (n26<0)) then (
some ((.exit 4),(envL [(0,x0),(1,(.p (.int .i64 x1))),(2,(.p (.int .i64 x2))),(3,x3),(9,(.p (.int .i64 x9))),(10,(.p (.int .i64 x10)))]),q25.2))
else (
(iS 2 x0 (IntKind.wrap .i64 (x11-1))).bind fun t27 =>
(ldO true 2 q25.2 t27).bind fun t28 =>
(iS 2 x0 x11).bind fun t29 =>
(ldO true 2 q25.2 t29).bind fun t30 =>
(iS 2 x0 x11).bind fun t31 =>
((stO false 2 (15::1::0::1::0::σ) q25.2 t31 t28).map fun h=>(udf,h)).bind fun q32 =>
(iS 2 x0 (IntKind.wrap .i64 (x11-1))).bind fun t33 =>
((stO false 2 (17::1::0::1::0::σ) q32.2 t33 t30).map fun h=>(udf,h)).bind fun q34 =>
loop z2k z2j (1::σ) (envL [(0,x0),(1,(.p (.int .i64 x1))),(2,(.p (.int .i64 x2))),(3,x3),(9,(.p (.int .i64 x9))),(10,(.p (.int .i64 x10))),(11,(.p (.int .i64 (IntKind.wrap .i64 (x11-1)))))]) q34.2))
else (
some ((.exit 4),(envL [(0,x0),(1,(.p (.int .i64 x1))),(2,(.p (.int .i64 x2))),(3,x3),(9,(.p (.int .i64 x9))),(10,(.p (.int .i64 x10)))]),h)):=by kernel_rfl
theorem z7u (x0:V) (x1:Int) (x2:Int) (x3:V) (x9:Int) (x10:Int) (h:H):z4p rec loop σ (.exit 4) (envL [(0,x0),(1,(.p (.int .i64 x1))),(2,(.p (.int .i64 x2))),(3,x3),(9,(.p (.int .i64 x9))),(10,(.p (.int .i64 x10)))]) h =
bif decide ((IntKind.wrap .i64 (x2-x9))≥2) then (
(loop z25 z26 (1::1::1::1::1::1::1::0::1::0::σ) (envL [(0,x0),(1,(.p (.int .i64 x1))),(2,(.p (.int .i64 x2))),(3,x3),(9,(.p (.int .i64 x9))),(10,(.p (.int .i64 x10))),(12,(.p (.int .i64 (IntKind.wrap .i64 (x9+1)))))]) h).bind fun r35=>z3j rec loop σ r35.1 r35.2.1 r35.2.2)
else (
loop z1x z1w (1::σ) (envL [(0,x0),(1,(.p (.int .i64 x1))),(2,(.p (.int .i64 x2))),(3,x3),(9,(.p (.int .i64 x9))),(10,(.p (.int .i64 (IntKind.wrap .i64 (x10+1)))))]) h):=by kernel_rfl
theorem z87 (x0:V) (x1:Int) (x2:Int) (x3:V) (x9:Int) (x10:Int) (x12:Int) (h:H):z1n G rec loop z25 z26 σ (envL [(0,x0),(1,(.p (.int .i64 x1))),(2,(.p (.int .i64 x2))),(3,x3),(9,(.p (.int .i64 x9))),(10,(.p (.int .i64 x10))),(12,(.p (.int .i64 x12)))]) h =
bif decide (x12<x2) then (
(iS 2 x0 x12).bind fun t36 =>
(ldO true 2 h t36).bind fun t37 =>
(iS 2 x0 (IntKind.wrap .i64 (x12-1))).bind fun t38 =>
(ldO true 2 h t38).bind fun t39 =>
(cloO rec x3 (10::0::0::0::1::0::σ) [t37,t39] h (some 122)).bind fun q40 =>
(castI .i64 q40.1).bind fun n41 =>
bif !(decide (n41<0)) then (
some ((.exit 6),(envL [(0,x0),(1,(.p (.int .i64 x1))),(2,(.p (.int .i64 x2))),(3,x3),(9,(.p (.int .i64 x9))),(10,(.p (.int .i64 x10)))]),q40.2))
else (
(iS 2 x0 (IntKind.wrap .i64 (x12-1))).bind fun t42 =>
(ldO true 2 q40.2 t42).bind fun t43 =>
(iS 2 x0 x12).bind fun t44 =>
(ldO true 2 q40.2 t44).bind fun t45 =>
(iS 2 x0 x12).bind fun t46 =>
((stO false 2 (15::1::0::1::0::σ) q40.2 t46 t43).map fun h=>(udf,h)).bind fun q47 =>
(iS 2 x0 (IntKind.wrap .i64 (x12-1))).bind fun t48 =>
((stO false 2 (17::1::0::1::0::σ) q47.2 t48 t45).map fun h=>(udf,h)).bind fun q49 =>
loop z25 z26 (1::σ) (envL [(0,x0),(1,(.p (.int .i64 x1))),(2,(.p (.int .i64 x2))),(3,x3),(9,(.p (.int .i64 x9))),(10,(.p (.int .i64 x10))),(12,(.p (.int .i64 (IntKind.wrap .i64 (x12+1)))))]) q49.2))
else (
some ((.exit 6),(envL [(0,x0),(1,(.p (.int .i64 x1))),(2,(.p (.int .i64 x2))),(3,x3),(9,(.p (.int .i64 x9))),(10,(.p (.int .i64 x10)))]),h)):=by kernel_rfl
theorem z4m (x0:V) (x1:Int) (x2:Int) (x3:V) (x9:Int) (x10:Int) (h:H):z3j rec loop σ (.exit 6) (envL [(0,x0),(1,(.p (.int .i64 x1))),(2,(.p (.int .i64 x2))),(3,x3),(9,(.p (.int .i64 x9))),(10,(.p (.int .i64 x10)))]) h =
loop z1x z1w (1::σ) (envL [(0,x0),(1,(.p (.int .i64 x1))),(2,(.p (.int .i64 x2))),(3,x3),(9,(.p (.int .i64 x9))),(10,(.p (.int .i64 (IntKind.wrap .i64 (x10+1)))))]) h:=by kernel_rfl
end
end Go.Ev
namespace Go.Ev
open Go.Proofs
set_option linter.unusedVariables false
set_option linter.unusedSimpArgs false
set_option maxRecDepth 100000
section
variable {β α : Type} {Q : β→α→Prop} {K : Exit × Env × H→Option α}
def zr {β:Type} (k:Nat) (kE0:Int→Int→Int→Int→(List z8)→Option β) (x1:Int) (x2:Int) (x9:Int) (x10:Int) (zw0:(List z8)):Option β:=match k with
| 0=>none
| k+1 =>
(bif decide (x9<x2) then ((ix zw0 x9).bind fun a10 =>
(ix zw0 (IntKind.wrap .i64 (x9-1))).bind fun a15 =>
(zk k a10 a15).bind fun r20 =>
some (!(decide (r20<0)))) else (some false)).bind fun b25 =>
bif b25 then (
zr k kE0 x1 x2 (IntKind.wrap .i64 (x9+1)) x10 zw0)
else (
kE0 x1 x2 x9 x10 zw0)
def zj {β:Type} (k:Nat) (kE0:Int→Int→Int→Int→(List z8)→Option β) (x1:Int) (x2:Int) (x9:Int) (x10:Int) (x11:Int) (zw0:(List z8)):Option β:=match k with
| 0=>none
| k+1 =>
bif decide (x11≥1) then (
(ix zw0 x11).bind fun a75 =>
(ix zw0 (IntKind.wrap .i64 (x11-1))).bind fun a80 =>
(zk k a75 a80).bind fun r85 =>
bif !(decide (r85<0)) then (
kE0 x1 x2 x9 x10 zw0)
else (
(ix zw0 (IntKind.wrap .i64 (x11-1))).bind fun a91 =>
(ix zw0 x11).bind fun a96 =>
(ix zw0 x11).bind fun a101 =>
(stx zw0 x11 a91).bind fun a106 =>
(ix a106 (IntKind.wrap .i64 (x11-1))).bind fun a110 =>
(stx a106 (IntKind.wrap .i64 (x11-1)) a96).bind fun a115 =>
zj k kE0 x1 x2 x9 x10 (IntKind.wrap .i64 (x11-1)) a115))
else (
kE0 x1 x2 x9 x10 zw0)
def ze {β:Type} (k:Nat) (kE0:Int→Int→Int→Int→(List z8)→Option β) (x1:Int) (x2:Int) (x9:Int) (x10:Int) (x12:Int) (zw0:(List z8)):Option β:=match k with
| 0=>none
| k+1 =>
bif decide (x12<x2) then (
(ix zw0 x12).bind fun a134 =>
(ix zw0 (IntKind.wrap .i64 (x12-1))).bind fun a139 =>
(zk k a134 a139).bind fun r144 =>
bif !(decide (r144<0)) then (
kE0 x1 x2 x9 x10 zw0)
else (
(ix zw0 (IntKind.wrap .i64 (x12-1))).bind fun a150 =>
(ix zw0 x12).bind fun a155 =>
(ix zw0 x12).bind fun a160 =>
(stx zw0 x12 a150).bind fun a165 =>
(ix a165 (IntKind.wrap .i64 (x12-1))).bind fun a169 =>
(stx a165 (IntKind.wrap .i64 (x12-1)) a155).bind fun a174 =>
ze k kE0 x1 x2 x9 x10 (IntKind.wrap .i64 (x12+1)) a174))
else (
kE0 x1 x2 x9 x10 zw0)
def za {β:Type} (k:Nat) (kE0:(List z8)→Option β) (kE1:Bool→(List z8)→Option β) (x1:Int) (x2:Int) (x9:Int) (x10:Int) (zw0:(List z8)):Option β:=match k with
| 0=>none
| k+1 =>
bif decide (x10<5) then (
zr k (fun r34_1 r34_2 r34_9 r34_10 zw0 =>
bif r34_9==r34_2 then (
kE1 true zw0)
else (
bif decide ((IntKind.wrap .i64 (r34_2-r34_1))<50) then (
kE1 false zw0)
else (
(ix zw0 (IntKind.wrap .i64 (r34_9-1))).bind fun a41 =>
(ix zw0 r34_9).bind fun a46 =>
(ix zw0 r34_9).bind fun a51 =>
(stx zw0 r34_9 a41).bind fun a56 =>
(ix a56 (IntKind.wrap .i64 (r34_9-1))).bind fun a60 =>
(stx a56 (IntKind.wrap .i64 (r34_9-1)) a46).bind fun a65 =>
bif decide ((IntKind.wrap .i64 (r34_9-r34_1))≥2) then (
zj k (fun r123_1 r123_2 r123_9 r123_10 zw0 =>
bif decide ((IntKind.wrap .i64 (r123_2-r123_9))≥2) then (
ze k (fun r182_1 r182_2 r182_9 r182_10 zw0 =>
za k kE0 kE1 r182_1 r182_2 r182_9 (IntKind.wrap .i64 (r182_10+1)) zw0) r123_1 r123_2 r123_9 r123_10 (IntKind.wrap .i64 (r123_9+1)) zw0)
else (
za k kE0 kE1 r123_1 r123_2 r123_9 (IntKind.wrap .i64 (r123_10+1)) zw0)) r34_1 r34_2 r34_9 r34_10 (IntKind.wrap .i64 (r34_9-1)) a65)
else (
bif decide ((IntKind.wrap .i64 (r34_2-r34_9))≥2) then (
ze k (fun r188_1 r188_2 r188_9 r188_10 zw0 =>
za k kE0 kE1 r188_1 r188_2 r188_9 (IntKind.wrap .i64 (r188_10+1)) zw0) r34_1 r34_2 r34_9 r34_10 (IntKind.wrap .i64 (r34_9+1)) a65)
else (
za k kE0 kE1 r34_1 r34_2 r34_9 (IntKind.wrap .i64 (r34_10+1)) a65))))) x1 x2 x9 x10 zw0)
else (
kE0 zw0)
def zi (k:Nat) (x0:(List z8)) (x1:Int) (x2:Int):Option (Bool×(List z8)) :=
za k (fun zw0 =>
some (false,zw0)) (fun r206_8 zw0 =>
some (r206_8,zw0)) x1 x2 (IntKind.wrap .i64 (x1+1)) 0 x0
theorem z4y {h:H} {l0:Loc} {o0:Nat} {u0:V} {kE0:Int→Int→Int→Int→(List z8)→Option β} (hE0:∀ (q1:Int) (q2:Int) (q9:Int) (q10:Int) (zw0:(List z8)) (w32:List C) (h33:WL l0 o0 z5 zw0 u0 w32) (H30:Go.Ev.H) (_:Fm 141 h [⟨l0,o0,w32⟩] [] [] H30),Sim (kE0 q1 q2 q9 q10 zw0) (K ((.exit 2),(envL [(0,u0),(1,(.p (.int .i64 q1))),(2,(.p (.int .i64 q2))),(3,(.clo 114 [])),(9,(.p (.int .i64 q9))),(10,(.p (.int .i64 q10)))]),H30)) Q) (k:Nat):∀ (x1:Int) (x2:Int) (x9:Int) (x10:Int) (zw0:(List z8)) (w8:List C) (h9:WL l0 o0 z5 zw0 u0 w8) (H6:Go.Ev.H) (_:Fm 141 h [⟨l0,o0,w8⟩] [] [] H6) {σ:Stamp},Sim (zr k kE0 x1 x2 x9 x10 zw0) ((cvL G X0 z2l z2i σ (envL [(0,u0),(1,(.p (.int .i64 x1))),(2,(.p (.int .i64 x2))),(3,(.clo 114 [])),(9,(.p (.int .i64 x9))),(10,(.p (.int .i64 x10)))]) H6).bind K) Q:=by
 induction k with
 | zero=>intros;exact .no
 | succ k ih =>
  intro x1 x2 x9 x10 zw0 w8 h9 H6 S7 σ
  rw [zr]
  refine .round (Sim.ext (z85 _ _ _ _ _ _ _ _ _ _) ?_)
  refine .ch (P:=fun r y=>(.p (.bool r),H6)=y) ?_ (fun b25 y26 h27 h28=>?_)
  ·refine .cq ?_ ?_
   ·refine .bd fun a10 h11=>?_
    refine .op ((S7.slW (i:=0) rfl h9).iS h11 rfl) ?_
    obtain ⟨w13,h14,hE12⟩:=(S7.slW (i:=0) rfl h9).el h11 rfl
    obtain rfl:=z5.inv h14
    refine .op (hE12.all (by simp)) ?_
    refine .bd fun a15 h16=>?_
    refine .op ((S7.slW (i:=0) rfl h9).iS h16 rfl) ?_
    obtain ⟨w18,h19,hE17⟩:=(S7.slW (i:=0) rfl h9).el h16 rfl
    obtain rfl:=z5.inv h19
    refine .op (hE17.all (by simp)) ?_
    refine .clo ?_
    refine .call (z19 k a10 (show z5.R a10 [.p (.int .i64 a10.f_At),.p (.int .u64 a10.Key)] from (z5.mk)) a15 (show z5.R a15 [.p (.int .i64 a15.f_At),.p (.int .u64 a15.Key)] from (z5.mk))) fun r20 cs21 H22 h23 q24=>?_
    cases q24
    refine .ci ?_
    exact .ret rfl rfl
   ·exact .ret rfl rfl
  subst h28
  refine .ab ?_
  refine .cq ?_ ?_
  ·exact ih x1 x2 (IntKind.wrap .i64 (x9+1)) x10 zw0 w8 h9 H6 (S7.wk2 aN aN)
  exact hE0 x1 x2 x9 x10 zw0 w8 h9 H6 (S7.wk2 aN aN)
theorem z4x {h:H} {l0:Loc} {o0:Nat} {u0:V} {kE0:Int→Int→Int→Int→(List z8)→Option β} (hE0:∀ (q1:Int) (q2:Int) (q9:Int) (q10:Int) (zw0:(List z8)) (w121:List C) (h122:WL l0 o0 z5 zw0 u0 w121) (H119:Go.Ev.H) (_:Fm 141 h [⟨l0,o0,w121⟩] [] [] H119),Sim (kE0 q1 q2 q9 q10 zw0) (K ((.exit 4),(envL [(0,u0),(1,(.p (.int .i64 q1))),(2,(.p (.int .i64 q2))),(3,(.clo 114 [])),(9,(.p (.int .i64 q9))),(10,(.p (.int .i64 q10)))]),H119)) Q) (k:Nat):∀ (x1:Int) (x2:Int) (x9:Int) (x10:Int) (x11:Int) (zw0:(List z8)) (w72:List C) (h73:WL l0 o0 z5 zw0 u0 w72) (H70:Go.Ev.H) (_:Fm 141 h [⟨l0,o0,w72⟩] [] [] H70) {σ:Stamp},Sim (zj k kE0 x1 x2 x9 x10 x11 zw0) ((cvL G X0 z2k z2j σ (envL [(0,u0),(1,(.p (.int .i64 x1))),(2,(.p (.int .i64 x2))),(3,(.clo 114 [])),(9,(.p (.int .i64 x9))),(10,(.p (.int .i64 x10))),(11,(.p (.int .i64 x11)))]) H70).bind K) Q:=by
 induction k with
 | zero=>intros;exact .no
 | succ k ih =>
  intro x1 x2 x9 x10 x11 zw0 w72 h73 H70 S71 σ
  rw [zj]
  refine .round (Sim.ext (z86 _ _ _ _ _ _ _ _ _ _ _) ?_)
  refine .cq ?_ ?_
  ·refine .bd fun a75 h76=>?_
   refine .op ((S71.slW (i:=0) rfl h73).iS h76 rfl) ?_
   obtain ⟨w78,h79,hE77⟩:=(S71.slW (i:=0) rfl h73).el h76 rfl
   obtain rfl:=z5.inv h79
   refine .op (hE77.all (by simp)) ?_
   refine .bd fun a80 h81=>?_
   refine .op ((S71.slW (i:=0) rfl h73).iS h81 rfl) ?_
   obtain ⟨w83,h84,hE82⟩:=(S71.slW (i:=0) rfl h73).el h81 rfl
   obtain rfl:=z5.inv h84
   refine .op (hE82.all (by simp)) ?_
   refine .clo ?_
   refine .call (z19 k a75 (show z5.R a75 [.p (.int .i64 a75.f_At),.p (.int .u64 a75.Key)] from (z5.mk)) a80 (show z5.R a80 [.p (.int .i64 a80.f_At),.p (.int .u64 a80.Key)] from (z5.mk))) fun r85 cs86 H87 h88 q89=>?_
   cases q89
   refine .ci ?_
   refine .cq ?_ ?_
   ·exact hE0 x1 x2 x9 x10 zw0 w72 h73 H70 (S71.wk2 aN aN)
   refine .bd fun a91 h92=>?_
   refine .op ((S71.slW (i:=0) rfl h73).iS h92 rfl) ?_
   obtain ⟨w94,h95,hE93⟩:=(S71.slW (i:=0) rfl h73).el h92 rfl
   obtain rfl:=z5.inv h95
   refine .op (hE93.all (by simp)) ?_
   refine .bd fun a96 h97=>?_
   refine .op ((S71.slW (i:=0) rfl h73).iS h97 rfl) ?_
   obtain ⟨w99,h100,hE98⟩:=(S71.slW (i:=0) rfl h73).el h97 rfl
   obtain rfl:=z5.inv h100
   refine .op (hE98.all (by simp)) ?_
   refine .bd fun a101 h102=>?_
   refine .op ((S71.slW (i:=0) rfl h73).iS h102 rfl) ?_
   refine .bd fun a106 h107=>?_
   obtain ⟨w108,H103,e104,h109,S105⟩:=S71.setWA (i:=0) (e:=2) (own:=false) (σ:=(15::1::0::1::0::σ)) (nv:=[.p (.int .i64 a91.f_At),.p (.int .u64 a91.Key)]) (xv:=(.agg [.p (.int .i64 a91.f_At),.p (.int .u64 a91.Key)])) rfl h73 h107 rfl (z28 (sC (sI _ _) (sC (sI _ _) sN))) (show z5.R a91 [.p (.int .i64 a91.f_At),.p (.int .u64 a91.Key)] from (z5.mk)) rfl
   refine .op (sM e104) ?_
   refine .bd fun a110 h111=>?_
   refine .op ((S105.slW (i:=0) rfl h109).iS h111 rfl) ?_
   refine .bd fun a115 h116=>?_
   obtain ⟨w117,H112,e113,h118,S114⟩:=S105.setWA (i:=0) (e:=2) (own:=false) (σ:=(17::1::0::1::0::σ)) (nv:=[.p (.int .i64 a96.f_At),.p (.int .u64 a96.Key)]) (xv:=(.agg [.p (.int .i64 a96.f_At),.p (.int .u64 a96.Key)])) rfl h109 h116 rfl (z28 (sC (sI _ _) (sC (sI _ _) sN))) (show z5.R a96 [.p (.int .i64 a96.f_At),.p (.int .u64 a96.Key)] from (z5.mk)) rfl
   refine .op (sM e113) ?_
   exact ih x1 x2 x9 x10 (IntKind.wrap .i64 (x11-1)) a115 w117 h118 H112 (S114.wk2 aN aN)
  exact hE0 x1 x2 x9 x10 zw0 w72 h73 H70 (S71.wk2 aN aN)
theorem z33 {h:H} {l0:Loc} {o0:Nat} {u0:V} {kE0:Int→Int→Int→Int→(List z8)→Option β} (hE0:∀ (q1:Int) (q2:Int) (q9:Int) (q10:Int) (zw0:(List z8)) (w180:List C) (h181:WL l0 o0 z5 zw0 u0 w180) (H178:Go.Ev.H) (_:Fm 141 h [⟨l0,o0,w180⟩] [] [] H178),Sim (kE0 q1 q2 q9 q10 zw0) (K ((.exit 6),(envL [(0,u0),(1,(.p (.int .i64 q1))),(2,(.p (.int .i64 q2))),(3,(.clo 114 [])),(9,(.p (.int .i64 q9))),(10,(.p (.int .i64 q10)))]),H178)) Q) (k:Nat):∀ (x1:Int) (x2:Int) (x9:Int) (x10:Int) (x12:Int) (zw0:(List z8)) (w131:List C) (h132:WL l0 o0 z5 zw0 u0 w131) (H129:Go.Ev.H) (_:Fm 141 h [⟨l0,o0,w131⟩] [] [] H129) {σ:Stamp},Sim (ze k kE0 x1 x2 x9 x10 x12 zw0) ((cvL G X0 z25 z26 σ (envL [(0,u0),(1,(.p (.int .i64 x1))),(2,(.p (.int .i64 x2))),(3,(.clo 114 [])),(9,(.p (.int .i64 x9))),(10,(.p (.int .i64 x10))),(12,(.p (.int .i64 x12)))]) H129).bind K) Q:=by
 induction k with
 | zero=>intros;exact .no
 | succ k ih =>
  intro x1 x2 x9 x10 x12 zw0 w131 h132 H129 S130 σ
  rw [ze]
  refine .round (Sim.ext (z87 _ _ _ _ _ _ _ _ _ _ _) ?_)
  refine .cq ?_ ?_
  ·refine .bd fun a134 h135=>?_
   refine .op ((S130.slW (i:=0) rfl h132).iS h135 rfl) ?_
   obtain ⟨w137,h138,hE136⟩:=(S130.slW (i:=0) rfl h132).el h135 rfl
   obtain rfl:=z5.inv h138
   refine .op (hE136.all (by simp)) ?_
   refine .bd fun a139 h140=>?_
   refine .op ((S130.slW (i:=0) rfl h132).iS h140 rfl) ?_
   obtain ⟨w142,h143,hE141⟩:=(S130.slW (i:=0) rfl h132).el h140 rfl
   obtain rfl:=z5.inv h143
   refine .op (hE141.all (by simp)) ?_
   refine .clo ?_
   refine .call (z19 k a134 (show z5.R a134 [.p (.int .i64 a134.f_At),.p (.int .u64 a134.Key)] from (z5.mk)) a139 (show z5.R a139 [.p (.int .i64 a139.f_At),.p (.int .u64 a139.Key)] from (z5.mk))) fun r144 cs145 H146 h147 q148=>?_
   cases q148
   refine .ci ?_
   refine .cq ?_ ?_
   ·exact hE0 x1 x2 x9 x10 zw0 w131 h132 H129 (S130.wk2 aN aN)
   refine .bd fun a150 h151=>?_
   refine .op ((S130.slW (i:=0) rfl h132).iS h151 rfl) ?_
   obtain ⟨w153,h154,hE152⟩:=(S130.slW (i:=0) rfl h132).el h151 rfl
   obtain rfl:=z5.inv h154
   refine .op (hE152.all (by simp)) ?_
   refine .bd fun a155 h156=>?_
   refine .op ((S130.slW (i:=0) rfl h132).iS h156 rfl) ?_
   obtain ⟨w158,h159,hE157⟩:=(S130.slW (i:=0) rfl h132).el h156 rfl
   obtain rfl:=z5.inv h159
   refine .op (hE157.all (by simp)) ?_
   refine .bd fun a160 h161=>?_
   refine .op ((S130.slW (i:=0) rfl h132).iS h161 rfl) ?_
   refine .bd fun a165 h166=>?_
   obtain ⟨w167,H162,e163,h168,S164⟩:=S130.setWA (i:=0) (e:=2) (own:=false) (σ:=(15::1::0::1::0::σ)) (nv:=[.p (.int .i64 a150.f_At),.p (.int .u64 a150.Key)]) (xv:=(.agg [.p (.int .i64 a150.f_At),.p (.int .u64 a150.Key)])) rfl h132 h166 rfl (z28 (sC (sI _ _) (sC (sI _ _) sN))) (show z5.R a150 [.p (.int .i64 a150.f_At),.p (.int .u64 a150.Key)] from (z5.mk)) rfl
   refine .op (sM e163) ?_
   refine .bd fun a169 h170=>?_
   refine .op ((S164.slW (i:=0) rfl h168).iS h170 rfl) ?_
   refine .bd fun a174 h175=>?_
   obtain ⟨w176,H171,e172,h177,S173⟩:=S164.setWA (i:=0) (e:=2) (own:=false) (σ:=(17::1::0::1::0::σ)) (nv:=[.p (.int .i64 a155.f_At),.p (.int .u64 a155.Key)]) (xv:=(.agg [.p (.int .i64 a155.f_At),.p (.int .u64 a155.Key)])) rfl h168 h175 rfl (z28 (sC (sI _ _) (sC (sI _ _) sN))) (show z5.R a155 [.p (.int .i64 a155.f_At),.p (.int .u64 a155.Key)] from (z5.mk)) rfl
   refine .op (sM e172) ?_
   exact ih x1 x2 x9 x10 (IntKind.wrap .i64 (x12+1)) a174 w176 h177 H171 (S173.wk2 aN aN)
  exact hE0 x1 x2 x9 x10 zw0 w131 h132 H129 (S130.wk2 aN aN)
theorem z4u {h:H} {l0:Loc} {o0:Nat} {u0:V} {kE0:(List z8)→Option β} {kE1:Bool→(List z8)→Option β} (hE0:∀ (zw0:(List z8)) (w195:List C) (h196:WL l0 o0 z5 zw0 u0 w195) (H193:Go.Ev.H) (_:Fm 141 h [⟨l0,o0,w195⟩] [] [] H193),Sim (kE0 zw0) (K ((.exit 0),(envL []),H193)) Q) (hE1:∀ (q8:Bool) (zw0:(List z8)) (w199:List C) (h200:WL l0 o0 z5 zw0 u0 w199) (H197:Go.Ev.H) (_:Fm 141 h [⟨l0,o0,w199⟩] [] [] H197),Sim (kE1 q8 zw0) (K (.ret,(envL [(8,(.p (.bool q8)))]),H197)) Q) (k:Nat):∀ (x1:Int) (x2:Int) (x9:Int) (x10:Int) (zw0:(List z8)) (w3:List C) (h4:WL l0 o0 z5 zw0 u0 w3) (H1:Go.Ev.H) (_:Fm 141 h [⟨l0,o0,w3⟩] [] [] H1) {σ:Stamp},Sim (za k kE0 kE1 x1 x2 x9 x10 zw0) ((cvL G X0 z1x z1w σ (envL [(0,u0),(1,(.p (.int .i64 x1))),(2,(.p (.int .i64 x2))),(3,(.clo 114 [])),(9,(.p (.int .i64 x9))),(10,(.p (.int .i64 x10)))]) H1).bind K) Q:=by
 induction k with
 | zero=>intros;exact .no
 | succ k ih =>
  intro x1 x2 x9 x10 zw0 w3 h4 H1 S2 σ
  rw [za]
  refine .round (Sim.ext (z88 _ _ _ _ _ _ _ _ _ _) ?_)
  refine .cq ?_ ?_
  ·refine .as (z4y ?_ k x1 x2 x9 x10 zw0 w3 h4 H1 (S2.wk2 aN aN))
   ·intro r34_1 r34_2 r34_9 r34_10 zw0 w37 h38 H35 S36
    refine .ext (z7x _ _ _ _ _ _ _ _ _ _) ?_
    refine .cq ?_ ?_
    ·exact hE1 true zw0 w37 h38 H35 (S36.wk2 aN aN)
    refine .cq ?_ ?_
    ·exact hE1 false zw0 w37 h38 H35 (S36.wk2 aN aN)
    refine .bd fun a41 h42=>?_
    refine .op ((S36.slW (i:=0) rfl h38).iS h42 rfl) ?_
    obtain ⟨w44,h45,hE43⟩:=(S36.slW (i:=0) rfl h38).el h42 rfl
    obtain rfl:=z5.inv h45
    refine .op (hE43.all (by simp)) ?_
    refine .bd fun a46 h47=>?_
    refine .op ((S36.slW (i:=0) rfl h38).iS h47 rfl) ?_
    obtain ⟨w49,h50,hE48⟩:=(S36.slW (i:=0) rfl h38).el h47 rfl
    obtain rfl:=z5.inv h50
    refine .op (hE48.all (by simp)) ?_
    refine .bd fun a51 h52=>?_
    refine .op ((S36.slW (i:=0) rfl h38).iS h52 rfl) ?_
    refine .bd fun a56 h57=>?_
    obtain ⟨w58,H53,e54,h59,S55⟩:=S36.setWA (i:=0) (e:=2) (own:=false) (σ:=(15::0::1::1::1::0::1::0::σ)) (nv:=[.p (.int .i64 a41.f_At),.p (.int .u64 a41.Key)]) (xv:=(.agg [.p (.int .i64 a41.f_At),.p (.int .u64 a41.Key)])) rfl h38 h57 rfl (z28 (sC (sI _ _) (sC (sI _ _) sN))) (show z5.R a41 [.p (.int .i64 a41.f_At),.p (.int .u64 a41.Key)] from (z5.mk)) rfl
    refine .op (sM e54) ?_
    refine .bd fun a60 h61=>?_
    refine .op ((S55.slW (i:=0) rfl h59).iS h61 rfl) ?_
    refine .bd fun a65 h66=>?_
    obtain ⟨w67,H62,e63,h68,S64⟩:=S55.setWA (i:=0) (e:=2) (own:=false) (σ:=(17::0::1::1::1::0::1::0::σ)) (nv:=[.p (.int .i64 a46.f_At),.p (.int .u64 a46.Key)]) (xv:=(.agg [.p (.int .i64 a46.f_At),.p (.int .u64 a46.Key)])) rfl h59 h66 rfl (z28 (sC (sI _ _) (sC (sI _ _) sN))) (show z5.R a46 [.p (.int .i64 a46.f_At),.p (.int .u64 a46.Key)] from (z5.mk)) rfl
    refine .op (sM e63) ?_
    refine .cq ?_ ?_
    ·refine .as (z4x ?_ k r34_1 r34_2 r34_9 r34_10 (IntKind.wrap .i64 (r34_9-1)) a65 w67 h68 H62 (S64.wk2 aN aN))
     ·intro r123_1 r123_2 r123_9 r123_10 zw0 w126 h127 H124 S125
      refine .ext (z7u _ _ _ _ _ _ _ _ _ _) ?_
      refine .cq ?_ ?_
      ·refine .as (z33 ?_ k r123_1 r123_2 r123_9 r123_10 (IntKind.wrap .i64 (r123_9+1)) zw0 w126 h127 H124 (S125.wk2 aN aN))
       ·intro r182_1 r182_2 r182_9 r182_10 zw0 w185 h186 H183 S184
        refine .ext (z4m _ _ _ _ _ _ _ _ _ _) ?_
        exact ih r182_1 r182_2 r182_9 (IntKind.wrap .i64 (r182_10+1)) zw0 w185 h186 H183 (S184.wk2 aN aN)
      exact ih r123_1 r123_2 r123_9 (IntKind.wrap .i64 (r123_10+1)) zw0 w126 h127 H124 (S125.wk2 aN aN)
    refine .cq ?_ ?_
    ·refine .as (z33 ?_ k r34_1 r34_2 r34_9 r34_10 (IntKind.wrap .i64 (r34_9+1)) a65 w67 h68 H62 (S64.wk2 aN aN))
     ·intro r188_1 r188_2 r188_9 r188_10 zw0 w191 h192 H189 S190
      refine .ext (z4m _ _ _ _ _ _ _ _ _ _) ?_
      exact ih r188_1 r188_2 r188_9 (IntKind.wrap .i64 (r188_10+1)) zw0 w191 h192 H189 (S190.wk2 aN aN)
    exact ih r34_1 r34_2 r34_9 (IntKind.wrap .i64 (r34_10+1)) a65 w67 h68 H62 (S64.wk2 aN aN)
  exact hE0 zw0 w3 h4 H1 (S2.wk2 aN aN)
theorem z1y (k:Nat) {h:H} {σ:Stamp} (x0:List z8) {u0:V} {l0:Loc} {o0:Nat} {w0:List C} (hw0:WL l0 o0 z5 x0 u0 w0) (ha0:AtC h l0 o0 w0) (x1:Int) (x2:Int):Sim (zi k x0 x1 x2) (ev G X0 161 σ [u0,(.p (.int .i64 x1)),(.p (.int .i64 x2)),(.clo 114 [])] h) (fun r s=>∃ (wb0:List C),WL l0 o0 z5 r.2 u0 wb0∧s=([.v (.p (.bool r.1))],pts h [⟨l0,o0,wb0⟩])):=by
 refine .ev rfl (Sim.ext (z7q _ _ _ _ _ _ _ _) ?_)
 rw [zi]
 have S0:Fm 141 h [⟨l0,o0,w0⟩] [] [] (List.replicate 141 []::h):=Fm.start1 ha0
 refine .as (z4u ?_ ?_ k x1 x2 (IntKind.wrap .i64 (x1+1)) 0 x0 w0 hw0 (List.replicate 141 []::h) (S0.wk2 aN aN))
 ·intro zw0 w204 h205 H202 S203
  refine .ext (z7w _ _ _ _) ?_
  exact .fin (S203.finN (lC (sB _).lv lN)) ⟨w204,h205,rfl⟩
 ·intro r206_8 zw0 w209 h210 H207 S208
  refine .ext (z7p _ _ _ _ _) ?_
  exact .fin (S208.finN (lC (sB _).lv lN)) ⟨w209,h210,rfl⟩
end
end Go.Ev
namespace Go.Ev
open Go.Proofs
set_option linter.unusedVariables false
set_option linter.unusedSimpArgs false
set_option maxRecDepth 100000
noncomputable section
abbrev KT11:=Exit→Env→H→Option (List C × H)
variable (rec : CallF) (loop : LoopV) (σ : Stamp)
def z3u:Code:=(codeAt (bodyOf Try.f163) [1,1,1,0,0,0])
def z3t:Lv:=⟨12307,3072,[(0,12307)]⟩
def z6x:KT11:=(kBlock 0 (kSeq G rec loop (codeAt (bodyOf Try.f163) [1,1,1,1]) ⟨3072,3072,[]⟩ (1::1::1::0::σ) (finC G false Try.f163 (1::σ))))
def z3w:Code:=(codeAt (bodyOf Try.f163) [1,1,1,1,0,0,0])
def z3s:Lv:=⟨12307,3072,[(2,12307)]⟩
def z6y:KT11:=(kBlock 2 (kSeq G rec loop (codeAt (bodyOf Try.f163) [1,1,1,1,1]) ⟨3072,3072,[]⟩ (1::1::1::1::0::σ) (finC G false Try.f163 (1::σ))))
def z3p:Code:=(codeAt (bodyOf Try.f163) [1,1,1,1,1,1,1,1,1,0,0,0])
def z3x:Lv:=⟨8195,3072,[(4,8195)]⟩
def z74:KT11:=(kBlock 4 (kSeq G rec loop (codeAt (bodyOf Try.f163) [1,1,1,1,1,1,1,1,1,1]) ⟨3072,3072,[]⟩ (1::1::1::1::1::1::1::1::1::0::σ) (finC G false Try.f163 (1::σ))))
def z3v:Code:=(codeAt (bodyOf Try.f163) [1,1,1,1,1,1,1,1,1,0,0,0,0,0,0,0])
def z3q:Lv:=⟨12307,3072,[(6,12307),(5,12307),(4,8195)]⟩
def z71:Exit→Env→H→Option (Exit×Env×H):=(kBlock 6 (kSeq G rec loop (codeAt (bodyOf Try.f163) [1,1,1,1,1,1,1,1,1,0,0,0,0,1]) ⟨12307,3072,[(5,12307),(4,8195)]⟩ (0::σ) (kBlock 5 (kRound loop (codeAt (bodyOf Try.f163) [1,1,1,1,1,1,1,1,1,0,0,0]) ⟨8195,3072,[(4,8195)]⟩ σ))))
def z3l:Code:=(codeAt (bodyOf Try.f163) [1,1,1,1,1,1,1,1,1,0,0,0,0,1,0,0,0])
def z3r:Lv:=⟨12307,3072,[(8,12307),(5,12307),(4,8195)]⟩
def z70:Exit→Env→H→Option (Exit×Env×H):=(kBlock 8 (kSeq G rec loop (codeAt (bodyOf Try.f163) [1,1,1,1,1,1,1,1,1,0,0,0,0,1,1]) ⟨12307,3072,[(5,12307),(4,8195)]⟩ (1::0::σ) (kBlock 5 (kRound loop (codeAt (bodyOf Try.f163) [1,1,1,1,1,1,1,1,1,0,0,0]) ⟨8195,3072,[(4,8195)]⟩ σ))))
theorem za6 (x0:V) (x1:Int) (x2:Int) (x3:Int) (x4:V) (h:H):cvBody G rec loop 163 σ [x0,(.p (.int .i64 x1)),(.p (.int .i64 x2)),(.p (.int .i64 x3)),x4] h =
(iS 2 x0 x3).bind fun t1 =>
(ldO true 2 (List.replicate 178 []::h) t1).bind fun t2 =>
(iS 2 x0 x1).bind fun t3 =>
(ldO true 2 (List.replicate 178 []::h) t3).bind fun t4 =>
(iS 2 x0 x1).bind fun t5 =>
((stO false 2 (13::0::1::0::σ) (List.replicate 178 []::h) t5 t2).map fun h=>(udf,h)).bind fun q6 =>
(iS 2 x0 x3).bind fun t7 =>
((stO false 2 (15::0::1::0::σ) q6.2 t7 t4).map fun h=>(udf,h)).bind fun q8 =>
(loop z3u z3t (0::1::1::1::0::σ) (envL [(0,x0),(1,(.p (.int .i64 x1))),(4,x4),(12,(.p (.int .i64 (IntKind.wrap .i64 (x1+1))))),(13,(.p (.int .i64 (IntKind.wrap .i64 (x2-1)))))]) q8.2).bind fun r9=>z6x rec loop σ r9.1 r9.2.1 r9.2.2:=by kernel_rfl
theorem zav (x0:V) (x1:Int) (x4:V) (x12:Int) (x13:Int) (h:H):z1n G rec loop z3u z3t σ (envL [(0,x0),(1,(.p (.int .i64 x1))),(4,x4),(12,(.p (.int .i64 x12))),(13,(.p (.int .i64 x13)))]) h =
(bif decide (x12≤x13) then ((iS 2 x0 x12).bind fun t10 =>
(ldO true 2 h t10).bind fun t11 =>
(iS 2 x0 x1).bind fun t12 =>
(ldO true 2 h t12).bind fun t13 =>
(cloO rec x4 (13::0::0::0::σ) [t11,t13] h (some 45)).bind fun q14 =>
(castI .i64 q14.1).bind fun n15 =>
some ((.p (.bool (decide (n15<0)))),q14.2)) else (some ((.p (.bool false)),h))).bind fun q16 =>
(asB q16.1).bind fun b17 =>
bif b17 then (
loop z3u z3t (1::σ) (envL [(0,x0),(1,(.p (.int .i64 x1))),(4,x4),(12,(.p (.int .i64 (IntKind.wrap .i64 (x12+1))))),(13,(.p (.int .i64 x13)))]) q16.2)
else (
some ((.exit 0),(envL [(0,x0),(1,(.p (.int .i64 x1))),(4,x4),(12,(.p (.int .i64 x12))),(13,(.p (.int .i64 x13)))]),q16.2)):=by kernel_rfl
theorem zak (x0:V) (x1:Int) (x4:V) (x12:Int) (x13:Int) (h:H):z6x rec loop σ (.exit 0) (envL [(0,x0),(1,(.p (.int .i64 x1))),(4,x4),(12,(.p (.int .i64 x12))),(13,(.p (.int .i64 x13)))]) h =
(loop z3w z3s (0::1::1::1::1::0::σ) (envL [(0,x0),(1,(.p (.int .i64 x1))),(4,x4),(12,(.p (.int .i64 x12))),(13,(.p (.int .i64 x13)))]) h).bind fun r18=>z6y rec loop σ r18.1 r18.2.1 r18.2.2:=by kernel_rfl
theorem zb6 (x0:V) (x1:Int) (x4:V) (x12:Int) (x13:Int) (h:H):z1n G rec loop z3w z3s σ (envL [(0,x0),(1,(.p (.int .i64 x1))),(4,x4),(12,(.p (.int .i64 x12))),(13,(.p (.int .i64 x13)))]) h =
(bif decide (x12≤x13) then ((iS 2 x0 x13).bind fun t19 =>
(ldO true 2 h t19).bind fun t20 =>
(iS 2 x0 x1).bind fun t21 =>
(ldO true 2 h t21).bind fun t22 =>
(cloO rec x4 (13::0::0::0::σ) [t20,t22] h (some 63)).bind fun q23 =>
(castI .i64 q23.1).bind fun n24 =>
some ((.p (.bool (!(decide (n24<0))))),q23.2)) else (some ((.p (.bool false)),h))).bind fun q25 =>
(asB q25.1).bind fun b26 =>
bif b26 then (
loop z3w z3s (1::σ) (envL [(0,x0),(1,(.p (.int .i64 x1))),(4,x4),(12,(.p (.int .i64 x12))),(13,(.p (.int .i64 (IntKind.wrap .i64 (x13-1)))))]) q25.2)
else (
some ((.exit 2),(envL [(0,x0),(1,(.p (.int .i64 x1))),(4,x4),(12,(.p (.int .i64 x12))),(13,(.p (.int .i64 x13)))]),q25.2)):=by kernel_rfl
theorem zag (x0:V) (x1:Int) (x4:V) (x12:Int) (x13:Int) (h:H):z6y rec loop σ (.exit 2) (envL [(0,x0),(1,(.p (.int .i64 x1))),(4,x4),(12,(.p (.int .i64 x12))),(13,(.p (.int .i64 x13)))]) h =
bif decide (x12>x13) then (
(iS 2 x0 x1).bind fun t27 =>
(ldO true 2 h t27).bind fun t28 =>
(iS 2 x0 x13).bind fun t29 =>
(ldO true 2 h t29).bind fun t30 =>
(iS 2 x0 x13).bind fun t31 =>
((stO false 2 (13::0::1::0::1::1::1::1::1::0::σ) h t31 t28).map fun h=>(udf,h)).bind fun q32 =>
(iS 2 x0 x1).bind fun t33 =>
((stO false 2 (15::0::1::0::1::1::1::1::1::0::σ) q32.2 t33 t30).map fun h=>(udf,h)).bind fun q34 =>
fin false σ q34.2 [(.p (.int .i64 x13)),(.p (.bool true))])
else (
(iS 2 x0 x13).bind fun t35 =>
(ldO true 2 h t35).bind fun t36 =>
(iS 2 x0 x12).bind fun t37 =>
(ldO true 2 h t37).bind fun t38 =>
(iS 2 x0 x12).bind fun t39 =>
((stO false 2 (13::0::1::1::1::1::1::1::0::σ) h t39 t36).map fun h=>(udf,h)).bind fun q40 =>
(iS 2 x0 x13).bind fun t41 =>
((stO false 2 (15::0::1::1::1::1::1::1::0::σ) q40.2 t41 t38).map fun h=>(udf,h)).bind fun q42 =>
(loop z3p z3x (0::1::1::1::1::1::1::1::1::1::0::σ) (envL [(0,x0),(1,(.p (.int .i64 x1))),(4,x4),(12,(.p (.int .i64 (IntKind.wrap .i64 (x12+1))))),(13,(.p (.int .i64 (IntKind.wrap .i64 (x13-1)))))]) q42.2).bind fun r43=>z74 rec loop σ r43.1 r43.2.1 r43.2.2):=by kernel_rfl
theorem zb1 (x0:V) (x1:Int) (x4:V) (x12:Int) (x13:Int) (h:H):z1n G rec loop z3p z3x σ (envL [(0,x0),(1,(.p (.int .i64 x1))),(4,x4),(12,(.p (.int .i64 x12))),(13,(.p (.int .i64 x13)))]) h =
(loop z3v z3q (0::0::σ) (envL [(0,x0),(1,(.p (.int .i64 x1))),(4,x4),(12,(.p (.int .i64 x12))),(13,(.p (.int .i64 x13)))]) h).bind fun r44=>z71 rec loop σ r44.1 r44.2.1 r44.2.2:=by kernel_rfl
theorem zai (x0:V) (x1:Int) (x13:Int) (h:H):z74 rec loop σ (.exit 4) (envL [(0,x0),(1,(.p (.int .i64 x1))),(13,(.p (.int .i64 x13)))]) h =
(iS 2 x0 x1).bind fun t45 =>
(ldO true 2 h t45).bind fun t46 =>
(iS 2 x0 x13).bind fun t47 =>
(ldO true 2 h t47).bind fun t48 =>
(iS 2 x0 x13).bind fun t49 =>
((stO false 2 (13::0::1::1::1::1::1::1::1::1::1::1::0::σ) h t49 t46).map fun h=>(udf,h)).bind fun q50 =>
(iS 2 x0 x1).bind fun t51 =>
((stO false 2 (15::0::1::1::1::1::1::1::1::1::1::1::0::σ) q50.2 t51 t48).map fun h=>(udf,h)).bind fun q52 =>
fin false σ q52.2 [(.p (.int .i64 x13)),(.p (.bool false))]:=by kernel_rfl
theorem zb2 (x0:V) (x1:Int) (x4:V) (x12:Int) (x13:Int) (h:H):z1n G rec loop z3v z3q σ (envL [(0,x0),(1,(.p (.int .i64 x1))),(4,x4),(12,(.p (.int .i64 x12))),(13,(.p (.int .i64 x13)))]) h =
(bif decide (x12≤x13) then ((iS 2 x0 x12).bind fun t53 =>
(ldO true 2 h t53).bind fun t54 =>
(iS 2 x0 x1).bind fun t55 =>
(ldO true 2 h t55).bind fun t56 =>
(cloO rec x4 (13::0::0::0::σ) [t54,t56] h (some 118)).bind fun q57 =>
(castI .i64 q57.1).bind fun n58 =>
some ((.p (.bool (decide (n58<0)))),q57.2)) else (some ((.p (.bool false)),h))).bind fun q59 =>
(asB q59.1).bind fun b60 =>
bif b60 then (
loop z3v z3q (1::σ) (envL [(0,x0),(1,(.p (.int .i64 x1))),(4,x4),(12,(.p (.int .i64 (IntKind.wrap .i64 (x12+1))))),(13,(.p (.int .i64 x13)))]) q59.2)
else (
some ((.exit 6),(envL [(0,x0),(1,(.p (.int .i64 x1))),(4,x4),(12,(.p (.int .i64 x12))),(13,(.p (.int .i64 x13)))]),q59.2)):=by kernel_rfl
theorem zaf (x0:V) (x1:Int) (x4:V) (x12:Int) (x13:Int) (h:H):z71 rec loop σ (.exit 6) (envL [(0,x0),(1,(.p (.int .i64 x1))),(4,x4),(12,(.p (.int .i64 x12))),(13,(.p (.int .i64 x13)))]) h =
(loop z3l z3r (0::1::0::σ) (envL [(0,x0),(1,(.p (.int .i64 x1))),(4,x4),(12,(.p (.int .i64 x12))),(13,(.p (.int .i64 x13)))]) h).bind fun r61=>z70 rec loop σ r61.1 r61.2.1 r61.2.2:=by kernel_rfl
theorem zay (x0:V) (x1:Int) (x4:V) (x12:Int) (x13:Int) (h:H):z1n G rec loop z3l z3r σ (envL [(0,x0),(1,(.p (.int .i64 x1))),(4,x4),(12,(.p (.int .i64 x12))),(13,(.p (.int .i64 x13)))]) h =
(bif decide (x12≤x13) then ((iS 2 x0 x13).bind fun t62 =>
(ldO true 2 h t62).bind fun t63 =>
(iS 2 x0 x1).bind fun t64 =>
(ldO true 2 h t64).bind fun t65 =>
(cloO rec x4 (13::0::0::0::σ) [t63,t65] h (some 136)).bind fun q66 =>
(castI .i64 q66.1).bind fun n67 =>
some ((.p (.bool (!(decide (n67<0))))),q66.2)) else (some ((.p (.bool false)),h))).bind fun q68 =>
(asB q68.1).bind fun b69 =>
bif b69 then (
loop z3l z3r (1::σ) (envL [(0,x0),(1,(.p (.int .i64 x1))),(4,x4),(12,(.p (.int .i64 x12))),(13,(.p (.int .i64 (IntKind.wrap .i64 (x13-1)))))]) q68.2)
else (
some ((.exit 8),(envL [(0,x0),(1,(.p (.int .i64 x1))),(4,x4),(12,(.p (.int .i64 x12))),(13,(.p (.int .i64 x13)))]),q68.2)):=by kernel_rfl
theorem zah (x0:V) (x1:Int) (x4:V) (x12:Int) (x13:Int) (h:H):z70 rec loop σ (.exit 8) (envL [(0,x0),(1,(.p (.int .i64 x1))),(4,x4),(12,(.p (.int .i64 x12))),(13,(.p (.int .i64 x13)))]) h =
bif decide (x12>x13) then (
some ((.exit 4),(envL [(0,x0),(1,(.p (.int .i64 x1))),(13,(.p (.int .i64 x13)))]),h))
else (
(iS 2 x0 x13).bind fun t70 =>
(ldO true 2 h t70).bind fun t71 =>
(iS 2 x0 x12).bind fun t72 =>
(ldO true 2 h t72).bind fun t73 =>
(iS 2 x0 x12).bind fun t74 =>
((stO false 2 (13::0::1::1::1::0::σ) h t74 t71).map fun h=>(udf,h)).bind fun q75 =>
(iS 2 x0 x13).bind fun t76 =>
((stO false 2 (15::0::1::1::1::0::σ) q75.2 t76 t73).map fun h=>(udf,h)).bind fun q77 =>
loop z3p z3x (1::σ) (envL [(0,x0),(1,(.p (.int .i64 x1))),(4,x4),(12,(.p (.int .i64 (IntKind.wrap .i64 (x12+1))))),(13,(.p (.int .i64 (IntKind.wrap .i64 (x13-1)))))]) q77.2):=by kernel_rfl
end
end Go.Ev
