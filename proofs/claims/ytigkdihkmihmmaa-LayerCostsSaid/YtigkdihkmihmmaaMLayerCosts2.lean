/- A part of the proof that follows: a layer costs what came of it in the last half second -/
import Derived.Test.YtigkdihkmihmmaaMLayerCosts1
import Derived.Laws.RangeAny
import Derived.Laws.Runes
import Derived.Shelf.Spec.SlicesInsertGrow
import Derived.Test.YtigkdihkmihmmaaRows
import Derived.ProofKit
import Derived.Tactics
import Derived.Tactics2
import Derived.StillTactics
import Derived.LoopTactic
import Derived.WalkKit
import Derived.Laws.Concat
import Derived.Laws.Strings
import Derived.Laws.Cover4
import Derived.OwnWalk
import Derived.Laws.AppendOwn
import Derived.KernelRfl
namespace Go.Ev
def Nq (c:C) (k:Nat):Prop:=c=.v (.p (.slice none 0 0))∨∃ s n ws,c=.arr s (n+1) k ws
def neO {α:Type} (xs:List α):Option Unit:=if xs.isEmpty then none else some ()
theorem Nq.nil {k:Nat}:Nq (.v (.p (.slice none 0 0))) k:=.inl rfl
theorem SlF.nil_len {α:Type} {d:Dt α} {xs:List α} {v:V} (h:SlF d xs v) (hv:v=.p (.slice none 0 0)∨v=.fz [] 0 d.sz true):xs=[]:=by
 obtain ⟨cs,h1,h2⟩:=h
 have h3:=(h1 []).len
 rcases hv with rfl | rfl
 ·exact List.eq_nil_of_length_eq_zero (Option.some.inj h3).symm
 ·exact List.eq_nil_of_length_eq_zero (Option.some.inj h3).symm
theorem Nq.mk {α:Type} {d:Dt α} {xs:List α} {c:C} {k:Nat} {u:Unit} (hS:SoC d xs c) (nt:Nn c k) (hk:d.sz=k) (hne:neO xs=some u):Nq c k:=by
 unfold neO at hne
 rcases hS with ⟨v,rfl,hv⟩ | ⟨s,ws,rfl,_⟩
 ·have:=hv.nil_len (by rw [hk];exact nt v rfl)
  subst this
  cases hne
 ·cases xs with
  | nil=>cases hne
  | cons x xs=>exact .inr ⟨s,xs.length,_,by rw [hk];rfl⟩
section
variable {N:Nat} {h0 Hp:H} {B:List Rt} {Γ:List (Nat×Stamp×List C)} {Δ:List Gw}
theorem Fm.expG (S:Fm N h0 B Γ Δ Hp) {i d:Nat} {s:Stamp} {cs:List C} (hi:Γ[i]?=some (d,s,cs)) (hf:(freeG (Γ.eraseIdx i) d&&freeD Δ d)=true) {frz:Bool} {τ:Stamp} :
  ∃ H',expF frz τ Hp (.ref ⟨h0.length,d,0,s,[]⟩ 0)=some (.own s cs,H')∧Fm N h0 B (Γ.eraseIdx i) Δ H':=by
 have S':Fm N h0 B (Γ.eraseIdx i) Δ Hp:=S.wk (fun _ h=>mem_erase h) (fun _ h=>h)
 obtain ⟨L,rfl,h2,h3,h4,h5⟩:=S
 have h6:=h4 _ (List.mem_of_getElem? hi)
 simp only at h6
 have hlt:=(List.getElem?_eq_some_iff.1 h6).1
 have ht:top (L::pts h0 B)=h0.length:=by simp [top,zf]
 have hr:rootC (L::pts h0 B) ⟨h0.length,d,0,s,[]⟩=some (.own s cs):=by
  simp [rootC,zf,h6]
 have ha:at_ (L::pts h0 B) ⟨h0.length,d,0,s,[]⟩=some (.own s cs):=by
  simp [at_,hr,find,C.node]
 refine ⟨L.set d [.dead]::pts h0 B,?_,z50 S' hf [.dead]⟩
 have hs:setAt (L::pts h0 B) ⟨h0.length,d,0,s,[]⟩ .dead=L.set d [.dead]::pts h0 B:=by
  simp [setAt,hr,repl,za,zf,h6]
 cases frz<;>simp only [expF,expC,ht,ha,hs,if_true]
theorem Fm.landG (S:Fm N h0 B Γ Δ Hp) {d:Nat} {s:Stamp} {cs:List C} (hd:d<N) (hf:(freeG Γ d&&freeD Δ d)=true) :
  ∃ H',Ev.land Hp (some d) [.own s cs]=(.ref ⟨h0.length,d,0,s,[]⟩ 0,H')∧Fm N h0 B ((d,s,cs)::Γ) Δ H':=by
 refine ⟨_,?_,S.add hd hf⟩
 obtain ⟨L,rfl,_⟩:=S
 simp [Ev.land,resVs,tupV,z6d,top,zf]
end
theorem Dt.setL {α:Type} {d:Dt α} {xs zs:List α} {cs:List V} (q1:d.L xs cs) {k:Int} {old x:α} (ho:ix xs k=some old) (hz:stx xs k x=some zs) {off:Nat} {nv:List V} (hoff:off+nv.length≤d.sz)
  (hx:∀ ws,d.R old ws→d.R x (ws.take off++nv++ws.drop (off+nv.length))):d.L zs (cs.take (k.toNat*d.sz+off)++nv++cs.drop (k.toNat*d.sz+off+nv.length))∧k.toNat*d.sz+off+nv.length≤cs.length:=by
 obtain ⟨⟨hk0,hk1⟩,rfl⟩:=zco hz
 have hcl:=RL.length (fun h=>d.len h) q1
 obtain ⟨_,hix,hold⟩:=z47 ho
 obtain ⟨ws,hR,hw⟩:=RL.get (fun h=>d.len h) q1 hix
 rw [hold] at hR
 have hwl:=d.len hR
 have hin:k.toNat*d.sz+d.sz≤cs.length:=by
  have:=Nat.mul_le_mul_right d.sz (Nat.succ_le_of_lt hix)
  rw [Nat.succ_mul] at this;omega
 refine ⟨?_,by omega⟩
 have:=RL.set (k:=d.sz) (fun h=>d.len h) (i:=k.toNat) (y:=x) q1 hix (hx ws hR)
 have hsplit:cs=cs.take (k.toNat*d.sz)++(ws++cs.drop (k.toNat*d.sz+d.sz)):=by
  rw [← hw,← List.drop_drop,List.take_append_drop,List.take_append_drop]
 have hA:(cs.take (k.toNat*d.sz)).length=k.toNat*d.sz:=by rw [List.length_take];omega
 generalize cs.take (k.toNat*d.sz)=A at hsplit hA this
 generalize cs.drop (k.toNat*d.sz+d.sz)=Bc at hsplit this
 rw [hsplit]
 rw [List.take_append,List.take_append,List.drop_append,List.drop_append,hA,hwl]
 rw [List.take_of_length_le (l:=A) (by omega),List.drop_of_length_le (l:=A) (by omega)]
 have t1:k.toNat*d.sz+off-k.toNat*d.sz=off:=by omega
 have t2:k.toNat*d.sz+off+nv.length-k.toNat*d.sz=off+nv.length:=by omega
 have t3:off-d.sz=0:=by omega
 have t4:off+nv.length-d.sz=0:=by omega
 rw [t1,t2,t3,t4,List.take_zero,List.drop_zero,List.append_nil,List.nil_append]
 simp only [List.append_assoc] at this ⊢
 exact this
theorem Dt.whole {α:Type} {d:Dt α} {old x:α} {nv:List V} {n:Nat} (hR:d.R x nv) (hn:d.sz=n):∀ ws,d.R old ws→d.R x (ws.take 0++nv++ws.drop (0+n)):=fun ws hw=>by
 have:=d.len hw
 rw [List.take_zero,List.nil_append,Nat.zero_add,List.drop_of_length_le (by omega),List.append_nil]
 exact hR
theorem zk8 {Hp:H} {l:Loc} {off0 j:Nat} {cs0:List C} {c:C} {α:Type} {d:Dt α} {xs zs:List α} {own:Bool} {σ:Stamp} {k:Int} {old x:α} {nv:List V} {xv:V} {n e off:Nat} (ha:AtC Hp l off0 cs0) (hj:cs0[j]?=some c) (hS:SoC d xs c) (nt:Nn c e)
  (ho:ix xs k=some old) (hz:stx xs k x=some zs) (he:d.sz=e) (hn:nv.length=n) (hoff:off+n≤e) (hst:StN xv nv) (hx:∀ ws,d.R old ws→d.R x (ws.take off++nv++ws.drop (off+n))) :
  ∃ c',stO own n σ Hp (adr (cellV l (off0+j) c) (k.toNat*e+off)) xv=some (ptC Hp l off0 (cs0.set j c'))∧SoC d zs c'∧Nq c' e:=by
 subst he;subst hn
 obtain ⟨⟨hk0,hk1⟩,hzs⟩:=zco hz
 rcases hS with ⟨v,rfl,hv⟩ | ⟨s,ws,rfl,hl⟩
 ·have:=hv.nil_len (nt v rfl)
  subst this
  simp only [List.length_nil] at hk1;omega
 ·obtain ⟨hL,hle⟩:=Dt.setL hl ho hz hoff hx
  have hA:=ha.hop hj (s:=s) (ds:=ws.map .v) (by simp [C.node])
  obtain ⟨p,q,hnd,hp⟩:=hA
  have hp0:p=[]:=List.eq_nil_of_length_eq_zero hp
  subst hp0
  have e1:=hst own σ Hp (l.hop (off0+j) s) _ (k.toNat*d.sz+off) hnd (by simp only [List.nil_append,List.length_append,List.length_map];omega)
  have hlen:(ws.take (k.toNat*d.sz+off)++nv++ws.drop (k.toNat*d.sz+off+nv.length)).length=ws.length:=by
   simp only [List.length_append,List.length_take,List.length_drop];omega
  have hpt:=ha.hop_pt hj (s:=s) (ds:=ws.map .v) (ds':=(ws.take (k.toNat*d.sz+off)++nv++ws.drop (k.toNat*d.sz+off+nv.length)).map .v) (by simp [C.node]) (by simp only [List.length_map];exact hlen)
  refine ⟨.arr s xs.length d.sz ((ws.take (k.toNat*d.sz+off)++nv++ws.drop (k.toNat*d.sz+off+nv.length)).map .v),?_,.inr ⟨s,_,?_,hL⟩,?_⟩
  ·show stO own nv.length σ Hp (.ref (l.hop (off0+j) s) (0+(k.toNat*d.sz+off))) xv=_
   rw [Nat.zero_add,e1]
   congr 1
   refine Eq.trans ?_ hpt
   rw [ptC_eq (off:=0) (p:=[]) (cs:=ws.map .v) (cs':=(ws.take (k.toNat*d.sz+off)++nv++ws.drop (k.toNat*d.sz+off+nv.length)).map .v) hnd rfl (by simp only [List.length_map];exact hlen)]
   congr 1
   simp only [List.nil_append,List.map_append,List.map_take,List.map_drop]
   rw [List.take_append_of_le_length (by simp only [List.length_map];omega),List.drop_append_of_le_length (by simp only [List.length_map];omega)]
   simp only [List.append_assoc]
  ·rw [hzs,List.length_set]
  ·obtain ⟨m,hm⟩:∃ m,xs.length=m+1:=⟨xs.length-1,by omega⟩
   exact .inr ⟨s,m,_,by rw [hm]⟩
section
variable {N:Nat} {h0 Hp:H} {B:List Rt} {Γ:List (Nat×Stamp×List C)} {Δ:List Gw}
theorem Fm.seG (S:Fm N h0 B Γ Δ Hp) {i d0 j:Nat} {s0:Stamp} {cs0:List C} {c:C} {α:Type} {d:Dt α} {xs zs:List α} {own:Bool} {σ:Stamp} {k:Int} {old x:α} {nv:List V} {xv:V} {n e off:Nat} (hi:Γ[i]?=some (d0,s0,cs0)) (hf:(freeG (Γ.eraseIdx i) d0&&freeD Δ d0)=true) (hj:cs0[j]?=some c) (hS:SoC d xs c) (nt:Nn c e)
  (ho:ix xs k=some old) (hz:stx xs k x=some zs) (he:d.sz=e) (hn:nv.length=n) (hoff:off+n≤e) (hst:StN xv nv) (hx:∀ ws,d.R old ws→d.R x (ws.take off++nv++ws.drop (off+n))) :
  ∃ c' H',stO own n σ Hp (adr (cellV ⟨h0.length,d0,0,s0,[]⟩ j c) (k.toNat*e+off)) xv=some H'∧SoC d zs c'∧Nq c' e∧Fm N h0 B (Γ.set i (d0,s0,cs0.set j c')) Δ H':=by
 obtain ⟨c',e1,h1,h2⟩:=zk8 (own:=own) (σ:=σ) (S.atG hi) hj hS nt ho hz he hn hoff hst hx
 rw [Nat.zero_add] at e1
 exact ⟨c',_,e1,h1,h2,S.setG hi hf (by simp)⟩
end
end Go.Ev
namespace Go.Ev
theorem lo_nil {H:Ev.H}:layCs true H []=some (([]:List C),H):=rfl
theorem lo_pl {H H':Ev.H} {x:V} {xs:List V} {cs:List C} (hx:Still x) (t:layCs true H xs=some (cs,H')):layCs true H (x::xs)=some (.v x::cs,H'):=by
 simp only [layCs,hx.lay,Option.bind_some,t]
theorem lo_ow {H H1 H':Ev.H} {x:V} {c:C} {xs:List V} {cs:List C} (hx:layC true H x=some (c,H1)) (t:layCs true H1 xs=some (cs,H')):layCs true H (x::xs)=some (c::cs,H'):=by
 simp only [layCs,hx,Option.bind_some,t]
section
variable {N:Nat} {h0 Hp:H} {B:List Rt} {Γ:List (Nat×Stamp×List C)} {Δ:List Gw}
theorem Fm.layO (S:Fm N h0 B Γ Δ Hp) {k:Nat} {g:Gw} (hk:Δ[k]?=some g) (hD:noLit g.D=true) (hf:freeL g.D Γ (Δ.eraseIdx k)=true) :
  ∃ c H1,layC true Hp g.v=some (c,H1)∧SoC g.d g.xs c∧Nn c g.d.sz∧Fm N h0 B Γ (Δ.eraseIdx k) H1:=by
 have S':Fm N h0 B Γ (Δ.eraseIdx k) Hp:=S.wk (fun _ h=>h) (fun _ h=>mem_erase h)
 obtain ⟨L,rfl,h2,h3,h4,h5⟩:=S
 obtain ⟨ws,q1,q2⟩:=h5 g (List.mem_of_getElem? hk)
 rcases q2 with ⟨e1,e2,e3⟩ | ⟨q2,d',hd',s,tl,hv,h6⟩ | ⟨_,_,_,hd⟩
 ·have o:OwnS (.v g.v) g.d.sz g.xs.length ws:=⟨by rw [e1,e2];simp,.inl ⟨e1,e2,by rcases e3 with e | e<;>rw [e]<;>simp⟩⟩
  refine ⟨.v g.v,_,?_,SoC.own o q1,fun v hv=>?_,S'⟩
  ·rcases e3 with e | e<;>rw [e]<;>rfl
  ·cases hv;exact e3
 ·have hr:rootC (L::pts h0 B) ⟨h0.length,d',0,s,[]⟩=some (.arr s g.xs.length g.d.sz (ws.map .v)):=by simp [rootC,zf,h6]
  have hs:za (L::pts h0 B) ⟨h0.length,d',0,s,[]⟩ .dead=L.set d' (.dead::tl)::pts h0 B:=by simp [za,zf,h6]
  have o:OwnS (.arr s g.xs.length g.d.sz (ws.map .v)) g.d.sz g.xs.length ws:=⟨q2,.inr ⟨s,rfl⟩⟩
  refine ⟨_,L.set d' (.dead::tl)::pts h0 B,?_,SoC.own o q1,?_,z50 S' (z7h hf hd') (.dead::tl)⟩
  ·rw [hv];simp [layC,zf,hr,hs]
  ·intro v hv;cases hv
 ·exact (z6b hD hd).elim
end
end Go.Ev
namespace Go.Ev
def SlU {α:Type} (m:Nat) (h:H) (d:Dt α) (xs:List α) (v:V):Prop:=m≤h.length∧SlH (h.drop (h.length-m)) d xs v
theorem SlH.ups {α:Type} {d:Dt α} {xs:List α} {v:V}:∀ (k:Nat) {h:H},SlH (h.drop k) d xs v→SlH h d xs v
 | 0,_,hv=>hv
 | k+1,[],hv=>by simpa using hv
 | k+1,L::h,hv=>by
  obtain ⟨cs,q1,q2⟩:=SlH.ups k (h:=h) (by simpa using hv)
  exact ⟨cs,q1.up L,q2⟩
theorem SlU.sl {α:Type} {m:Nat} {h:H} {d:Dt α} {xs:List α} {v:V} (hu:SlU m h d xs v):SlH h d xs v:=SlH.ups _ hu.2
theorem SlH.cells {α:Type} {h:H} {d:Dt α} {xs:List α} {v:V} (hv:SlH h d xs v):v.cells=[v]:=by
 obtain ⟨cs,q1,_⟩:=hv
 rcases q1.cases with ⟨rfl,_,_⟩ | ⟨t,rfl⟩ | ⟨l,off,av,ds,rfl,_⟩<;>rfl
section
variable {N:Nat} {h0 Hp:H} {B:List Rt} {Γ:List (Nat×Stamp×List C)} {Δ:List Gw} {α:Type} {d:Dt α} {xs:List α} {v:V} {m:Nat}
end
end Go.Ev
namespace Go.Ev
def WL (l:Loc) (off:Nat) {α:Type} (d:Dt α) (xs:List α) (v:V) (cs:List C):Prop:=∃ ws a,cs=ws.map .v∧d.L xs ws∧v=.sl l off xs.length a d.sz∧xs.length≤a
theorem WL.len {l:Loc} {off:Nat} {α:Type} {d:Dt α} {xs:List α} {v:V} {cs:List C} (h:WL l off d xs v cs):cs.length=xs.length*d.sz:=by
 obtain ⟨ws,a,rfl,h2,_⟩:=h
 rw [List.length_map];exact RL.length (fun h=>d.len h) h2
theorem WL.same {l:Loc} {off:Nat} {α:Type} {d:Dt α} {xs ys:List α} {v:V} {cs cs':List C} (h:WL l off d xs v cs) (h':WL l off d ys v cs'):cs'.length=cs.length:=by
 rw [h.len,h'.len]
 obtain ⟨_,_,_,_,e,_⟩:=h
 obtain ⟨_,_,_,_,e',_⟩:=h'
 rw [e] at e'
 injection e' with _ _ e1
 rw [e1]
theorem WL.sl {H:Ev.H} {l:Loc} {off:Nat} {α:Type} {d:Dt α} {xs:List α} {v:V} {cs:List C} (ha:AtC H l off cs) (h:WL l off d xs v cs):SlH H d xs v:=by
 have hlen:=h.len
 obtain ⟨ws,a,rfl,h2,rfl,h4⟩:=h
 obtain ⟨p,q,hn,hp⟩:=ha
 refine ⟨ws,.mk_sl hn (by simp only [List.length_append,hlen];omega) ?_ h4,h2⟩
 rw [← hlen,← hp,List.append_assoc,List.drop_left,List.take_left,z4w]
def KN (v:V) (l:Loc):Prop:=∀ l' o n a e,v=.sl l' o n a e→l'.key≠l.key
section
variable {N:Nat} {h0 Hp:H} {B:List Rt} {Γ:List (Nat×Stamp×List C)} {Δ:List Gw} {α:Type} {d:Dt α} {xs zs:List α} {v:V}
theorem KN.key {l l':Loc} (hk:KN v l) (he:l'.key=l.key):KN v l':=fun _ _ _ _ _ hv=>by rw [he];exact hk _ _ _ _ _ hv
theorem KN.frz (hv:SlF d xs v) {l:Loc}:KN v l:=fun l' o n a e hv'=>by
 subst hv'
 obtain ⟨ws,q1,_⟩:=hv
 rcases (q1 []).cases with ⟨h,_,_⟩ | ⟨t,h⟩ | ⟨l2,off,av,ds,h,hn,_⟩
 ·cases h
 ·cases h
 ·have:=nd_lt hn
  simp at this
end
end Go.Ev
namespace Go.Ev
section
variable {N:Nat} {h0 Hp:H} {B:List Rt} {Γ:List (Nat×Stamp×List C)} {Δ:List Gw} {α:Type} {d:Dt α} {xs zs:List α} {v:V}
end
end Go.Ev
namespace Go.Ev
section
variable {N:Nat} {h0 Hp:H} {B:List Rt} {Γ:List (Nat×Stamp×List C)} {Δ:List Gw}
end
end Go.Ev
namespace Go.Ev
section
variable {N:Nat} {h0 Hp:H} {B:List Rt} {Γ:List (Nat×Stamp×List C)} {Δ:List Gw}
end
end Go.Ev
namespace Go.Ev
section
variable {N:Nat} {h0 Hp:H} {B:List Rt} {Γ:List (Nat×Stamp×List C)} {Δ:List Gw}
end
end Go.Ev
namespace Go.Ev
section
variable {N:Nat} {h0 Hp:H} {B:List Rt} {Γ:List (Nat×Stamp×List C)} {Δ:List Gw}
theorem Fm.layR (S:Fm N h0 B Γ Δ Hp) {i d:Nat} {s:Stamp} {cs:List C} (hi:Γ[i]?=some (d,s,cs)) (hf:(freeG (Γ.eraseIdx i) d&&freeD Δ d)=true) {own:Bool} :
  ∃ H',layC own Hp (.ref ⟨h0.length,d,0,s,[]⟩ 0)=some (.own s cs,H')∧Fm N h0 B (Γ.eraseIdx i) Δ H':=by
 have S':Fm N h0 B (Γ.eraseIdx i) Δ Hp:=S.wk (fun _ h=>mem_erase h) (fun _ h=>h)
 obtain ⟨L,rfl,h2,h3,h4,h5⟩:=S
 have h6:=h4 _ (List.mem_of_getElem? hi)
 simp only at h6
 have hlt:=(List.getElem?_eq_some_iff.1 h6).1
 have ht:top (L::pts h0 B)=h0.length:=by simp [top,zf]
 have hr:rootC (L::pts h0 B) ⟨h0.length,d,0,s,[]⟩=some (.own s cs):=by
  simp [rootC,zf,h6]
 have hs:za (L::pts h0 B) ⟨h0.length,d,0,s,[]⟩ .dead=L.set d [.dead]::pts h0 B:=by
  simp [za,zf,h6]
 refine ⟨L.set d [.dead]::pts h0 B,?_,z50 S' hf [.dead]⟩
 simp only [layC,ht,hr,hs,and_self,if_true]
theorem zgz {s:Stamp} {cs:List C}:(C.own s cs).node s=some cs:=by simp [C.node]
theorem AtC.sub {h:H} {l:Loc} {off j:Nat} {cs ds:List C} {s:Stamp} (ha:AtC h l off cs) (hj:cs[j]?=some (.own s ds)):AtC h (l.hop (off+j) s) 0 ds:=ha.hop hj zgz
end
end Go.Ev
namespace Go.Ev
open Go.RowKit (Below)
set_option linter.unusedVariables false

theorem SimN.below {ι:Inj} {B:Nat} {w w':World} {ns:Nodes} (h:SimN ι B w.heap ns) (hb:Below w.heap.size w w'):SimN ι B w'.heap ns:=by
 refine ⟨h.nodup,fun s cs hm p hp=>?_,h.inj,fun b f hf=>?_,h.apart,h.nwb⟩
 ·obtain ⟨a1,c1,e1,a2,a3⟩:=h.lie s cs hm p hp
  exact ⟨a1,c1,e1,by rw [hb.block _ (Array.getElem?_eq_some_iff.1 a2).1];exact a2,a3⟩
 ·obtain ⟨c,e,fr,k1,k2⟩:=h.frz b f hf
  exact ⟨c,e,fr,by rw [hb.block _ (Array.getElem?_eq_some_iff.1 k1).1];exact k1,k2⟩
def plainX (t:FuncId→List V→Option Value):CallF:=fun f _ args h=>(t f args).map fun v=>([.v (.p v)],h)
theorem zjo {G:Cfg} {t:FuncId→List V→Option Value}
  (ht : ∀ f args v, t f args = some v → ∃ us : List Value, args = us.map .p ∧ (∃ fn, G.P.funcs[f]? = some fn ∧ (fn.name == "runtime.NumGoroutine") = false ∧ fn.body.isNone = false) ∧
   ∀ w,Calls G.P f us.toArray w fun e w'=>e=.returned v∧Below w.heap.size w w') (B:Nat):CallOk G B (plainX t):=by
 intro f σ args h cs h' hev ι w us hS hargs hf hB
 simp only [plainX,Option.map_eq_some_iff,Prod.mk.injEq] at hev
 obtain ⟨v,hv,rfl,rfl⟩:=hev
 obtain ⟨us0,rfl,hfn,hc⟩:=ht f args v hv
 have e:us=us0.toArray:=by
  apply Array.ext'
  refine List.ext_getElem? fun i=>?_
  simp only
  by_cases hi:i<us0.length
  ·have h1:(us0.map V.p)[i]?=some (.p us0[i]):=by simp [hi]
   obtain ⟨u,hu,r⟩:=hargs.get h1
   cases r
   rw [hu];simp [hi]
  ·have:=hargs.length
   simp only [List.length_map] at this
   rw [List.getElem?_eq_none (by omega),List.getElem?_eq_none (by omega)]
 subst e
 refine ⟨hfn,(hc w).mono fun e w' he=>?_⟩
 obtain ⟨rfl,hb⟩:=he
 exact ⟨v,ι,rfl,hS.below hb,⟨fun h d=>.p v⟩,.refl _,.refl _ _ _,hb.mono hB⟩

theorem Below.setIter {w:World} {k:Nat} {o:Obj} {B:Nat} (hk:B≤k):Below B w { w with heap:=w.heap.setIfInBounds k o }:=by
 refine ⟨rfl,rfl,rfl,by simp,fun i hi=>?_⟩
 simp only
 rw [Array.getElem?_setIfInBounds_ne (by omega)]
def itAt (w:World) (k:Nat) (s:ByteArray) (pos:Nat):World:={ w with heap:=w.heap.setIfInBounds k (.stringIter s pos) }
theorem z5m {w:World} {k:Nat} {s:ByteArray} {pos p:Nat} (h:w.heap[k]?=some (.stringIter s p)):(itAt w k s pos).heap[k]?=some (.stringIter s pos):=by
 have:=(Array.getElem?_eq_some_iff.1 h).1
 simp [itAt,this]
theorem z4b {P:Program} {w:World} {k:Nat} {s:ByteArray} {pos:Nat} (hk:w.heap[k]?=some (.stringIter s pos)) (ty:TypeId) (h:pos<s.size) :
  (Instr.next (.pointer (some ⟨k,0,none⟩)) true ty).run P w=.ok (.tuple #[.bool true,.int .i64 pos,.int .i32 (Utf8.decode s pos).1]) (itAt w k s (pos+(Utf8.decode s pos).2)):=by
 simp only [Instr.next,getObj,setObj,Sem.run_bind,Sem.run,hk,Result.andThen,h,if_true]
 simp [goInt,itAt]
theorem z2q {P:Program} {w:World} {k:Nat} {s:ByteArray} {pos:Nat} (hk:w.heap[k]?=some (.stringIter s pos)) (ty:TypeId) (h:¬ pos<s.size) :
  (Instr.next (.pointer (some ⟨k,0,none⟩)) true ty).run P w=.ok (.tuple #[.bool false]) w:=by
 simp [Instr.next,getObj,Sem.run,hk,h]
theorem z5q (s:ByteArray) (pos:Nat) (h:pos<s.size):1≤(Utf8.decode s pos).2:=by
 by_cases ha:(s[pos]'h).toNat<128
 ·rw [decode_ascii s pos h ha]
  exact Nat.le_refl _
 ·exact (decode_high s pos h (by omega)).2
def runesF (s:ByteArray):Nat→Nat→List Int
 | 0,_=>[]
 | n+1,pos=>if pos<s.size then ((Utf8.decode s pos).1:Int)::runesF s n (pos+(Utf8.decode s pos).2) else []
theorem za6 (s:ByteArray):∀ (n m pos:Nat),s.size-pos≤n→s.size-pos≤m→runesF s n pos=runesF s m pos
 | 0,0,_,_,_=>rfl
 | 0,m+1,pos,h,_=>by
  have:¬ pos<s.size:=by omega
  simp [runesF,this]
 | n+1,0,pos,_,h=>by
  have:¬ pos<s.size:=by omega
  simp [runesF,this]
 | n+1,m+1,pos,h1,h2=>by
  simp only [runesF]
  split
  ·rename_i hp
   have:=z5q s pos hp
   rw [za6 s n m _ (by omega) (by omega)]
  ·rfl
def runes (s:ByteArray) (pos:Nat):List Int:=runesF s s.size pos
theorem z4u {s:ByteArray} {pos:Nat} (h:pos<s.size):runes s pos=((Utf8.decode s pos).1:Int)::runes s (pos+(Utf8.decode s pos).2):=by
 have hw:=z5q s pos h
 unfold runes
 rw [za6 s s.size (s.size+1) pos (by omega) (by omega)]
 simp [runesF,h]
theorem z5k {s:ByteArray} {pos:Nat} (h:¬ pos<s.size):runes s pos=[]:=by
 unfold runes
 cases hs:s.size with
 | zero=>rfl
 | succ n=>simp only [runesF];rw [if_neg h]
end Go.Ev
namespace Go.Ev
open Go.RowKit (Below)
open Go.Proofs
set_option linter.unusedVariables false

structure InsOk (G:Cfg) (f k bys:Nat) (own:Bool):Prop where
 fn : ∃ fn, G.P.funcs[f]? = some fn ∧ (fn.name == "runtime.NumGoroutine") = false ∧ fn.body.isNone = false
 shift:∀ (b off n c i vb voff m vc:Nat) (cs vs:List Value) (w:World),i<n→0<m→n+m≤c→n+m≤9223372036854775807→vb≠b→cs.length=n*k→vs.length=m*k →
  (∀ j v,cs[j]?=some v→w.cell? ⟨b,off+j,none⟩=some v)→(∀ j,j<(n+m)*k→(w.cell? ⟨b,off+j,none⟩).isSome=true)→(∀ j,w.frozen? ⟨b,j,none⟩=false) →
  (∀ j v,vs[j]?=some v→w.cell? ⟨vb,voff+j,none⟩=some v)→(∀ v∈cs,v.oneCell'=true)→(∀ v∈vs,v.oneCell'=true) →
  ∀ (tA tB:TypeId) (kA kB:Nat),w.shape? vb=some (tA,kA)→w.shape? b=some (tB,kB)→kA≠0→kB≠0 →
  Calls G.P f #[.slice (some ⟨b,off,none⟩) n c,.int .i64 i,.slice (some ⟨vb,voff,none⟩) m vc] w fun e w' =>
   e=.returned (.slice (some ⟨b,off,none⟩) (n+m) c)∧w'=(w.drew.setCells b (off+(i+m)*k) (cs.drop (i*k))).setCells b (off+i*k) vs
 grow:∀ (b off n c i vb voff m vc:Nat) (cs vs:List Value) (w:World),i<n→0<m→n≤c→c<n+m→(n+m)*bys≤140737488355328→cs.length=n*k→vs.length=m*k →
  (∀ j v,cs[j]?=some v→w.cell? ⟨b,off+j,none⟩=some v) →
  (∀ j v,vs[j]?=some v→w.cell? ⟨vb,voff+j,none⟩=some v)→(∀ v∈cs,v.oneCell'=true)→(∀ v∈vs,v.oneCell'=true) →
  Calls G.P f #[.slice (some ⟨b,off,none⟩) n c,.int .i64 i,.slice (some ⟨vb,voff,none⟩) m vc] w fun e w'=>∃ (g:Nat) (z z':Array Value) (ety:TypeId),n+m≤g∧z.size=(n+m-i)*k∧z'.size=(g-(n+m))*k ∧
   e=.returned (.slice (some ⟨w.heap.size,0,none⟩) (n+m) g) ∧
   w'=(((w.alloc (.cells ((cs.take (i*k)).toArray++z++z') ety)).drew.setCells w.heap.size (i*k) vs).drew).setCells w.heap.size ((i+m)*k) (cs.drop (i*k))
 tail:∃ t ty,(∀ σ d h x y,zbe G σ d h t t x y=apO own k bys σ d h x y) ∧
  (∀ (vb vo m vc:Nat) (r:Value) (w w':World),0<m→(Builtin.append_ #[t,t] ty #[.slice none 0 0,.slice (some ⟨vb,vo,none⟩) m vc]).run G.P w=.ok r w' →
   Calls G.P f #[.slice none 0 0,.int .i64 0,.slice (some ⟨vb,vo,none⟩) m vc] w fun e w2=>e=.returned r∧w2=w') ∧
  (∀ (a:Addr) (n c vb vo m vc:Nat) (r:Value) (w w':World),0<m→n≤c→(Builtin.append_ #[t,t] ty #[.slice (some a) n c,.slice (some ⟨vb,vo,none⟩) m vc]).run G.P w=.ok r w' →
   Calls G.P f #[.slice (some a) n c,.int .i64 n,.slice (some ⟨vb,vo,none⟩) m vc] w fun e w2=>e=.returned r∧w2=w')
end Go.Ev
namespace Go.Ev
set_option linter.unusedVariables false
section
variable {N:Nat} {h0 Hp:H} {B:List Rt} {Γ:List (Nat×Stamp×List C)} {Δ:List Gw}
end
end Go.Ev
namespace Go.Ev
set_option linter.unusedVariables false
section
variable {G:Cfg} {X:CallF} {c:Code} {lv:Lv} {own:Bool} {e N D7 D28 f:Nat} {z:List V} {caps:List V} {α:Type} {dt:Dt α} {p:α→Option Bool} {Hp:H} {LL:Loc} {v:V}
end
section
variable {G:Cfg} {X:CallF} {c:Code} {lv:Lv} {own:Bool} {e M D7 D28 f:Nat} {z:List V} {caps:List V} {α:Type} {dt:Dt α} {p:α→Option Bool}
variable {N:Nat} {h0 Hp:H} {B:List Rt} {Γ:List (Nat×Stamp×List C)} {Δ:List Gw}
end
end Go.Ev
namespace Go.Ev
set_option linter.unusedVariables false
set_option linter.unusedSimpArgs false
structure Ct (α:Type) where
 sz:Nat
 R:α→List C→Prop
 len:∀ {a cs},R a cs→cs.length=sz
theorem RL.split {α β:Type} {R:α→List β→Prop} {k:Nat} (hk:∀ {a vs},R a vs→vs.length=k) {xs:List α} {ds:List β} (h:RL R xs ds) {i:Nat} (hi:i<xs.length) :
  ∃ P ws Q,ds=P++ws++Q∧P.length=i*k∧R xs[i] ws∧∀ x' ws',R x' ws'→RL R (xs.set i x') (P++ws'++Q):=by
 obtain ⟨ws,h1,h2⟩:=RL.get hk h hi
 have hl:=RL.length hk h
 have hm:(i+1)*k≤xs.length*k:=Nat.mul_le_mul_right k hi
 rw [Nat.succ_mul] at hm
 refine ⟨ds.take (i*k),ws,ds.drop (i*k+k),?_,by rw [List.length_take];omega,h1,fun x' ws' hR=>RL.set hk h hi hR⟩
 rw [← h2,List.append_assoc,← List.drop_drop,List.take_append_drop,List.take_append_drop]
def RsC {α:Type} (d:Ct α) (xs:List α) (c:C):Prop :=
 (xs=[]∧(c=.v (.p (.slice none 0 0))∨c=.v (.fz [] 0 d.sz true)))∨∃ s ds,c=.arr s xs.length d.sz ds∧RL d.R xs ds
def RsH {α:Type} (h:H) (d:Ct α) (xs:List α) (v:V):Prop :=
 (xs=[]∧(v=.p (.slice none 0 0)∨v=.fz [] 0 d.sz true))∨∃ l ds,v=.sl l 0 xs.length xs.length d.sz∧nd h l=some ds∧RL d.R xs ds
section
variable {α:Type} {h:H} {l:Loc} {off j:Nat} {cs:List C} {c:C} {d:Ct α} {xs:List α} {v:V}
theorem RsC.nil:RsC d [] (.v (.p (.slice none 0 0))):=.inl ⟨rfl,.inl rfl⟩
theorem RsC.nil' {e:Nat} (he:d.sz=e):RsC d [] (.v (.fz [] 0 e true)):=.inl ⟨rfl,.inr (by rw [he])⟩
theorem RsC.ld (hc:RsC d xs c) (ha:AtC h l off cs) (hj:cs[j]?=some c):ldO false 1 h (.ref l (off+j))=some (cellV l (off+j) c):=by
 rcases hc with ⟨_,rfl | rfl⟩ | ⟨s,ds,rfl,_⟩<;>exact ha.ldC hj rfl
theorem z7k {s:Stamp} {n e:Nat} {ds:List C}:(C.arr s n e ds).node s=some ds:=by simp [C.node]
theorem AtC.hopN (ha:AtC h l off cs) {s:Stamp} {ds:List C} (hj:cs[j]?=some c) (hd:c.node s=some ds):nd h (l.hop (off+j) s)=some ds:=by
 obtain ⟨p,q,hn,hp⟩:=ha
 exact nd_in hn (c:=c) (by rw [z8g hp (List.getElem?_eq_some_iff.1 hj).1,hj]) hd
theorem RsC.rs (hc:RsC d xs c) (ha:AtC h l off cs) (hj:cs[j]?=some c):RsH h d xs (cellV l (off+j) c):=by
 rcases hc with ⟨h0,rfl | rfl⟩ | ⟨s,ds,rfl,hl⟩
 ·exact .inl ⟨h0,.inl rfl⟩
 ·exact .inl ⟨h0,.inr rfl⟩
 ·exact .inr ⟨_,ds,rfl,ha.hopN hj z7k,hl⟩
theorem RsC.len (hc:RsC d xs c) (l:Loc) (o:Nat):lenO (cellV l o c)=some (.p (.int .i64 xs.length)):=by
 rcases hc with ⟨rfl,rfl | rfl⟩ | ⟨s,ds,rfl,hl⟩<;>rfl
theorem RsH.len (hv:RsH h d xs v):lenO v=some (.p (.int .i64 xs.length)):=by
 rcases hv with ⟨rfl,rfl | rfl⟩ | ⟨s,ds,rfl,_⟩<;>rfl
theorem RsH.up (hv:RsH h d xs v) (L:Layer):RsH (L::h) d xs v:=by
 rcases hv with hv | ⟨l,ds,rfl,hn,hl⟩
 ·exact .inl hv
 ·exact .inr ⟨l,ds,rfl,nd_up hn L,hl⟩
theorem RsH.el (hv:RsH h d xs v) {i:Int} {x:α} (hx:ix xs i=some x) {e:Nat} (he:d.sz=e):∃ l ws,iS e v i=some (.ref l (i.toNat*e))∧d.R x ws∧AtC h l (i.toNat*e) ws:=by
 subst he
 obtain ⟨h0,hi,rfl⟩:=z47 hx
 rcases hv with ⟨rfl,_⟩ | ⟨l,ds,rfl,hn,hl⟩
 ·simp at hi
 ·obtain ⟨P,ws,Q,rfl,hP,hR,_⟩:=hl.split (fun h=>d.len h) hi
  refine ⟨l,ws,?_,hR,P,Q,hn,hP⟩
  simp only [iS]
  rw [if_pos ⟨trivial,h0,by omega⟩,Nat.zero_add]
theorem RsC.open (hc:RsC d xs c) {i:Int} {x:α} (hx:ix xs i=some x) {e:Nat} (he:d.sz=e) :
  ∃ s P ws Q,c=.arr s xs.length e (P++ws++Q)∧P.length=i.toNat*e∧d.R x ws∧∀ x' ws',d.R x' ws'→RsC d (xs.set i.toNat x') (.arr s xs.length e (P++ws'++Q)):=by
 subst he
 obtain ⟨h0,hi,rfl⟩:=z47 hx
 rcases hc with ⟨rfl,_⟩ | ⟨s,ds,rfl,hl⟩
 ·simp at hi
 ·obtain ⟨P,ws,Q,rfl,hP,hR,hs⟩:=hl.split (fun h=>d.len h) hi
  exact ⟨s,P,ws,Q,rfl,hP,hR,fun x' ws' h=>.inr ⟨s,_,by rw [List.length_set],hs x' ws' h⟩⟩
theorem iS_arr {α:Type} {xs:List α} {i:Int} {x:α} (hx:ix xs i=some x) (l:Loc) (o e:Nat) (s:Stamp) (ds:List C):iS e (cellV l o (.arr s xs.length e ds)) i=some (.ref (l.hop o s) (i.toNat*e)):=by
 obtain ⟨h0,hi,_⟩:=z47 hx
 simp only [cellV,toV,Option.getD_some,iS]
 rw [if_pos ⟨trivial,h0,by omega⟩,Nat.zero_add]
theorem AtC.elem {s:Stamp} {n e k:Nat} {P ws Q:List C} (ha:AtC h l off cs) (hj:cs[j]?=some (.arr s n e (P++ws++Q))) (hP:P.length=k):AtC h (l.hop (off+j) s) k ws :=
 ⟨P,Q,ha.hopN hj z7k,hP⟩
end
def Foc (N:Nat) (h0:H) (B:List Rt) (l:Loc) (off:Nat) (cs:List C) (B':List C→List Rt):Prop :=
 ∀ {Γ:List (Nat×Stamp×List C)} {Δ:List Gw} {Hp:H},Fm N h0 B Γ Δ Hp→(AtC Hp l off cs∧l.lvl<h0.length)∧∀ cs',cs'.length=cs.length→Fm N h0 (B' cs') Γ Δ (ptC Hp l off cs')
section
variable {N:Nat} {h0 Hp:H} {B:List Rt} {Γ:List (Nat×Stamp×List C)} {Δ:List Gw} {l:Loc} {off j:Nat} {cs:List C} {B':List C→List Rt}
theorem Foc.of {i:Nat} (hi:B[i]?=some ⟨l,off,cs⟩):Foc N h0 B l off cs (fun cs'=>B.set i ⟨l,off,cs'⟩):=fun S=>by
 refine ⟨⟨S.atB hi,?_⟩,fun cs' hc=>S.setB hi hc⟩
 obtain ⟨L,rfl,h2,h3,h4,h5⟩:=S
 have:=(h3.at hi).lt
 rwa [zf] at this
theorem Foc.arr (F:Foc N h0 B l off cs B') {s:Stamp} {n e k:Nat} {P ws Q:List C} (hj:cs[j]?=some (.arr s n e (P++ws++Q))) (hP:P.length=k) :
  Foc N h0 B (l.hop (off+j) s) k ws (fun ws'=>B' (cs.set j (.arr s n e (P++ws'++Q)))):=fun {Γ Δ Hp} S=>by
 obtain ⟨⟨ha,hlv⟩,hs⟩:=F S
 refine ⟨⟨ha.elem hj hP,hlv⟩,fun ws' hl=>?_⟩
 have h1:AtC Hp (l.hop (off+j) s) 0 (P++ws++Q):=ha.hop hj z7k
 have h2:ptC Hp (l.hop (off+j) s) k ws'=ptC Hp (l.hop (off+j) s) 0 (P++ws'++Q):=by
  have:=h1.seg_pt (j:=k) (m:=ws.length) (ds:=ws') (by simp;omega) hl
  rw [Nat.zero_add] at this
  rw [this,← hP]
  congr 2
  ·rw [List.append_assoc P,List.take_left'];rfl
  ·rw [← List.drop_drop,List.append_assoc,List.drop_left,List.drop_left]
 rw [h2,ha.hop_pt hj (ds':=P++ws'++Q) z7k (by simp [hl])]
 exact hs _ (by simp)
theorem Foc.own (F:Foc N h0 B l off cs B') {s:Stamp} {ds:List C} (hj:cs[j]?=some (.own s ds)) :
  Foc N h0 B (l.hop (off+j) s) 0 ds (fun ds'=>B' (cs.set j (.own s ds'))):=fun {Γ Δ Hp} S=>by
 obtain ⟨⟨ha,hlv⟩,hs⟩:=F S
 refine ⟨⟨ha.sub hj,hlv⟩,fun ds' hl=>?_⟩
 rw [ha.hop_pt hj (ds':=ds') zgz hl]
 exact hs _ (by simp)
theorem Fm.atF (S:Fm N h0 B Γ Δ Hp) (F:Foc N h0 B l off cs B'):AtC Hp l off cs:=(F S).1.1
theorem Fm.setF (S:Fm N h0 B Γ Δ Hp) (F:Foc N h0 B l off cs B') {cs':List C} (hc:cs'.length=cs.length):Fm N h0 (B' cs') Γ Δ (ptC Hp l off cs'):=(F S).2 cs' hc
theorem Fm.stF (S:Fm N h0 B Γ Δ Hp) (F:Foc N h0 B l off cs B') {σ:Stamp} {own:Bool} {x:V} (hx:Still x) (hj:(cs[j]?).isSome=true) :
  ∃ H',stO own 1 σ Hp (.ref l (off+j)) x=some H'∧Fm N h0 (B' (cs.set j (.v x))) Γ Δ H':=by
 have hlt:j<cs.length:=by
  obtain ⟨y,hy⟩:=Option.isSome_iff_exists.1 hj
  exact (List.getElem?_eq_some_iff.1 hy).1
 exact ⟨_,(S.atF F).st (own:=own) (σ:=σ) hx hlt,S.setF F (by simp)⟩
end
section
variable {h:H} {l:Loc} {off j:Nat} {cs:List C}
theorem AtC.ldR (ha:AtC h l off cs) {s:Stamp} {n e:Nat} {ds:List C} (hj:cs[j]?=some (.arr s n e ds)):ldO false 1 h (.ref l (off+j))=some (cellV l (off+j) (.arr s n e ds)):=ha.ldC hj rfl
theorem AtC.ldAll (ha:AtC h l off cs) {n:Nat} {xs:List V} (hj:decide (j+n≤cs.length)=true) (hx:toVs l (off+j) ((cs.drop j).take n)=some xs):ldO true n h (.ref l (off+j))=some (.agg xs):=by
 rw [ha.ldAgg (of_decide_eq_true hj) hx];rfl
def Low (x:V):Prop:=∀ own H,layC own H x=some (.v x,H)
theorem Still.low {x:V} (h:Still x):Low x:=fun own H=>h.lay own H
theorem Low.hop (l:Loc) (o:Nat) (s:Stamp):Low (.ref (l.hop o s) 0):=fun own H=>by
 simp [layC,Loc.hop]
theorem lw_nil {own:Bool} {H:Ev.H}:layCs own H []=some ([],H):=rfl
theorem zr {own:Bool} {H:Ev.H} {x:V} {xs:List V} {cs:List C} (hx:Low x) (t:layCs own H xs=some (cs,H)):layCs own H (x::xs)=some (.v x::cs,H):=by
 simp only [layCs,hx own H,Option.bind_some,t]
theorem z6r {own:Bool}:∀ {xs:List V} {H H':Ev.H} {cs:List C},layCs own H xs=some (cs,H')→cs.length=xs.length
 | [],H,H',cs,e=>by simp only [layCs,Option.some.injEq,Prod.mk.injEq] at e;obtain ⟨rfl,_⟩:=e;rfl
 | x::xs,H,H',cs,e=>by
  simp only [layCs] at e
  obtain ⟨⟨c,h1⟩,_,e2⟩:=Option.bind_eq_some_iff.1 e
  obtain ⟨⟨ds,h2⟩,e3,e4⟩:=Option.bind_eq_some_iff.1 e2
  simp only [Option.some.injEq,Prod.mk.injEq] at e4
  rw [← e4.1,List.length_cons,List.length_cons,z6r e3]
theorem AtC.stW (ha:AtC h l off cs) {own:Bool} {σ:Stamp} {xs:List V} {ws:List C} {n:Nat} (e:layCs own h xs=some (ws,h)) (hn:xs.length=n) (hj:j+n≤cs.length):stO own n σ h (.ref l (off+j)) (.agg xs)=some (ptC h l off (cs.take j++ws++cs.drop (j+n))):=by
 subst hn
 have hw:=z6r e
 obtain ⟨p,q,hn,hp⟩:=ha
 have hs:z23 l (off+j) (p++cs++q)[off+j]? (.agg xs)=false:=by
  cases (p++cs++q)[off+j]? with
  | none=>rfl
  | some c=>cases c<;>rfl
 unfold stO
 simp only [V.cells,bne_self_eq_false,Bool.not_true,Bool.or_self,Bool.false_eq_true,if_false,hn,Option.bind_some,hs,e]
 rw [if_pos (by simp;omega),ptC_eq hn hp (by simp;omega)]
 congr 2
 rw [List.append_assoc p,List.take_append,List.take_of_length_le (l:=p) (by omega),List.drop_append,List.drop_of_length_le (l:=p) (by omega),List.nil_append,hp,Nat.add_sub_cancel_left,Nat.add_assoc,Nat.add_sub_cancel_left,hw,List.take_append_of_le_length (by omega),List.drop_append_of_le_length (by omega)]
 simp
end
section
variable {N:Nat} {h0 Hp:H} {B:List Rt} {Γ:List (Nat×Stamp×List C)} {Δ:List Gw}
theorem Fm.boxW (S:Fm N h0 B Γ Δ Hp) {d:Nat} {s:Stamp} {own:Bool} {xs:List V} {ws:List C} (e:layCs own Hp xs=some (ws,Hp)) (hd:d<N) (hf:(freeG Γ d&&freeD Δ d)=true):∃ H',boxO own s d Hp (.agg xs)=some (.ref ⟨h0.length,d,0,s,[]⟩ 0,H')∧Fm N h0 B ((d,s,ws)::Γ) Δ H' :=
 ⟨_,by unfold boxO;rw [show (V.agg xs).cells=xs from rfl,e];simp only [Option.bind_some];rw [S.newLoc],S.add hd hf⟩
theorem Fm.stGw (S:Fm N h0 B Γ Δ Hp) {i d j n:Nat} {s σ:Stamp} {own:Bool} {xs:List V} {ws cs:List C} (hi:Γ[i]?=some (d,s,cs)) (hf:(freeG (Γ.eraseIdx i) d&&freeD Δ d)=true) (e:layCs own Hp xs=some (ws,Hp)) (hn:xs.length=n) (hj:decide (j+n≤cs.length)=true) :
  ∃ H',stO own n σ Hp (.ref ⟨h0.length,d,0,s,[]⟩ j) (.agg xs)=some H'∧Fm N h0 B (Γ.set i (d,s,cs.take j++ws++cs.drop (j+n))) Δ H':=by
 have hj:=of_decide_eq_true hj
 have hw:=z6r e
 have e2:=(S.atG hi).stW (σ:=σ) e hn hj
 rw [Nat.zero_add] at e2
 exact ⟨_,e2,S.setG hi hf (by simp;omega)⟩
theorem Fm.appR {H1:H} (S:Fm N h0 B Γ Δ H1) {i j d d0 b e:Nat} {s0 σ:Stamp} {cs ns:List C} {c:C} {α:Type} {dt:Ct α} {xs zs:List α} {y:α} {own t:Bool} {ys:List V}
  (hi:Γ[i]?=some (d0,s0,cs)) (hj:cs[j]?=some c) (hc:RsC dt xs c) (e1:layCs own Hp ys=some (ns,H1)) (hys:ys.length=e) (hR:dt.R y ns) (hz:ap b xs [y]=some zs) (he:dt.sz=e) (hk:e≠0) (hd:d<N)
  (hf:(freeG (Γ.eraseIdx i) d0&&freeD Δ d0)=true) (hf2:(freeG Γ d&&freeD Δ d)=true) :
  ∃ c' ds H',apO own e b σ d Hp (cellV ⟨h0.length,d0,0,s0,[]⟩ j c) (.fz ys 1 e t)=some (.sl ⟨h0.length,d,0,σ,[]⟩ 0 zs.length zs.length e,H')∧RL dt.R zs ds∧slotOf H' d=some [.arr σ zs.length e ds]∧Fm N h0 B (Γ.set i (d0,s0,cs.set j c')) Δ H':=by
 subst he
 obtain ⟨⟨hb1,hb2⟩,rfl⟩:=zbg hz
 simp only [List.length_cons,List.length_nil,Nat.zero_add] at hb1 hb2
 have ha:=S.atG hi
 have hlt:=(List.getElem?_eq_some_iff.1 hj).1
 have same:ptC H1 ⟨h0.length,d0,0,s0,[]⟩ 0 (cs.set j c)=H1:=by
  rw [show cs.set j c=cs from by rw [← (List.getElem?_eq_some_iff.1 hj).2];exact List.set_getElem_self ..]
  exact ha.same
 have base:∀ x,apO own dt.sz b σ d Hp x (.fz ys 1 dt.sz t)=apTo dt.sz b σ d H1 1 ns x:=fun x=>by
  unfold apO
  simp only [lenOf,cellsOf,Option.bind_some,e1]
  rw [if_neg (by omega),if_neg (by omega)]
 have fin:∀ (c':C) (ds:List C) (n:Nat),n=(xs++[y]).length→RL dt.R (xs++[y]) ds →
   ∃ H',some (V.sl (Ev.newLoc H1 d σ) 0 n n dt.sz,zu (ptC H1 ⟨h0.length,d0,0,s0,[]⟩ 0 (cs.set j c')) d [.arr σ n dt.sz ds])=some (V.sl ⟨h0.length,d,0,σ,[]⟩ 0 (xs++[y]).length (xs++[y]).length dt.sz,H')∧RL dt.R (xs++[y]) ds∧slotOf H' d=some [.arr σ (xs++[y]).length dt.sz ds]∧Fm N h0 B (Γ.set i (d0,s0,cs.set j c')) Δ H':=fun c' ds n hn hl=>by
  subst hn
  have S2:=S.setG (cs':=cs.set j c') hi hf (by simp)
  have hf3:(freeG (Γ.set i (d0,s0,cs.set j c')) d&&freeD Δ d)=true:=by
   simp only [Bool.and_eq_true] at hf2 ⊢
   refine ⟨List.all_eq_true.2 fun x hx=>?_,hf2.2⟩
   rcases mem_set hx (List.getElem?_eq_some_iff.1 hi).1 with rfl | hx
   ·have:=List.all_eq_true.1 hf2.1 (d0,s0,cs) (List.mem_of_getElem? hi)
    simpa using this
   ·exact List.all_eq_true.1 hf2.1 _ (mem_erase hx)
  refine ⟨_,by rw [S.newLoc],hl,?_,?_⟩
  ·obtain ⟨L,e2,h2,_⟩:=S2
   rw [e2]
   simp only [zu,slotOf]
   rw [List.getElem?_set_self (by omega)]
  ·have S3:=S2
   obtain ⟨L,e2,h2,h3,h4,h5⟩:=S2
   rw [e2] at S3 ⊢
   exact z50 S3 hf3 _
 rcases hc with ⟨rfl,rfl | rfl⟩ | ⟨s,ds,rfl,hl⟩
 ·obtain ⟨H',q1,q2,q3,q4⟩:=fin (.v (.p (.slice none 0 0))) ns 1 rfl (RL.one hR)
  refine ⟨_,ns,H',?_,q2,q3,q4⟩
  rw [base,← q1,same]
  simp only [cellV,toV,Option.getD_some,apTo]
  rw [if_pos ⟨by simpa using hb1,by omega⟩]
 ·obtain ⟨H',q1,q2,q3,q4⟩:=fin (.v (.fz [] 0 dt.sz true)) ns 1 rfl (RL.one hR)
  refine ⟨_,ns,H',?_,q2,q3,q4⟩
  rw [base,← q1,same]
  simp only [cellV,toV,Option.getD_some,apTo]
  rw [if_pos ⟨trivial,trivial,by simp,by simpa using hb1,by omega,by simp⟩]
  simp
 ·have hlen:=RL.length (fun h=>dt.len h) hl
  obtain ⟨H',q1,q2,q3,q4⟩:=fin .dead (ds++ns) (xs.length+1) (by simp) (hl.append (RL.one hR))
  refine ⟨_,ds++ns,H',?_,q2,q3,q4⟩
  have hnode:nd H1 ((⟨h0.length,d0,0,s0,[]⟩:Loc).hop j s)=some ds:=by
   have:=ha.hopN hj (s:=s) (ds:=ds) z7k
   rwa [Nat.zero_add] at this
  have hkill:=zes (s:=s) ha hj (by simp [C.node])
  rw [Nat.zero_add] at hkill
  rw [base,← q1]
  simp only [cellV,toV,Option.getD_some,apTo]
  rw [if_neg (by simp),hnode]
  simp only [Option.bind_some]
  rw [if_neg (by omega),if_pos ⟨trivial,hlen,hb1,hb2⟩,hkill]
theorem Fm.stR (S:Fm N h0 B Γ Δ Hp) {i j d d0 n e:Nat} {s0 s σ:Stamp} {cs ds:List C} (hsl:slotOf Hp d=some [.arr s n e ds]) (hi:Γ[i]?=some (d0,s0,cs)) (hj:(cs[j]?).isSome=true) (hf:(freeG (Γ.eraseIdx i) d0&&freeD Δ d0)=true) (hf2:(freeG Γ d&&freeD Δ d)=true) :
  ∃ H',stO true 1 σ Hp (.ref ⟨h0.length,d0,0,s0,[]⟩ j) (.sl ⟨h0.length,d,0,s,[]⟩ 0 n n e)=some H'∧Fm N h0 B (Γ.set i (d0,s0,cs.set j (.arr s n e ds))) Δ H':=by
 have hlt:j<cs.length:=by
  obtain ⟨y,hy⟩:=Option.isSome_iff_exists.1 hj
  exact (List.getElem?_eq_some_iff.1 hy).1
 have ha:=S.atG hi
 have S0:=S
 obtain ⟨L,rfl,h2,h3,h4,h5⟩:=S
 simp only [slotOf] at hsl
 have hlay:layC true (L::pts h0 B) (.sl ⟨h0.length,d,0,s,[]⟩ 0 n n e)=some (.arr s n e ds,L.set d [.dead]::pts h0 B):=by
  simp [layC,top,zf,rootC,za,hsl]
 have S1:=z50 S0 hf2 [.dead]
 have ha1:=S1.atG hi
 obtain ⟨p,q,hn,hp⟩:=ha
 have hp0:p=[]:=List.length_eq_zero_iff.1 hp
 subst hp0
 obtain ⟨p1,q1,hn1,hp1⟩:=ha1
 have hp1':p1=[]:=List.length_eq_zero_iff.1 hp1
 subst hp1'
 refine ⟨_,?_,S1.setG (cs':=cs.set j (.arr s n e ds)) hi hf (by simp)⟩
 have hsm:z23 ⟨h0.length,d0,0,s0,[]⟩ j ([]++cs++q)[j]? (.sl ⟨h0.length,d,0,s,[]⟩ 0 n n e)=false:=by
  cases hx:([]++cs++q)[j]? with
  | none=>rfl
  | some x=>cases x<;>simp [z23,Loc.hop]
 unfold stO
 simp only [V.cells,hn,hsm,Option.bind_some,layCs,hlay]
 simp only [List.length_cons,List.length_nil,Bool.not_true,Bool.false_or,Nat.zero_add,bne_self_eq_false,Bool.false_eq_true,if_false,hn1,Option.bind_some]
 rw [if_pos (by simp;omega),z5d _ _ _ (by simp;omega),ptC_eq (off:=0) hn1 rfl (by simp)]
 congr 2
 rw [List.append_assoc,List.nil_append,List.nil_append,List.set_append_left _ _ (by omega)]
end
end Go.Ev
namespace Go.Ev
theorem lx_nil {own:Bool} {H:Ev.H}:layCs own H []=some (([]:List C),H):=rfl
theorem lx_pl {own:Bool} {H H':Ev.H} {x:V} {xs:List V} {cs:List C} (hx:Still x) (t:layCs own H xs=some (cs,H')):layCs own H (x::xs)=some (.v x::cs,H'):=by
 simp only [layCs,hx.lay,Option.bind_some,t]
theorem lx_ow {own:Bool} {H H1 H':Ev.H} {x:V} {c:C} {xs:List V} {cs:List C} (hx:layC own H x=some (c,H1)) (t:layCs own H1 xs=some (cs,H')):layCs own H (x::xs)=some (c::cs,H'):=by
 simp only [layCs,hx,Option.bind_some,t]
end Go.Ev
namespace Go.Ev
theorem AtC.stL {h h1:H} {l:Loc} {off j:Nat} {cs:List C} (ha:AtC h l off cs) (ha1:AtC h1 l off cs) {own:Bool} {σ:Stamp} {xs:List V} {ws:List C} {n:Nat} (e:layCs own h xs=some (ws,h1)) (hn:xs.length=n) (hj:j+n≤cs.length):stO own n σ h (.ref l (off+j)) (.agg xs)=some (ptC h1 l off (cs.take j++ws++cs.drop (j+n))):=by
 subst hn
 have hw:=z6r e
 obtain ⟨p,q,hn,hp⟩:=ha
 obtain ⟨p1,q1,hn1,hp1⟩:=ha1
 have hs:z23 l (off+j) (p++cs++q)[off+j]? (.agg xs)=false:=by
  cases (p++cs++q)[off+j]? with
  | none=>rfl
  | some c=>cases c<;>rfl
 unfold stO
 simp only [V.cells,bne_self_eq_false,Bool.not_true,Bool.or_self,Bool.false_eq_true,if_false,hn,Option.bind_some,hs,e,hn1]
 rw [if_pos (by simp;omega),ptC_eq hn1 hp1 (by simp;omega)]
 congr 2
 rw [List.append_assoc p1,List.take_append,List.take_of_length_le (l:=p1) (by omega),List.drop_append,List.drop_of_length_le (l:=p1) (by omega),List.nil_append,hp1,Nat.add_sub_cancel_left,Nat.add_assoc,Nat.add_sub_cancel_left,hw,List.take_append_of_le_length (by omega),List.drop_append_of_le_length (by omega)]
 simp
theorem Fm.stL {N:Nat} {h0 Hp H1:H} {B B0:List Rt} {Γ Γ0:List (Nat×Stamp×List C)} {Δ Δ0:List Gw} (S0:Fm N h0 B0 Γ0 Δ0 Hp) (S:Fm N h0 B Γ Δ H1) {i0 i d j n:Nat} {s σ:Stamp} {own:Bool} {xs:List V} {ws cs:List C} (hi0:Γ0[i0]?=some (d,s,cs)) (hi:Γ[i]?=some (d,s,cs)) (hf:(freeG (Γ.eraseIdx i) d&&freeD Δ d)=true) (e:layCs own Hp xs=some (ws,H1)) (hn:xs.length=n) (hj:decide (j+n≤cs.length)=true) :
  ∃ H',stO own n σ Hp (.ref ⟨h0.length,d,0,s,[]⟩ j) (.agg xs)=some H'∧Fm N h0 B (Γ.set i (d,s,cs.take j++ws++cs.drop (j+n))) Δ H':=by
 have hj:=of_decide_eq_true hj
 have hw:=z6r e
 have e2:=(S0.atG hi0).stL (S.atG hi) (σ:=σ) e hn hj
 rw [Nat.zero_add] at e2
 exact ⟨_,e2,S.setG hi hf (by simp;omega)⟩
end Go.Ev
namespace Go.Ev
theorem FrCs.vals {l:Loc}:∀ {cs:List C} {ys:List V} (o:Nat),FrCs cs ys→∃ xs,toVs l o cs=some xs∧∀ H,layCs true H xs=some (xs.map .v,H)
 | [],[],_,_=>⟨[],rfl,fun _=>rfl⟩
 | c::cs,y::ys,o,⟨h1,h2⟩=>by
  obtain ⟨xs,q1,q2⟩:=FrCs.vals (l:=l) (o+1) h2
  have hc:∃ x,toV l o c=some x∧∀ H,layC true H x=some (.v x,H):=by
   rcases h1 with ⟨rfl,hs⟩ | ⟨s,n,k,ws,rfl,_,rfl⟩
   ·exact ⟨y,rfl,fun H=>hs.lay true H⟩
   ·exact ⟨_,rfl,fun H=>by simp [layC,Loc.hop]⟩
  obtain ⟨x,e1,e2⟩:=hc
  refine ⟨x::xs,by simp only [toVs,e1,Option.bind_some,q1],fun H=>?_⟩
  simp only [layCs,e2,Option.bind_some,q2,List.map_cons]
 | [],_::_,_,h=>by cases h
 | _::_,[],_,h=>by cases h
section
variable {N:Nat} {h0 Hp:H} {B:List Rt} {Γ:List (Nat×Stamp×List C)} {Δ:List Gw}
theorem Fm.cpV (S:Fm N h0 B Γ Δ Hp) {i d n:Nat} {s:Stamp} {cs:List C} {ys:List V} (hi:Γ[i]?=some (d,s,cs)) (hy:FrCs cs ys) (hn:ys.length=n) :
  ∃ xs,toVs ⟨h0.length,d,0,s,[]⟩ 0 cs=some xs∧xs.length=n∧ldO true n Hp (.ref ⟨h0.length,d,0,s,[]⟩ 0)=some (.agg xs)∧∀ H,layCs true H xs=some (xs.map .v,H):=by
 have ha:=S.atG hi
 have hlen:=hy.len
 obtain ⟨xs,e1,e2⟩:=hy.vals (l:=⟨h0.length,d,0,s,[]⟩) 0
 refine ⟨xs,e1,by rw [z8r e1];omega,?_,e2⟩
 have:=ha.ldAgg (j:=0) (n:=n) (agg:=true) (xs:=xs) (by omega) (by rw [List.drop_zero,List.take_of_length_le (by omega)];exact e1)
 simpa [mkV] using this
theorem Fm.frzX (S:Fm N h0 B Γ Δ Hp) {i d:Nat} {s:Stamp} {cs:List C} {ys xs:List V} (hi:Γ[i]?=some (d,s,cs)) (hf:(freeG (Γ.eraseIdx i) d&&freeD Δ d)=true) (hy:FrCs cs ys) (hx:toVs ⟨h0.length,d,0,s,[]⟩ 0 cs=some xs) :
  ∃ H',(∀ frz τ,expF frz τ Hp (.agg xs)=some (.v (.agg ys),H'))∧layCs false Hp xs=some (ys.map .v,H')∧Fm N h0 B (Γ.set i (d,s,ys.map .v)) Δ H':=by
 have ha:=S.atG hi
 have hl:(⟨h0.length,d,0,s,[]⟩:Loc).lvl=top Hp:=by simp [top,S.len]
 have hlen:=hy.len
 obtain ⟨zs,e1,e2,e3⟩:=zic (pre:=[]) hl (by simpa using ha) hy
 have e1':toVs ⟨h0.length,d,0,s,[]⟩ 0 cs=some zs:=e1
 rw [hx] at e1'
 obtain rfl:=Option.some.inj e1'
 refine ⟨_,fun frz τ=>?_,e3,by simpa using S.setG (cs':=ys.map .v) hi hf (by simp [hlen])⟩
 cases frz<;>simp [expF,expC,e2]
theorem AtC.ldX {h:H} {l:Loc} {off:Nat} {xs:List V} {n:Nat} (ha:AtC h l off (xs.map .v)) (hn:xs.length=n) (hp:0<n):ldO true n h (.ref l off)=some (.agg xs):=by
 have:=ha.ldVs (j:=0) (xs:=xs) (n:=n) hn (by rw [List.drop_zero,List.take_of_length_le (by simp [hn])]) hp
 simpa using this
theorem Fm.stX (S:Fm N h0 B Γ Δ Hp) {i d n:Nat} {s σ:Stamp} {xs:List V} {cs:List C} (hi:Γ[i]?=some (d,s,cs)) (hf:(freeG (Γ.eraseIdx i) d&&freeD Δ d)=true) (e:∀ H,layCs true H xs=some (xs.map .v,H)) (hn:xs.length=n) (hc:cs.length=n) :
  ∃ H',stO true n σ Hp (.ref ⟨h0.length,d,0,s,[]⟩ 0) (.agg xs)=some H'∧Fm N h0 B (Γ.set i (d,s,xs.map .v)) Δ H':=by
 obtain ⟨H',e1,S1⟩:=S.stGw (σ:=σ) (j:=0) (n:=n) hi hf (e Hp) hn (by simp [hc])
 refine ⟨H',e1,?_⟩
 rw [List.take_zero,List.nil_append,Nat.zero_add,List.drop_of_length_le (by omega),List.append_nil] at S1
 exact S1
end
end Go.Ev
namespace Go.Ev
section
variable {α β γ δ:Type} {x:Option β} {Q:β→α→Prop} {K:δ→Option α}
theorem Sim.asT {A B:Option γ} {g:γ→Option δ} (s:Sim x (A.bind fun v=>(g v).bind K) Q):Sim x (((bif true then A else B).bind g).bind K) Q:=Sim.as s
theorem Sim.asF {A B:Option γ} {g:γ→Option δ} (s:Sim x (B.bind fun v=>(g v).bind K) Q):Sim x (((bif false then A else B).bind g).bind K) Q:=Sim.as s
end
end Go.Ev
namespace Go.Ev
set_option linter.unusedVariables false
structure zl where
 ID:Int
 Data:(List Int)
def zl.tp (x:zl):(Int×((List Int)×Unit)):=(x.ID,(x.Data,()))
def zj:Dt zl:=(dP (dI .i64) (dP (dSl (dI .u8)) dU)).via zl.tp
theorem zj.inv {x:zl} {vs:List V} (h:zj.R x vs):∃ v1,vs=[.p (.int .i64 x.ID),v1]∧SlF (dI .u8) x.Data v1:=by
 obtain ⟨u0,w0,e0,h0,u1,w1,e1,h1,hend⟩:=h
 obtain rfl:u0=[.p (.int .i64 x.ID)]:=h0
 obtain ⟨v1,rfl,s1⟩:=h1
 obtain rfl:=(show _=[] from hend)
 subst e1
 subst e0
 exact ⟨v1,rfl,s1⟩
theorem zj.mk {y_ID:Int} {y_Data:(List Int)} {v1:V} (s1:SlF (dI .u8) y_Data v1):zj.R (⟨y_ID,y_Data⟩:zl) [.p (.int .i64 y_ID),v1]:=⟨[.p (.int .i64 y_ID)],[v1],rfl,rfl,⟨[v1],[],rfl,⟨v1,rfl,s1⟩,rfl⟩⟩
structure TaiRtp where
 Marker:Bool
 f_Type:Int
 Seq:Int
 Time:Int
 Ssrc:Int
 Csrc:(List Int)
 Profile:Int
 Ext:(List Int)
 Payload:(List Int)
def TaiRtp.tp (x:TaiRtp):(Bool×(Int×(Int×(Int×(Int×((List Int)×(Int×((List Int)×((List Int)×Unit))))))))):=(x.Marker,(x.f_Type,(x.Seq,(x.Time,(x.Ssrc,(x.Csrc,(x.Profile,(x.Ext,(x.Payload,())))))))))
def z6:Dt TaiRtp:=(dP dB (dP (dI .i64) (dP (dI .u16) (dP (dI .u32) (dP (dI .u32) (dP (dSl (dI .u32)) (dP (dI .u16) (dP (dSl (dI .u8)) (dP (dSl (dI .u8)) dU))))))))).via TaiRtp.tp
theorem z6.inv {x:TaiRtp} {vs:List V} (h:z6.R x vs):∃ v5 v7 v8,vs=[.p (.bool x.Marker),.p (.int .i64 x.f_Type),.p (.int .u16 x.Seq),.p (.int .u32 x.Time),.p (.int .u32 x.Ssrc),v5,.p (.int .u16 x.Profile),v7,v8]∧SlF (dI .u32) x.Csrc v5∧SlF (dI .u8) x.Ext v7∧SlF (dI .u8) x.Payload v8:=by
 obtain ⟨u0,w0,e0,h0,u1,w1,e1,h1,u2,w2,e2,h2,u3,w3,e3,h3,u4,w4,e4,h4,u5,w5,e5,h5,u6,w6,e6,h6,u7,w7,e7,h7,u8,w8,e8,h8,hend⟩:=h
 obtain rfl:u0=[.p (.bool x.Marker)]:=h0
 obtain rfl:u1=[.p (.int .i64 x.f_Type)]:=h1
 obtain rfl:u2=[.p (.int .u16 x.Seq)]:=h2
 obtain rfl:u3=[.p (.int .u32 x.Time)]:=h3
 obtain rfl:u4=[.p (.int .u32 x.Ssrc)]:=h4
 obtain ⟨v5,rfl,s5⟩:=h5
 obtain rfl:u6=[.p (.int .u16 x.Profile)]:=h6
 obtain ⟨v7,rfl,s7⟩:=h7
 obtain ⟨v8,rfl,s8⟩:=h8
 obtain rfl:=(show _=[] from hend)
 subst e8
 subst e7
 subst e6
 subst e5
 subst e4
 subst e3
 subst e2
 subst e1
 subst e0
 exact ⟨v5,v7,v8,rfl,s5,s7,s8⟩
theorem z6.mk {y_Marker:Bool} {y_f_Type:Int} {y_Seq:Int} {y_Time:Int} {y_Ssrc:Int} {y_Csrc:(List Int)} {y_Profile:Int} {y_Ext:(List Int)} {y_Payload:(List Int)} {v5:V} {v7:V} {v8:V} (s5:SlF (dI .u32) y_Csrc v5) (s7:SlF (dI .u8) y_Ext v7) (s8:SlF (dI .u8) y_Payload v8):z6.R (⟨y_Marker,y_f_Type,y_Seq,y_Time,y_Ssrc,y_Csrc,y_Profile,y_Ext,y_Payload⟩:TaiRtp) [.p (.bool y_Marker),.p (.int .i64 y_f_Type),.p (.int .u16 y_Seq),.p (.int .u32 y_Time),.p (.int .u32 y_Ssrc),v5,.p (.int .u16 y_Profile),v7,v8]:=⟨[.p (.bool y_Marker)],[.p (.int .i64 y_f_Type),.p (.int .u16 y_Seq),.p (.int .u32 y_Time),.p (.int .u32 y_Ssrc),v5,.p (.int .u16 y_Profile),v7,v8],rfl,rfl,⟨[.p (.int .i64 y_f_Type)],[.p (.int .u16 y_Seq),.p (.int .u32 y_Time),.p (.int .u32 y_Ssrc),v5,.p (.int .u16 y_Profile),v7,v8],rfl,rfl,⟨[.p (.int .u16 y_Seq)],[.p (.int .u32 y_Time),.p (.int .u32 y_Ssrc),v5,.p (.int .u16 y_Profile),v7,v8],rfl,rfl,⟨[.p (.int .u32 y_Time)],[.p (.int .u32 y_Ssrc),v5,.p (.int .u16 y_Profile),v7,v8],rfl,rfl,⟨[.p (.int .u32 y_Ssrc)],[v5,.p (.int .u16 y_Profile),v7,v8],rfl,rfl,⟨[v5],[.p (.int .u16 y_Profile),v7,v8],rfl,⟨v5,rfl,s5⟩,⟨[.p (.int .u16 y_Profile)],[v7,v8],rfl,rfl,⟨[v7],[v8],rfl,⟨v7,rfl,s7⟩,⟨[v8],[],rfl,⟨v8,rfl,s8⟩,rfl⟩⟩⟩⟩⟩⟩⟩⟩⟩
structure z7 where
 Rid:ByteArray
 Ssrc:Int
 Height:Int
def z7.tp (x:z7):(ByteArray×(Int×(Int×Unit))):=(x.Rid,(x.Ssrc,(x.Height,())))
def z8:Dt z7:=(dP dS (dP (dI .u32) (dP (dI .i64) dU))).via z7.tp
theorem z8.inv {x:z7} {vs:List V} (h:z8.R x vs):vs=[.p (.string x.Rid),.p (.int .u32 x.Ssrc),.p (.int .i64 x.Height)]:=by
 obtain ⟨u0,w0,e0,h0,u1,w1,e1,h1,u2,w2,e2,h2,hend⟩:=h
 obtain rfl:u0=[.p (.string x.Rid)]:=h0
 obtain rfl:u1=[.p (.int .u32 x.Ssrc)]:=h1
 obtain rfl:u2=[.p (.int .i64 x.Height)]:=h2
 obtain rfl:=(show _=[] from hend)
 subst e2
 subst e1
 subst e0
 rfl
theorem z8.mk {y_Rid:ByteArray} {y_Ssrc:Int} {y_Height:Int} :z8.R (⟨y_Rid,y_Ssrc,y_Height⟩:z7) [.p (.string y_Rid),.p (.int .u32 y_Ssrc),.p (.int .i64 y_Height)]:=⟨[.p (.string y_Rid)],[.p (.int .u32 y_Ssrc),.p (.int .i64 y_Height)],rfl,rfl,⟨[.p (.int .u32 y_Ssrc)],[.p (.int .i64 y_Height)],rfl,rfl,⟨[.p (.int .i64 y_Height)],[],rfl,rfl,rfl⟩⟩⟩
structure z1e where
 first:Int
 last:Int
 count:Int
 mask:Int
def z1e.tp (x:z1e):(Int×(Int×(Int×(Int×Unit)))):=(x.first,(x.last,(x.count,(x.mask,()))))
structure z4 where
 slots:(List Int)
 last:Int
 total:Int
def z4.tp (x:z4):((List Int)×(Int×(Int×Unit))):=(x.slots,(x.last,(x.total,())))
structure zc where
 told:z7
 seen:z1e
 meter:z4
 came:Bool
 f_until:Int
 resting:Bool
 woken:Bool
 kept:Int
structure z5 where
 l:(List zc)
def z9:Ct zc:=⟨10,fun x cs=>∃ (se_3:Stamp),∃ (se_4:Stamp),cs=[.v (.p (.string x.told.Rid)),.v (.p (.int .u32 x.told.Ssrc)),.v (.p (.int .i64 x.told.Height)),.own se_3 (List.map C.v [(.p (.int .i64 x.seen.first)),(.p (.int .i64 x.seen.last)),(.p (.int .i64 x.seen.count)),(.p (.int .u64 x.seen.mask))]),.own se_4 (List.map C.v [(.p (.int .i64 ((x.meter.slots.getD 0 0)))),(.p (.int .i64 ((x.meter.slots.getD 1 0)))),(.p (.int .i64 ((x.meter.slots.getD 2 0)))),(.p (.int .i64 ((x.meter.slots.getD 3 0)))),(.p (.int .i64 ((x.meter.slots.getD 4 0)))),(.p (.int .i64 x.meter.last)),(.p (.int .i64 x.meter.total))]),.v (.p (.bool x.came)),.v (.p (.int .i64 x.f_until)),.v (.p (.bool x.resting)),.v (.p (.bool x.woken)),.v (.p (.int .i64 x.kept))],fun h=>by obtain ⟨se_3,se_4,h0⟩:=h;subst h0;rfl⟩
end Go.Ev
namespace Go.RidX
open Go.Ev (runes z4u z5k z4b z2q itAt z5m z5q V)
open Go.Proofs Go.Proofs.Ytigkdihkmihmmaa
open Go.RowKit (Below wrap64 Hid)
set_option maxRecDepth 1000000
set_option maxHeartbeats 2000000
set_option linter.unusedSimpArgs false
set_option linter.unusedVariables false
def isRid (r:Int):Bool:=(decide (r≥97)&&decide (r≤122))||(decide (r≥65)&&decide (r≤90))||(decide (r≥48)&&decide (r≤57))||(r==45)||(r==95)
theorem zev (n:Int):wrap64 (wrap64 n+1)=wrap64 (n+1):=by
 simp only [wrap64]
 omega
def rightB (s:ByteArray):Bool:=(runes s 0).all isRid&&(decide (1≤wrap64 (runes s 0).length)&&decide (wrap64 (runes s 0).length≤8))
def countN (s:ByteArray):Int:=wrap64 (runes s 0).length
theorem zl7 (c:Int) (w:World):Calls Try.prog 103 #[.int .i32 c] w fun e w'=>e=.returned (.bool (isRid c))∧w'=w:=by
 go_enter Try.func103,Try.ntmps103
 go_wp2
 all_goals
  go_ret
  refine ⟨?_,rfl⟩
  simp only [Ending.returned.injEq,Value.bool.injEq,isRid]
  simp [*]
  try grind
theorem rid_Right (s:ByteArray) (w:World):Calls Try.prog 64 #[.string s] w fun e w'=>e=.returned (.bool (rightB s))∧Below w.heap.size w w':=by
 go_enter Try.func64,Try.ntmps64
 go_wp2
 go_loopw [3] (fun n wr=>∃ (pos:Nat) (pre:List Int) (c:Int),wr.heap[w.heap.size]?=some (.stringIter s pos)∧Below w.heap.size w wr∧n=.int .i64 c∧c=wrap64 (pre.length:Int)∧pre.all isRid=true∧runes s 0=pre++runes s pos) (fun _ wr=>s.size-wr.iterPos w.heap.size)
 case atStart=>exact ⟨0,[],0,by simp [World.iter_heap],(Below.refl _ w).alloc (Nat.le_refl _) _,rfl,by simp [wrap64],rfl,rfl⟩
 case round =>
  obtain ⟨pos,pre,c,hk,hb,rfl,hc,hall,hrs⟩:=hrel
  by_cases hp:pos<s.size
  ·have hnx:∀ ty,(Instr.next (.pointer (some ⟨w.heap.size,0,none⟩)) true ty).run Try.prog wr=_:=fun ty=>z4b hk ty hp
   have hk1:=z5m (pos:=pos+(Utf8.decode s pos).2) hk
   have hb1:Below w.heap.size w (itAt wr w.heap.size s (pos+(Utf8.decode s pos).2)):=hb.trans (Go.Ev.Below.setIter (Nat.le_refl _))
   have hwd:=z5q s pos hp
   have hmu:wr.iterPos w.heap.size=pos:=by simp [World.iterPos,hk]
   have hmu2:(itAt wr w.heap.size s (pos+(Utf8.decode s pos).2)).iterPos w.heap.size=pos+(Utf8.decode s pos).2:=by simp [World.iterPos,hk1]
   rw [z4u hp] at hrs
   have k1:∀ {b:Bool},isRid ↑(Utf8.decode s pos).fst=b→b=false→(runes s 0).all isRid=false:=fun e1 e2=>by
    rw [hrs,List.all_append,List.all_cons,e1,e2]
    simp
   have k2:∀ {b:Bool},isRid ↑(Utf8.decode s pos).fst=b→b=true→(pre++[((Utf8.decode s pos).1:Int)]).all isRid=true:=fun e1 e2=>by
    rw [List.all_append,List.all_cons,e1,e2,hall]
    rfl
   have k3:Hid (wrap64 (c+1)=wrap64 ((pre++[((Utf8.decode s pos).1:Int)]).length:Int)):=by
    unfold Hid
    rw [hc,zev,List.length_append];rfl
   have k4:Hid (runes s 0=(pre++[((Utf8.decode s pos).1:Int)])++runes s (pos+(Utf8.decode s pos).2)):=by unfold Hid;rw [hrs];simp
   clear hrs hall hc
   go_wp2_with (go_at_call 103;refine (zl7 _ _).mono ?_;rintro e W2 ⟨rfl,rfl⟩)
   ·rename_i hone
    have k5:rightB s=false:=by unfold rightB;rw [k1 rfl (by simpa using hone)];rfl
    clear hone k1 k2 k3 k4
    go_ret
    rw [k5]
    exact ⟨rfl,hb1⟩
   ·rename_i hone
    have k5:=k2 rfl (by simpa using hone)
    clear hone k1 k2
    go_roundw
    case rel=>exact ⟨_,pre++[((Utf8.decode s pos).1:Int)],_,hk1,hb1,rfl,k3.out,k5,k4.out⟩
    case measure =>
     rw [hmu,hmu2]
     omega
  ·have hnx:∀ ty,(Instr.next (.pointer (some ⟨w.heap.size,0,none⟩)) true ty).run Try.prog wr=_:=fun ty=>z2q hk ty hp
   rw [z5k hp,List.append_nil] at hrs
   have k1:∀ {b:Bool},decide (c≤8)=b→1≤c→rightB s=b:=fun e1 e2=>by
    unfold rightB
    rw [hrs,hall,← hc,e1];simp [e2]
   have k2:c<1→rightB s=false:=fun e2=>by
    unfold rightB
    rw [hrs,hall,← hc];simp;omega
   clear hrs hall hc
   go_wp2
   ·rename_i h1
    have k5:=k1 rfl h1
    go_ret
    rw [k5]
    exact ⟨rfl,hb⟩
   ·rename_i h1
    have k5:=k2 (by omega)
    go_ret
    exact ⟨rfl,hb⟩
theorem ref_Count (s:ByteArray) (w:World):Calls Try.prog 105 #[.string s] w fun e w'=>e=.returned (.int .i64 (countN s))∧Below w.heap.size w w':=by
 go_enter Try.func105,Try.ntmps105
 go_wp2
 go_loopw [3] (fun n wr=>∃ (pos:Nat) (pre:List Int) (c:Int),wr.heap[w.heap.size]?=some (.stringIter s pos)∧Below w.heap.size w wr∧n=.int .i64 c∧c=wrap64 (pre.length:Int)∧runes s 0=pre++runes s pos) (fun _ wr=>s.size-wr.iterPos w.heap.size)
 case atStart=>exact ⟨0,[],0,by simp [World.iter_heap],(Below.refl _ w).alloc (Nat.le_refl _) _,rfl,by simp [wrap64],rfl⟩
 case round =>
  obtain ⟨pos,pre,c,hk,hb,rfl,hc,hrs⟩:=hrel
  by_cases hp:pos<s.size
  ·have hnx:∀ ty,(Instr.next (.pointer (some ⟨w.heap.size,0,none⟩)) true ty).run Try.prog wr=_:=fun ty=>z4b hk ty hp
   have hk1:=z5m (pos:=pos+(Utf8.decode s pos).2) hk
   have hb1:Below w.heap.size w (itAt wr w.heap.size s (pos+(Utf8.decode s pos).2)):=hb.trans (Go.Ev.Below.setIter (Nat.le_refl _))
   have hwd:=z5q s pos hp
   have hmu:wr.iterPos w.heap.size=pos:=by simp [World.iterPos,hk]
   have hmu2:(itAt wr w.heap.size s (pos+(Utf8.decode s pos).2)).iterPos w.heap.size=pos+(Utf8.decode s pos).2:=by simp [World.iterPos,hk1]
   rw [z4u hp] at hrs
   have k3:Hid (wrap64 (c+1)=wrap64 ((pre++[((Utf8.decode s pos).1:Int)]).length:Int)):=by
    unfold Hid
    rw [hc,zev,List.length_append];rfl
   have k4:Hid (runes s 0=(pre++[((Utf8.decode s pos).1:Int)])++runes s (pos+(Utf8.decode s pos).2)):=by unfold Hid;rw [hrs];simp
   clear hrs hc
   go_wp2
   go_roundw
   case rel=>exact ⟨_,pre++[((Utf8.decode s pos).1:Int)],_,hk1,hb1,rfl,k3.out,k4.out⟩
   case measure =>
    rw [hmu,hmu2]
    omega
  ·have hnx:∀ ty,(Instr.next (.pointer (some ⟨w.heap.size,0,none⟩)) true ty).run Try.prog wr=_:=fun ty=>z2q hk ty hp
   rw [z5k hp,List.append_nil] at hrs
   have k1:Hid (countN s=c):=by unfold Hid countN;rw [hrs,hc]
   clear hrs hc
   go_wp2
   go_ret
   rw [k1.out]
   exact ⟨rfl,hb⟩
theorem zjc (s:ByteArray) (w:World) {n:Int} (hn:countN s=n):Calls Try.prog 105 #[.string s] w fun e w'=>e=.returned (.int .i64 n)∧Below w.heap.size w w':=by
 subst hn;exact ref_Count s w
theorem zin (c:Int) (w:World):Calls Try.prog 104 #[.int .i32 c] w fun e w'=>e=.returned (.bool (isRid c))∧w'=w:=by
 go_enter Try.func104,Try.ntmps104
 go_wp2
 all_goals
  go_ret
  refine ⟨?_,rfl⟩
  simp only [Ending.returned.injEq,Value.bool.injEq,isRid]
  simp [*]
  try grind
theorem ref_Rid (s:ByteArray) (w:World):Calls Try.prog 65 #[.string s] w fun e w'=>e=.returned (.bool (rightB s))∧Below w.heap.size w w':=by
 go_enter Try.func65,Try.ntmps65
 go_wp2
 go_loopw [] (fun  wr=>∃ (pos:Nat) (pre:List Int),wr.heap[w.heap.size]?=some (.stringIter s pos)∧Below w.heap.size w wr∧pre.all isRid=true∧runes s 0=pre++runes s pos) (fun  wr=>s.size-wr.iterPos w.heap.size)
 case atStart=>exact ⟨0,[],by simp [World.iter_heap],(Below.refl _ w).alloc (Nat.le_refl _) _,rfl,rfl⟩
 case round =>
  obtain ⟨pos,pre,hk,hb,hall,hrs⟩:=hrel
  by_cases hp:pos<s.size
  ·have hnx:∀ ty,(Instr.next (.pointer (some ⟨w.heap.size,0,none⟩)) true ty).run Try.prog wr=_:=fun ty=>z4b hk ty hp
   have hk1:=z5m (pos:=pos+(Utf8.decode s pos).2) hk
   have hb1:Below w.heap.size w (itAt wr w.heap.size s (pos+(Utf8.decode s pos).2)):=hb.trans (Go.Ev.Below.setIter (Nat.le_refl _))
   have hwd:=z5q s pos hp
   have hmu:wr.iterPos w.heap.size=pos:=by simp [World.iterPos,hk]
   have hmu2:(itAt wr w.heap.size s (pos+(Utf8.decode s pos).2)).iterPos w.heap.size=pos+(Utf8.decode s pos).2:=by simp [World.iterPos,hk1]
   rw [z4u hp] at hrs
   have k1:∀ {b:Bool},isRid ↑(Utf8.decode s pos).fst=b→b=false→(runes s 0).all isRid=false:=fun e1 e2=>by
    rw [hrs,List.all_append,List.all_cons,e1,e2]
    simp
   have k2:∀ {b:Bool},isRid ↑(Utf8.decode s pos).fst=b→b=true→(pre++[((Utf8.decode s pos).1:Int)]).all isRid=true:=fun e1 e2=>by
    rw [List.all_append,List.all_cons,e1,e2,hall]
    rfl
   have k4:Hid (runes s 0=(pre++[((Utf8.decode s pos).1:Int)])++runes s (pos+(Utf8.decode s pos).2)):=by unfold Hid;rw [hrs];simp
   clear hrs hall
   go_wp2_with (go_at_call 104;refine (zin _ _).mono ?_;rintro e W2 ⟨rfl,rfl⟩)
   ·rename_i hone
    have k5:rightB s=false:=by unfold rightB;rw [k1 rfl (by simpa using hone)];rfl
    clear hone k1 k2 k4
    go_ret
    rw [k5]
    exact ⟨rfl,hb1⟩
   ·rename_i hone
    have k5:=k2 rfl (by simpa using hone)
    clear hone k1 k2
    go_roundw
    case rel=>exact ⟨_,pre++[((Utf8.decode s pos).1:Int)],hk1,hb1,k5,k4.out⟩
    case measure =>
     rw [hmu,hmu2]
     omega
  ·have hnx:∀ ty,(Instr.next (.pointer (some ⟨w.heap.size,0,none⟩)) true ty).run Try.prog wr=_:=fun ty=>z2q hk ty hp
   rw [z5k hp,List.append_nil] at hrs
   obtain ⟨n,hn⟩:∃ n,countN s=n:=⟨_,rfl⟩
   have k1:∀ {b:Bool},decide (n≤8)=b→1≤n→rightB s=b:=fun e1 e2=>by
    unfold rightB
    rw [hrs,hall,← hrs,show wrap64 ((runes s 0).length:Int)=n from hn,e1];simp [e2]
   have k2:n<1→rightB s=false:=fun e2=>by
    unfold rightB
    rw [hrs,hall,← hrs,show wrap64 ((runes s 0).length:Int)=n from hn];simp;omega
   have hn':Hid (countN s=n):=hn
   clear hrs hall hn
   go_wp2_with (go_at_call 105;refine (zjc _ _ hn'.out).mono ?_;rintro e W2 ⟨rfl,hB⟩)
   ·rename_i hB0 h1
    have k5:=k1 rfl h1
    go_ret
    rw [k5]
    exact ⟨rfl,hb.trans ((hB0.mono hb.size).trans (hB.mono (Nat.le_trans hb.size hB0.size)))⟩
   ·rename_i h1
    have k5:=k2 (by omega)
    go_ret
    exact ⟨rfl,hb.trans (hB.mono hb.size)⟩
def lowR (r:Int):Int:=if 65≤r∧r≤90 then r+32 else r
def foldS (l:List Int):ByteArray:=l.foldl (fun a r=>a++Utf8.encode (lowR r)) ByteArray.empty
theorem zjd (l:List Int) (r:Int):foldS (l++[r])=foldS l++Utf8.encode (lowR r):=by simp [foldS]
theorem enc_le (r:Int):(Utf8.encode r).size≤4:=by
 simp only [Utf8.encode]
 generalize (if Utf8.valid r=true then r.toNat else Utf8.runeError)=c
 split
 ·simp [ByteArray.size]
 ·split
  ·simp [ByteArray.size]
  ·split<;>simp [ByteArray.size]
theorem zif (s:ByteArray) (pos:Nat):(Utf8.decode s pos).2≤4:=by
 simp only [Utf8.decode]
 repeat' split
 all_goals simp
def foldB (s:ByteArray):ByteArray:=foldS (runes s 0)
theorem ref_Fold (s:ByteArray) (hs:s.size<2^40) (w:World):Calls Try.prog 119 #[.string s] w fun e w'=>e=.returned (.string (foldB s))∧Below w.heap.size w w':=by
 go_enter Try.func119,Try.ntmps119
 go_wp2
 go_loopw [3] (fun n wr=>∃ (pos:Nat) (pre:List Int) (c:ByteArray),wr.heap[w.heap.size]?=some (.stringIter s pos)∧Below w.heap.size w wr∧n=.string c∧c=foldS pre∧c.size≤4*pre.length∧pre.length≤pos∧pos≤s.size+3∧runes s 0=pre++runes s pos) (fun _ wr=>s.size-wr.iterPos w.heap.size)
 case atStart=>exact ⟨0,[],ByteArray.empty,by simp [World.iter_heap],(Below.refl _ w).alloc (Nat.le_refl _) _,rfl,rfl,by simp,by simp,by simp,rfl⟩
 case round =>
  obtain ⟨pos,pre,c,hk,hb,rfl,hc,hsz,hpl,hps,hrs⟩:=hrel
  by_cases hp:pos<s.size
  ·have hnx:∀ ty,(Instr.next (.pointer (some ⟨w.heap.size,0,none⟩)) true ty).run Try.prog wr=_:=fun ty=>z4b hk ty hp
   have hk1:=z5m (pos:=pos+(Utf8.decode s pos).2) hk
   have hb1:Below w.heap.size w (itAt wr w.heap.size s (pos+(Utf8.decode s pos).2)):=hb.trans (Go.Ev.Below.setIter (Nat.le_refl _))
   have hwd:=z5q s pos hp
   have hmu:wr.iterPos w.heap.size=pos:=by simp [World.iterPos,hk]
   have hmu2:(itAt wr w.heap.size s (pos+(Utf8.decode s pos).2)).iterPos w.heap.size=pos+(Utf8.decode s pos).2:=by simp [World.iterPos,hk1]
   rw [z4u hp] at hrs
   have hw4:=zif s pos
   obtain ⟨r,hr⟩:∃ r:Int,r=((Utf8.decode s pos).1:Int):=⟨_,rfl⟩
   rw [← hr] at hnx hrs
   have k4:Hid (runes s 0=(pre++[r])++runes s (pos+(Utf8.decode s pos).2)):=by unfold Hid;rw [hrs];simp
   have k5:∀ {x:Int},9223372036854775807<c.size+(Utf8.encode x).size→False:=fun {x} h=>by
    have:=enc_le x;omega
   have k7:∀ {x:Int},x=lowR r→Hid (c++Utf8.encode x=foldS (pre++[r])∧(c++Utf8.encode x).size≤4*(pre++[r]).length):=fun {x} e=>by
    have:=enc_le x
    refine ⟨by rw [zjd,← hc,e],?_⟩
    rw [ByteArray.size_append,List.length_append]
    simp only [List.length_cons,List.length_nil]
    omega
   have k8:(pre++[r]).length≤pos+(Utf8.decode s pos).2:=by rw [List.length_append];simp only [List.length_cons,List.length_nil];omega
   have k9:pos+(Utf8.decode s pos).2≤s.size+3:=by omega
   clear hrs hc hr
   go_wp2
   ·exact (k5 (by assumption)).elim
   ·have k6:=k7 (x:=r-65+97) (by unfold lowR;rw [if_pos ⟨by assumption,by assumption⟩];omega)
    go_roundw
    case rel=>exact ⟨_,pre++[r],_,hk1,hb1,rfl,k6.out.1,k6.out.2,k8,k9,k4.out⟩
    case measure =>
     rw [hmu,hmu2]
     omega
   ·exact (k5 (by assumption)).elim
   ·rename_i h1 h2 _
    have k6:=k7 (x:=r) (by unfold lowR;rw [if_neg (by omega)])
    go_roundw
    case rel=>exact ⟨_,pre++[r],_,hk1,hb1,rfl,k6.out.1,k6.out.2,k8,k9,k4.out⟩
    case measure =>
     rw [hmu,hmu2]
     omega
   ·exact (k5 (by assumption)).elim
   ·rename_i h1 _
    have k6:=k7 (x:=r) (by unfold lowR;rw [if_neg (by omega)])
    go_roundw
    case rel=>exact ⟨_,pre++[r],_,hk1,hb1,rfl,k6.out.1,k6.out.2,k8,k9,k4.out⟩
    case measure =>
     rw [hmu,hmu2]
     omega
  ·have hnx:∀ ty,(Instr.next (.pointer (some ⟨w.heap.size,0,none⟩)) true ty).run Try.prog wr=_:=fun ty=>z2q hk ty hp
   rw [z5k hp,List.append_nil] at hrs
   have k1:Hid (foldB s=c):=by unfold Hid foldB;rw [hrs,hc]
   clear hrs hc
   go_wp2
   go_ret
   rw [k1.out]
   exact ⟨rfl,hb⟩
theorem app1 {P:Program} {ops:Array Oper} {rest:List Oper} {o:Oper} {a:Act} {Q:Exit→Act→World→Prop} {w1:World} (hgd:o.guard=none) (s x:Operand) (t:TypeId)
  (ho:o.op=.call { callee:=.builtin .append,args:=#[s,x],argTypes:=#[t,t] }) (base:Nat) (e:TypeId) (i:TypeInfo) (ht:P.underlying t=some (.slice e)) (hi:P.info? e=some i) (hz:i.zero=some (.int .i32 0))
  (hsize:i.size=1) (hby:i.bytes=4) {v:Value} (n:Nat) (xs:List Value) (hs:a.eval s=v) (hown:w1.ownsRow base e 1 v n xs) {r:Int} {e':TypeId}
  (hx:a.eval x=.slice (some ⟨w1.heap.size,0,none⟩) 1 1) (hn:n<2^44) (hbase:base≤w1.heap.size)
  (h:∀ v' w',w'.ownsRow base e 1 v' (n+1) (xs++[.int .i32 r])→(w1.alloc (.cells #[.int .i32 r] e')).grownBy w' v.ownBlock→wpList P ops Q rest (a.put o.dst v') w'):wpList P ops Q (o::rest) a (w1.alloc (.cells #[.int .i32 r] e')):=by
 refine wpList_append_own _ hgd s x t ho base e i (.int .i32 0) 1 4 ht hi hz hsize hby rfl (by decide) v n xs hs (hown.alloc _) ⟨w1.heap.size,0,none⟩ 1 1 [.int .i32 r] hx rfl ?_ ?_ (by unfold maxLen;omega) (by omega) ?_ fun v' w' h1 h2 _=>h v' w' h1 h2
 ·intro j u hj;match j,hj with | 0,hj=>simp at hj;subst hj;simp [Addr.add]
 ·intro u hu;simp at hu;subst hu;rfl
 ·exact Nat.le_trans hbase (by show _≤(w1.heap.push _).size;rw [Array.size_push];omega)
theorem zir {w:World} {base e k:Nat} {v:Value} {n:Nat} {xs:List Value} {s:ByteArray} {pos:Nat} (h:w.ownsRow base e 1 v n xs) (hk:k<base):(itAt w k s pos).ownsRow base e 1 v n xs:=by
 obtain ⟨h1,h2 | ⟨g,cap,cur,h2,h3,h4,h5⟩⟩:=h
 ·exact ⟨h1,.inl h2⟩
 ·refine ⟨h1,.inr ⟨g,cap,cur,h2,h3,?_,h5⟩⟩
  simp only [itAt]
  rw [Array.getElem?_setIfInBounds_ne (by omega)];exact h4
theorem zjs {P:Program} {w:World} {base e src dst:Nat} {v:Value} {n:Nat} {ns:List Int} (h:w.ownsRow base e 1 v n (ns.map (Value.int .i32))) (hs:P.underlying src=some (.slice e)) (he:P.underlying e=some (.int .i32)) (hd:P.underlying dst=some .string) :
  (convert src dst v).run P w=.ok (.string (runesBytes ns)) w:=by
 have h0:=h
 obtain ⟨h1,⟨rfl,rfl⟩ | ⟨g,cap,cur,rfl,h3,h4,h5,h6,h7,h8⟩⟩:=h
 ·have:ns=[]:=by simpa using h1
  subst this
  exact run_convert_runes_nil w src dst e 0 0 hs he hd
 ·have hl:n=ns.length:=by simpa using h1.symm
  subst hl
  have:=run_convert_runes (P:=P) w src dst e ⟨g,0,none⟩ ns.length cap ns (Nat.le_refl _) hs he hd (fun j hj=>h0.cells (g:=g) rfl j _ (by simp [List.getD,List.getElem?_eq_getElem hj]))
  rw [List.take_of_length_le (Nat.le_refl _)] at this
  exact this
theorem zhl (l:List Int):runesBytes (l.map lowR)=foldS l:=by
 unfold runesBytes foldS;rw [List.foldl_map]
theorem zb4 {w W1 w':World} {s:ByteArray} {pos e:Nat} {v:Value} {n:Nat} {xs:List Value} {o:Obj} (hk1:W1.heap[w.heap.size]?=some (.stringIter s pos)) (hb1:Below w.heap.size w W1) (how1:W1.ownsRow (w.heap.size+1) e 1 v n xs)
  (hg:(W1.alloc o).grownBy w' v.ownBlock):w'.heap[w.heap.size]?=some (.stringIter s pos)∧Below w.heap.size w w':=by
 have hlt:=(Array.getElem?_eq_some_iff.1 hk1).1
 have hsz:(W1.alloc o).heap.size=W1.heap.size+1:=by show (W1.heap.push o).size=_;simp
 refine ⟨?_,(hb1.alloc hb1.size o).grown hg (by have:=hb1.size;omega) fun k hk=>?_⟩
 ·rw [hg.block _ (by omega) (fun e=>by have:=(how1.lt _ e.symm).1;omega),Below.heap_alloc _ _ _ hlt]
  exact hk1
 ·have:=(how1.lt _ hk).1;omega
theorem zcg (pre:List Int) (r x:Int) (h:x=lowR r):(pre.map lowR).map (Value.int .i32)++[Value.int .i32 x]=((pre++[r]).map lowR).map (Value.int .i32):=by
 subst h;simp
theorem rid_Fold (s:ByteArray) (hs:s.size<2^40) (w:World):Calls Try.prog 109 #[.string s] w fun e w'=>e=.returned (.string (foldB s))∧Below w.heap.size w w':=by
 obtain ⟨i0,hi,hz0,hz1,hz2⟩:=info_parts (show (Try.prog.info? 21).map (fun i=>(i.zero,i.size,i.bytes))=some (some (.int .i32 0),1,4) from by kernel_rfl)
 go_enter Try.func109,Try.ntmps109
 go_wp2
 go_loopw [3] (fun v wr=>∃ (pos:Nat) (pre:List Int),wr.heap[w.heap.size]?=some (.stringIter s pos)∧Below w.heap.size w wr∧wr.ownsRow (w.heap.size+1) 21 1 v pre.length ((pre.map lowR).map (Value.int .i32))∧pre.length≤pos∧pos≤s.size+3∧runes s 0=pre++runes s pos) (fun _ wr=>s.size-wr.iterPos w.heap.size)
 case atStart=>exact ⟨0,[],by simp [World.iter_heap],(Below.refl _ w).alloc (Nat.le_refl _) _,World.ownsRow_nil ..,by simp,by simp,rfl⟩
 case round =>
  obtain ⟨pos,pre,hk,hb,how,hpl,hps,hrs⟩:=hrel
  by_cases hp:pos<s.size
  ·have hnx:∀ ty,(Instr.next (.pointer (some ⟨w.heap.size,0,none⟩)) true ty).run Try.prog wr=_:=fun ty=>z4b hk ty hp
   have hk1:=z5m (pos:=pos+(Utf8.decode s pos).2) hk
   have hb1:Below w.heap.size w (itAt wr w.heap.size s (pos+(Utf8.decode s pos).2)):=hb.trans (Go.Ev.Below.setIter (Nat.le_refl _))
   have how1:=zir (s:=s) (pos:=pos+(Utf8.decode s pos).2) how (Nat.lt_succ_self _)
   have hwd:=z5q s pos hp
   have hmu:wr.iterPos w.heap.size=pos:=by simp [World.iterPos,hk]
   rw [z4u hp] at hrs
   have hw4:=zif s pos
   obtain ⟨r,hr⟩:∃ r:Int,r=((Utf8.decode s pos).1:Int):=⟨_,rfl⟩
   rw [← hr] at hnx hrs
   have k4:Hid (runes s 0=(pre++[r])++runes s (pos+(Utf8.decode s pos).2)):=by unfold Hid;rw [hrs];simp
   have k8:(pre++[r]).length≤pos+(Utf8.decode s pos).2:=by rw [List.length_append];simp only [List.length_cons,List.length_nil];omega
   have k9:pos+(Utf8.decode s pos).2≤s.size+3:=by omega
   have hn44:pre.length<2^44:=by omega
   have hW1:w.heap.size+1≤(itAt wr w.heap.size s (pos+(Utf8.decode s pos).2)).heap.size:=(Array.getElem?_eq_some_iff.1 hk1).1
   clear hrs hr how hk hb
   generalize itAt wr w.heap.size s (pos+(Utf8.decode s pos).2)=W1 at hnx hk1 hb1 how1 hW1
   go_wp2_with (first | (at_builtin;refine app1 rfl (.tmp 19) (.tmp 21) 176 rfl (w.heap.size+1) 21 i0 Try.underlying176 hi hz0 hz1 hz2 pre.length _ rfl how1 rfl hn44 hW1 ?_) | go_in)
   ·have e1:r+32=lowR r:=by unfold lowR;rw [if_pos ⟨by assumption,by assumption⟩]
    intro v' w' hown hgrow
    obtain ⟨hk2,hb2⟩:=zb4 hk1 hb1 how1 hgrow
    have hmu3:w'.iterPos w.heap.size=pos+(Utf8.decode s pos).2:=by simp [World.iterPos,hk2]
    have hown2:w'.ownsRow (w.heap.size+1) 21 1 v' (pre++[r]).length (((pre++[r]).map lowR).map (Value.int .i32)):=by
     rw [← zcg pre r _ e1,List.length_append]
     simpa using hown
    clear hown hgrow hk1 hb1 how1 e1
    go_wp2
    go_roundw
    case rel=>exact ⟨_,pre++[r],hk2,hb2,hown2,k8,k9,k4.out⟩
    case measure =>
     rw [hmu,hmu3]
     omega
   ·rename_i h1 h2
    have e1:r=lowR r:=by unfold lowR;rw [if_neg (by omega)]
    intro v' w' hown hgrow
    obtain ⟨hk2,hb2⟩:=zb4 hk1 hb1 how1 hgrow
    have hmu3:w'.iterPos w.heap.size=pos+(Utf8.decode s pos).2:=by simp [World.iterPos,hk2]
    have hown2:w'.ownsRow (w.heap.size+1) 21 1 v' (pre++[r]).length (((pre++[r]).map lowR).map (Value.int .i32)):=by
     rw [← zcg pre r _ e1,List.length_append]
     simpa using hown
    clear hown hgrow hk1 hb1 how1 e1
    go_wp2
    go_roundw
    case rel=>exact ⟨_,pre++[r],hk2,hb2,hown2,k8,k9,k4.out⟩
    case measure =>
     rw [hmu,hmu3]
     omega
   ·rename_i h1
    have e1:r=lowR r:=by unfold lowR;rw [if_neg (by omega)]
    intro v' w' hown hgrow
    obtain ⟨hk2,hb2⟩:=zb4 hk1 hb1 how1 hgrow
    have hmu3:w'.iterPos w.heap.size=pos+(Utf8.decode s pos).2:=by simp [World.iterPos,hk2]
    have hown2:w'.ownsRow (w.heap.size+1) 21 1 v' (pre++[r]).length (((pre++[r]).map lowR).map (Value.int .i32)):=by
     rw [← zcg pre r _ e1,List.length_append]
     simpa using hown
    clear hown hgrow hk1 hb1 how1 e1
    go_wp2
    go_roundw
    case rel=>exact ⟨_,pre++[r],hk2,hb2,hown2,k8,k9,k4.out⟩
    case measure =>
     rw [hmu,hmu3]
     omega
  ·have hnx:∀ ty,(Instr.next (.pointer (some ⟨w.heap.size,0,none⟩)) true ty).run Try.prog wr=_:=fun ty=>z2q hk ty hp
   rw [z5k hp,List.append_nil] at hrs
   have hcv:=zjs (P:=Try.prog) (src:=176) (dst:=9) how Try.underlying176 Try.underlying21 Try.underlying9
   rw [zhl,← hrs,show foldS (runes s 0)=foldB s from rfl] at hcv
   clear hrs how
   go_wp2
   go_ret
   exact ⟨rfl,hb⟩
end Go.RidX
namespace Go.Ev
open Go.Proofs
def ownT:TypeId→Bool:=fun t=>[26,52,130,161].contains t
def frzF:FuncId→Bool:=fun f=>[18,22,23,25,53,55,59,90,91,37].contains f
def frzIn:FuncId→Bool:=fun f=>[29,35,69,91].contains f
def frzMk:TypeId→Bool:=fun t=>[].contains t
noncomputable def G:Cfg:=⟨Try.prog,ownT,frzF,frzIn,frzMk⟩
noncomputable def XT (f:FuncId) (args:List V):Option Value :=
 if f=64 then (match args with | [.p (.string s)]=>some (.bool (RidX.rightB s)) | _=>none) else
 if f=105 then (match args with | [.p (.string s)]=>some (.int .i64 (RidX.countN s)) | _=>none) else
 if f=65 then (match args with | [.p (.string s)]=>some (.bool (RidX.rightB s)) | _=>none) else
 if f=119 then (match args with | [.p (.string s)]=>if s.size<2^40 then some (.string (RidX.foldB s)) else none | _=>none) else
 if f=109 then (match args with | [.p (.string s)]=>if s.size<2^40 then some (.string (RidX.foldB s)) else none | _=>none) else
 none
noncomputable def X0:CallF:=plainX XT
theorem x_ok (B:Nat):CallOk G B X0:=zjo (fun f args v h=>by
 unfold XT at h
 split at h
 ·rename_i hf;subst hf
  split at h
  ·rename_i s;cases h
   exact ⟨[.string s],rfl,⟨Try.f64,Try.func64,by kernel_rfl,by kernel_rfl⟩,fun w=>RidX.rid_Right s w⟩
  ·cases h
 split at h
 ·rename_i hf;subst hf
  split at h
  ·rename_i s;cases h
   exact ⟨[.string s],rfl,⟨Try.f105,Try.func105,by kernel_rfl,by kernel_rfl⟩,fun w=>RidX.ref_Count s w⟩
  ·cases h
 split at h
 ·rename_i hf;subst hf
  split at h
  ·rename_i s;cases h
   exact ⟨[.string s],rfl,⟨Try.f65,Try.func65,by kernel_rfl,by kernel_rfl⟩,fun w=>RidX.ref_Rid s w⟩
  ·cases h
 split at h
 ·rename_i hf;subst hf
  split at h
  ·rename_i s;split at h
   ·rename_i hs;cases h
    exact ⟨[.string s],rfl,⟨Try.f119,Try.func119,by kernel_rfl,by kernel_rfl⟩,fun w=>RidX.ref_Fold s hs w⟩
   ·cases h
  ·cases h
 split at h
 ·rename_i hf;subst hf
  split at h
  ·rename_i s;split at h
   ·rename_i hs;cases h
    exact ⟨[.string s],rfl,⟨Try.f109,Try.func109,by kernel_rfl,by kernel_rfl⟩,fun w=>RidX.rid_Fold s hs w⟩
   ·cases h
  ·cases h
 cases h) B
theorem mixed:G.P.follows .mixedOrders=true:=by kernel_rfl
end Go.Ev
namespace Go.Ev
open Go.Proofs
set_option linter.unusedVariables false
set_option linter.unusedSimpArgs false
set_option maxRecDepth 100000
noncomputable section
abbrev KT1:=Exit→Env→H→Option (List C × H)
variable (rec : CallF) (loop : LoopV) (σ : Stamp)
theorem zdf (x0:V) (x1:Int) (x2:Int) (x3:Bool) (x4:Int) (h:H):cvBody G rec loop 41 σ [x0,(.p (.int .u16 x1)),(.p (.int .u32 x2)),(.p (.bool x3)),(.p (.int .i64 x4))] h =
(boxO false (0::0::0::σ) 5 (List.replicate 45 []::h) x0).bind fun q1 =>
need (∃ z,tzero Try.prog 52=some z∧slotOf (alO [.p (.bool false),.p (.int .i64 0),.p (.int .u16 0),.p (.int .u32 0),.p (.int .u32 0),.p (.slice none 0 0),.p (.int .u16 0),.p (.slice none 0 0),.p (.slice none 0 0)] (7::0::1::0::σ) 11 q1.2).2 11=some [.own (7::0::1::0::σ) (z.map .v)]) (
(fA q1.1 1).bind fun t2 =>
(ldO false 1 (alO [.p (.bool false),.p (.int .i64 0),.p (.int .u16 0),.p (.int .u32 0),.p (.int .u32 0),.p (.slice none 0 0),.p (.int .u16 0),.p (.slice none 0 0),.p (.slice none 0 0)] (7::0::1::0::σ) 11 q1.2).2 t2).bind fun t3 =>
(castI .u32 t3).bind fun n4 =>
(mkO 1 1 [.p (.int .u8 0)] (5::0::1::0::σ) 19 (alO [.p (.bool false),.p (.int .i64 0),.p (.int .u16 0),.p (.int .u32 0),.p (.int .u32 0),.p (.slice none 0 0),.p (.int .u16 0),.p (.slice none 0 0),.p (.slice none 0 0)] (7::0::1::0::σ) 11 q1.2).2 x4 x4).bind fun q5 =>
need (ldO false 1 q5.2 t2=some (.p (.int .u32 n4))) (
need (∃ z,tzero Try.prog 52=some z∧slotOf q5.2 11=some [.own (7::0::1::0::σ) (z.map .v)]) (
(buildV Try.prog 52 [(1,(.p (.int .i64 96))),(2,(.p (.int .u16 x1))),(3,(.p (.int .u32 x2))),(4,(.p (.int .u32 n4))),(6,(.p (.int .u16 48862))),(8,q5.1)]).bind fun t6 =>
((stO true 9 (8::0::1::0::σ) q5.2 (.ref (newLoc (alO [.p (.bool false),.p (.int .i64 0),.p (.int .u16 0),.p (.int .u32 0),.p (.int .u32 0),.p (.slice none 0 0),.p (.int .u16 0),.p (.slice none 0 0),.p (.slice none 0 0)] (7::0::1::0::σ) 11 q1.2).2 11 (7::0::1::0::σ)) 0) t6).map fun h=>(udf,h)).bind fun q7 =>
(fA q1.1 0).bind fun t8 =>
(ldO false 1 q7.2 t8).bind fun t9 =>
(castS t9).bind fun s10 =>
(buildV Try.prog 38 [(0,(.p (.int .i64 1))),(1,(.fz (s10.data.toList.map fun b=>.p (.int .u8 b.toNat)) s10.size 1 false))]).bind fun t11 =>
(bSV Try.prog 27 1 [(0,t11)]).bind fun t12 =>
(callO rec 18 (5::0::1::1::0::σ) [(.p (.int .u16 48862)),t12] q7.2 (some 27)).bind fun q13 =>
(extV q13.1 0).bind fun t14 =>
(extV q13.1 1).bind fun t15 =>
(castI .i64 t15).bind fun n16 =>
(fA (.ref (newLoc (alO [.p (.bool false),.p (.int .i64 0),.p (.int .u16 0),.p (.int .u32 0),.p (.int .u32 0),.p (.slice none 0 0),.p (.int .u16 0),.p (.slice none 0 0),.p (.slice none 0 0)] (7::0::1::0::σ) 11 q1.2).2 11 (7::0::1::0::σ)) 0) 7).bind fun t17 =>
((stO true 1 (10::0::1::1::0::σ) q13.2 t17 t14).map fun h=>(udf,h)).bind fun q18 =>
(bif x3 then (some (decide (x4>0))) else (some false)).bind fun b19 =>
bif b19 then (
(fA (.ref (newLoc (alO [.p (.bool false),.p (.int .i64 0),.p (.int .u16 0),.p (.int .u32 0),.p (.int .u32 0),.p (.slice none 0 0),.p (.int .u16 0),.p (.slice none 0 0),.p (.slice none 0 0)] (7::0::1::0::σ) 11 q1.2).2 11 (7::0::1::0::σ)) 0) 8).bind fun t20 =>
(ldO false 1 q18.2 t20).bind fun t21 =>
(iS 1 t21 0).bind fun t22 =>
((stO true 1 (3::1::0::1::1::1::0::σ) q18.2 t22 (.p (.int .u8 1))).map fun h=>(udf,h)).bind fun q23 =>
(ldO true 9 q23.2 (.ref (newLoc (alO [.p (.bool false),.p (.int .i64 0),.p (.int .u16 0),.p (.int .u32 0),.p (.int .u32 0),.p (.slice none 0 0),.p (.int .u16 0),.p (.slice none 0 0),.p (.slice none 0 0)] (7::0::1::0::σ) 11 q1.2).2 11 (7::0::1::0::σ)) 0)).bind fun t24 =>
(callFO rec 91 (1::0::1::1::1::1::0::σ) [t24] q23.2 (some 41)).bind fun q25 =>
(extV q25.1 0).bind fun t26 =>
(extV q25.1 1).bind fun t27 =>
(castI .i64 t27).bind fun n28 =>
fin false σ q25.2 [t26])
else (
(ldO true 9 q18.2 (.ref (newLoc (alO [.p (.bool false),.p (.int .i64 0),.p (.int .u16 0),.p (.int .u32 0),.p (.int .u32 0),.p (.slice none 0 0),.p (.int .u16 0),.p (.slice none 0 0),.p (.slice none 0 0)] (7::0::1::0::σ) 11 q1.2).2 11 (7::0::1::0::σ)) 0)).bind fun t29 =>
(callFO rec 91 (1::0::1::1::1::1::0::σ) [t29] q18.2 (some 41)).bind fun q30 =>
(extV q30.1 0).bind fun t31 =>
(extV q30.1 1).bind fun t32 =>
(castI .i64 t32).bind fun n33 =>
fin false σ q30.2 [t31])))):=by kernel_rfl
def z2n:Code:=(codeAt (bodyOf Try.f91) [1,1,1,1,1,1,1,0,1,0,0])
def z2m:Lv:=⟨130,12,[(0,130)]⟩
def z4i:KT1:=(kBlock 0 (kSeq G rec loop (codeAt (bodyOf Try.f91) [1,1,1,1,1,1,1,1]) ⟨12,12,[]⟩ (1::1::1::1::1::1::1::0::σ) (finC G true Try.f91 (1::σ))))
theorem zd7 (x0:V) (h:H):cvBody G rec loop 91 σ [x0] h =
(boxO true (0::0::0::σ) 1 (List.replicate 82 []::h) x0).bind fun q1 =>
(ldO true 9 q1.2 q1.1).bind fun t2 =>
(callO rec 126 (1::0::0::1::0::σ) [t2] q1.2 (some 11)).bind fun q3 =>
(castI .i64 q3.1).bind fun n4 =>
bif n4 != 0 then (
fin true σ q3.2 [(.p (.slice .none 0 0)),(.p (.int .i64 n4))])
else (
(fA q1.1 5).bind fun t5 =>
(ldO false 1 q3.2 t5).bind fun t6 =>
(lenO t6).bind fun t7 =>
(castI .i64 t7).bind fun n8 =>
(fA q1.1 1).bind fun t9 =>
(ldO false 1 q3.2 t9).bind fun t10 =>
(castI .i64 t10).bind fun n11 =>
(fA q1.1 6).bind fun t12 =>
(ldO false 1 q3.2 t12).bind fun t13 =>
(castI .u16 t13).bind fun n14 =>
bif n14 != 0 then (
(fA q1.1 0).bind fun t15 =>
(ldO false 1 q3.2 t15).bind fun t16 =>
(asB t16).bind fun b17 =>
bif b17 then (
(bSV Try.prog 32 2 [(0,(.p (.int .u8 (IntKind.wrap .u8 (intBits .or .i64 (intBits .or .i64 128 n8) 16))))),(1,(.p (.int .u8 (IntKind.wrap .u8 (intBits .or .i64 n11 128)))))]).bind fun t18 =>
(fA q1.1 2).bind fun t19 =>
(ldO false 1 q3.2 t19).bind fun t20 =>
(castI .u16 t20).bind fun n21 =>
(callO rec 114 (8::0::1::1::1::1::1::0::σ) [t18,(.p (.int .u64 (IntKind.wrap .u64 n21))),(.p (.int .i64 2))] q3.2 (some 38)).bind fun q22 =>
(fA q1.1 3).bind fun t23 =>
(ldO false 1 q22.2 t23).bind fun t24 =>
(castI .u32 t24).bind fun n25 =>
(fA q1.1 4).bind fun t26 =>
(ldO false 1 q22.2 t26).bind fun t27 =>
(castI .u32 t27).bind fun n28 =>
(callO rec 114 (4::0::1::1::1::1::1::1::0::σ) [q22.1,(.p (.int .u64 (IntKind.wrap .u64 n25))),(.p (.int .i64 4))] q22.2 (some 43)).bind fun q29 =>
need ((some (.p (.int .u64 (IntKind.wrap .u64 n28))):Option V)=some (.p (.int .u64 (IntKind.wrap .u64 n28)))) (
need (ldO false 1 q29.2 t26=some (.p (.int .u32 n28))) (
(callO rec 114 (8::0::1::1::1::1::1::1::0::σ) [q29.1,(.p (.int .u64 (IntKind.wrap .u64 n28))),(.p (.int .i64 4))] q29.2 (some 47)).bind fun q30 =>
(fA q1.1 5).bind fun t31 =>
(ldO false 1 q30.2 t31).bind fun t32 =>
(lenO t32).bind fun t33 =>
(castI .i64 t33).bind fun n34 =>
(loop z2n z2m (1::0::1::1::1::1::1::1::1::0::σ) (envL [(1,q1.1),(7,q30.1),(49,t32),(50,(.p (.int .i64 n34))),(51,(.p (.int .i64 0)))]) q30.2).bind fun r35=>z4i rec loop σ r35.1 r35.2.1 r35.2.2)))
else (
(bSV Try.prog 32 2 [(0,(.p (.int .u8 (IntKind.wrap .u8 (intBits .or .i64 (intBits .or .i64 128 n8) 16))))),(1,(.p (.int .u8 (IntKind.wrap .u8 n11))))]).bind fun t36 =>
(fA q1.1 2).bind fun t37 =>
(ldO false 1 q3.2 t37).bind fun t38 =>
(castI .u16 t38).bind fun n39 =>
(callO rec 114 (8::0::1::1::1::1::1::0::σ) [t36,(.p (.int .u64 (IntKind.wrap .u64 n39))),(.p (.int .i64 2))] q3.2 (some 38)).bind fun q40 =>
(fA q1.1 3).bind fun t41 =>
(ldO false 1 q40.2 t41).bind fun t42 =>
(castI .u32 t42).bind fun n43 =>
(fA q1.1 4).bind fun t44 =>
(ldO false 1 q40.2 t44).bind fun t45 =>
(castI .u32 t45).bind fun n46 =>
(callO rec 114 (4::0::1::1::1::1::1::1::0::σ) [q40.1,(.p (.int .u64 (IntKind.wrap .u64 n43))),(.p (.int .i64 4))] q40.2 (some 43)).bind fun q47 =>
need ((some (.p (.int .u64 (IntKind.wrap .u64 n46))):Option V)=some (.p (.int .u64 (IntKind.wrap .u64 n46)))) (
need (ldO false 1 q47.2 t44=some (.p (.int .u32 n46))) (
(callO rec 114 (8::0::1::1::1::1::1::1::0::σ) [q47.1,(.p (.int .u64 (IntKind.wrap .u64 n46))),(.p (.int .i64 4))] q47.2 (some 47)).bind fun q48 =>
(fA q1.1 5).bind fun t49 =>
(ldO false 1 q48.2 t49).bind fun t50 =>
(lenO t50).bind fun t51 =>
(castI .i64 t51).bind fun n52 =>
(loop z2n z2m (1::0::1::1::1::1::1::1::1::0::σ) (envL [(1,q1.1),(7,q48.1),(49,t50),(50,(.p (.int .i64 n52))),(51,(.p (.int .i64 0)))]) q48.2).bind fun r53=>z4i rec loop σ r53.1 r53.2.1 r53.2.2))))
else (
(fA q1.1 0).bind fun t54 =>
(ldO false 1 q3.2 t54).bind fun t55 =>
(asB t55).bind fun b56 =>
bif b56 then (
(bSV Try.prog 32 2 [(0,(.p (.int .u8 (IntKind.wrap .u8 (intBits .or .i64 128 n8))))),(1,(.p (.int .u8 (IntKind.wrap .u8 (intBits .or .i64 n11 128)))))]).bind fun t57 =>
(fA q1.1 2).bind fun t58 =>
(ldO false 1 q3.2 t58).bind fun t59 =>
(castI .u16 t59).bind fun n60 =>
(callO rec 114 (8::0::1::1::1::1::1::0::σ) [t57,(.p (.int .u64 (IntKind.wrap .u64 n60))),(.p (.int .i64 2))] q3.2 (some 38)).bind fun q61 =>
(fA q1.1 3).bind fun t62 =>
(ldO false 1 q61.2 t62).bind fun t63 =>
(castI .u32 t63).bind fun n64 =>
(fA q1.1 4).bind fun t65 =>
(ldO false 1 q61.2 t65).bind fun t66 =>
(castI .u32 t66).bind fun n67 =>
(callO rec 114 (4::0::1::1::1::1::1::1::0::σ) [q61.1,(.p (.int .u64 (IntKind.wrap .u64 n64))),(.p (.int .i64 4))] q61.2 (some 43)).bind fun q68 =>
need ((some (.p (.int .u64 (IntKind.wrap .u64 n67))):Option V)=some (.p (.int .u64 (IntKind.wrap .u64 n67)))) (
need (ldO false 1 q68.2 t65=some (.p (.int .u32 n67))) (
(callO rec 114 (8::0::1::1::1::1::1::1::0::σ) [q68.1,(.p (.int .u64 (IntKind.wrap .u64 n67))),(.p (.int .i64 4))] q68.2 (some 47)).bind fun q69 =>
(fA q1.1 5).bind fun t70 =>
(ldO false 1 q69.2 t70).bind fun t71 =>
(lenO t71).bind fun t72 =>
(castI .i64 t72).bind fun n73 =>
(loop z2n z2m (1::0::1::1::1::1::1::1::1::0::σ) (envL [(1,q1.1),(7,q69.1),(49,t71),(50,(.p (.int .i64 n73))),(51,(.p (.int .i64 0)))]) q69.2).bind fun r74=>z4i rec loop σ r74.1 r74.2.1 r74.2.2)))
else (
(bSV Try.prog 32 2 [(0,(.p (.int .u8 (IntKind.wrap .u8 (intBits .or .i64 128 n8))))),(1,(.p (.int .u8 (IntKind.wrap .u8 n11))))]).bind fun t75 =>
(fA q1.1 2).bind fun t76 =>
(ldO false 1 q3.2 t76).bind fun t77 =>
(castI .u16 t77).bind fun n78 =>
(callO rec 114 (8::0::1::1::1::1::1::0::σ) [t75,(.p (.int .u64 (IntKind.wrap .u64 n78))),(.p (.int .i64 2))] q3.2 (some 38)).bind fun q79 =>
(fA q1.1 3).bind fun t80 =>
(ldO false 1 q79.2 t80).bind fun t81 =>
(castI .u32 t81).bind fun n82 =>
(fA q1.1 4).bind fun t83 =>
(ldO false 1 q79.2 t83).bind fun t84 =>
(castI .u32 t84).bind fun n85 =>
(callO rec 114 (4::0::1::1::1::1::1::1::0::σ) [q79.1,(.p (.int .u64 (IntKind.wrap .u64 n82))),(.p (.int .i64 4))] q79.2 (some 43)).bind fun q86 =>
need ((some (.p (.int .u64 (IntKind.wrap .u64 n85))):Option V)=some (.p (.int .u64 (IntKind.wrap .u64 n85)))) (
need (ldO false 1 q86.2 t83=some (.p (.int .u32 n85))) (
(callO rec 114 (8::0::1::1::1::1::1::1::0::σ) [q86.1,(.p (.int .u64 (IntKind.wrap .u64 n85))),(.p (.int .i64 4))] q86.2 (some 47)).bind fun q87 =>
(fA q1.1 5).bind fun t88 =>
(ldO false 1 q87.2 t88).bind fun t89 =>
(lenO t89).bind fun t90 =>
(castI .i64 t90).bind fun n91 =>
(loop z2n z2m (1::0::1::1::1::1::1::1::1::0::σ) (envL [(1,q1.1),(7,q87.1),(49,t89),(50,(.p (.int .i64 n91))),(51,(.p (.int .i64 0)))]) q87.2).bind fun r92=>z4i rec loop σ r92.1 r92.2.1 r92.2.2))))):=by kernel_rfl
theorem zgl (x1:V) (x7:V) (x49:V) (x50:Int) (x51:Int) (h:H):z1a G rec loop z2n z2m σ (envL [(1,x1),(7,x7),(49,x49),(50,(.p (.int .i64 x50))),(51,(.p (.int .i64 x51)))]) h =
bif decide (x51<x50) then (
(iS 1 x49 x51).bind fun t93 =>
(ldO false 1 h t93).bind fun t94 =>
(castI .u32 t94).bind fun n95 =>
(callO rec 114 (3::1::0::1::1::0::σ) [x7,(.p (.int .u64 (IntKind.wrap .u64 n95))),(.p (.int .i64 4))] h (some 58)).bind fun q96 =>
loop z2n z2m (1::σ) (envL [(1,x1),(7,q96.1),(49,x49),(50,(.p (.int .i64 x50))),(51,(.p (.int .i64 (IntKind.wrap .i64 (x51+1)))))]) q96.2)
else (
some ((.exit 0),(envL [(1,x1),(7,x7)]),h)):=by kernel_rfl
theorem z4t (x1:V) (x7:V) (h:H):z4i rec loop σ (.exit 0) (envL [(1,x1),(7,x7)]) h =
(fA x1 6).bind fun t97 =>
(ldO false 1 h t97).bind fun t98 =>
(castI .u16 t98).bind fun n99 =>
bif n99 != 0 then (
(fA x1 6).bind fun t100 =>
(ldO false 1 h t100).bind fun t101 =>
(castI .u16 t101).bind fun n102 =>
(fA x1 7).bind fun t103 =>
(ldO false 1 h t103).bind fun t104 =>
(lenO t104).bind fun t105 =>
(castI .i64 t105).bind fun n106 =>
(callO rec 114 (4::0::1::0::1::1::1::1::1::1::1::1::0::σ) [x7,(.p (.int .u64 (IntKind.wrap .u64 n102))),(.p (.int .i64 2))] h (some 67)).bind fun q107 =>
need ((some (.p (.int .u64 (IntKind.wrap .u64 (IntKind.wrap .i64 (Int.tdiv n106 4))))):Option V)=some (.p (.int .u64 (IntKind.wrap .u64 (IntKind.wrap .i64 (Int.tdiv n106 4)))))) (
need (ldO false 1 q107.2 t103=some t104) (
(callO rec 114 (10::0::1::0::1::1::1::1::1::1::1::1::0::σ) [q107.1,(.p (.int .u64 (IntKind.wrap .u64 (IntKind.wrap .i64 (Int.tdiv n106 4))))),(.p (.int .i64 2))] q107.2 (some 73)).bind fun q108 =>
(fA x1 7).bind fun t109 =>
(ldO false 1 q108.2 t109).bind fun t110 =>
(apO true 1 1 (3::1::1::0::1::1::1::1::1::1::1::1::0::σ) 77 q108.2 q108.1 t110).bind fun q111 =>
(fA x1 8).bind fun t112 =>
(ldO false 1 q111.2 t112).bind fun t113 =>
(apO true 1 1 (3::0::1::1::1::1::1::1::1::1::1::0::σ) 81 q111.2 q111.1 t113).bind fun q114 =>
fin true σ q114.2 [q114.1,(.p (.int .i64 0))])))
else (
(fA x1 8).bind fun t115 =>
(ldO false 1 h t115).bind fun t116 =>
(apO true 1 1 (3::0::1::1::1::1::1::1::1::1::1::0::σ) 81 h x7 t116).bind fun q117 =>
fin true σ q117.2 [q117.1,(.p (.int .i64 0))]):=by kernel_rfl
def z7b:Code:=(codeAt (bodyOf Try.f114) [1,1,1,0,1,0,0])
def z70:Lv:=⟨128,64,[(0,128)]⟩
def zdr:KT1:=(kBlock 0 (kSeq G rec loop (codeAt (bodyOf Try.f114) [1,1,1,1]) ⟨64,64,[]⟩ (1::1::1::0::σ) (finC G false Try.f114 (1::σ))))
theorem zfx (x0:V) (x1:Int) (x2:Int) (h:H):cvBody G rec loop 114 σ [x0,(.p (.int .u64 x1)),(.p (.int .i64 x2))] h =
(bSV Try.prog 32 0 []).bind fun t1 =>
(apO true 1 1 (2::0::1::0::σ) 11 (List.replicate 35 []::h) t1 x0).bind fun q2 =>
(bif decide (x2<1) then (some true) else (some (decide (x2>8)))).bind fun b3 =>
bif b3 then (
fin false σ q2.2 [q2.1])
else (
(loop z7b z70 (1::0::1::1::1::0::σ) (envL [(1,(.p (.int .u64 x1))),(7,q2.1),(8,(.p (.int .i64 (IntKind.wrap .i64 (x2-1)))))]) q2.2).bind fun r4=>zdr rec loop σ r4.1 r4.2.1 r4.2.2):=by kernel_rfl
theorem ziw (x1:Int) (x7:V) (x8:Int) (h:H):z1a G rec loop z7b z70 σ (envL [(1,(.p (.int .u64 x1))),(7,x7),(8,(.p (.int .i64 x8)))]) h =
bif decide (x8≥0) then (
(shiftV .shr .u64 x1 (IntKind.wrap .u64 (IntKind.wrap .i64 (8*x8)))).bind fun t5 =>
(castI .u64 t5).bind fun n6 =>
(bSV Try.prog 32 1 [(0,(.p (.int .u8 (IntKind.wrap .u8 n6))))]).bind fun t7 =>
(apO true 1 1 (8::0::1::0::σ) 33 h x7 t7).bind fun q8 =>
loop z7b z70 (1::σ) (envL [(1,(.p (.int .u64 x1))),(7,q8.1),(8,(.p (.int .i64 (IntKind.wrap .i64 (x8-1)))))]) q8.2)
else (
some ((.exit 0),(envL [(7,x7)]),h)):=by kernel_rfl
theorem zh4 (x7:V) (h:H):zdr rec loop σ (.exit 0) (envL [(7,x7)]) h =
fin false σ h [x7]:=by kernel_rfl
end
end Go.Ev
namespace Go.Ev
open Go.Proofs
set_option linter.unusedVariables false
set_option linter.unusedSimpArgs false
set_option maxRecDepth 100000
section
variable {β α : Type} {Q : β→α→Prop} {K : Exit × Env × H→Option α}
def z2l {β:Type} (k:Nat) (kE0:(List Int)→Option β) (x1:Int) (x7:(List Int)) (x8:Int):Option β:=match k with
| 0=>none
| k+1 =>
bif decide (x8≥0) then (
(shP .shr .u64 x1 (IntKind.wrap .u64 (IntKind.wrap .i64 (8*x8)))).bind fun n27 =>
(ap 1 x7 ([(IntKind.wrap .u8 n27)])).bind fun a30 =>
z2l k kE0 x1 a30 (IntKind.wrap .i64 (x8-1)))
else (
kE0 x7)
def zn (k:Nat) (x0:(List Int)) (x1:Int) (x2:Int):Option ((List Int)) :=
(ap 1 (([]:List Int)) x0).bind fun a4 =>
(bif decide (x2<1) then (some true) else (some (decide (x2>8)))).bind fun b10 =>
bif b10 then (
some (a4))
else (
z2l k (fun r40_7 =>
some (r40_7)) x1 a4 (IntKind.wrap .i64 (x2-1)))
theorem zfm {h:H}  {kE0:(List Int)→Option β} (hE0:∀ (q7:(List Int)) (v38:V) (H36:Go.Ev.H) (_:Fm 35 h [] [] [⟨[11,33],v38,(dI .u8),q7⟩] H36),Sim (kE0 q7) (K ((.exit 0),(envL [(7,v38)]),H36)) Q) (k:Nat):∀ (x1:Int) (x7:(List Int)) (x8:Int) (v24:V) (H22:Go.Ev.H) (_:Fm 35 h [] [] [⟨[11,33],v24,(dI .u8),x7⟩] H22) {σ:Stamp},Sim (z2l k kE0 x1 x7 x8) ((cvL G X0 z7b z70 σ (envL [(1,(.p (.int .u64 x1))),(7,v24),(8,(.p (.int .i64 x8)))]) H22).bind K) Q:=by
 induction k with
 | zero=>intros;exact .no
 | succ k ih =>
  intro x1 x7 x8 v24 H22 S23 σ
  rw [z2l]
  refine .round (Sim.ext (ziw _ _ _ _ _ _ _) ?_)
  refine .cq ?_ ?_
  ·refine .bd fun n27 h28=>?_
   refine .op (shP_ok h28) ?_
   refine .ci ?_
   have h29:=SlF.int1 .u8 (IntKind.wrap .u8 n27)
   refine .op (bldS (pC rfl pN) (by kernel_rfl:_=some (vOf h29))) ?_
   refine .bd fun a30 h31=>?_
   obtain ⟨v32,H33,e34,S35⟩:=S23.app (i:=0) (d:=33) (e:=1) (own:=true) (σ:=(8::0::1::0::σ)) rfl (h29.h H22).y h31 rfl (by decide) (by decide) rfl
   refine .op (e34) ?_
   exact ih x1 a30 (IntKind.wrap .i64 (x8-1)) v32 H33 (S35.wk2 aN (aC ⟨[33,11,33],by simp,aM 0 rfl⟩ aN))
  exact hE0 x7 v24 H22 (S23.wk2 aN (aC ⟨[11,33],by simp,aM 0 rfl⟩ aN))
theorem zq (k:Nat) {h:H} {σ:Stamp} (x0:List Int) {u0:V} (hu0:SlH h (dI .u8) x0 u0) (x1:Int) (x2:Int):Sim (zn k x0 x1 x2) (ev G X0 114 σ [u0,(.p (.int .u64 x1)),(.p (.int .i64 x2))] h) (fun r s=>∃ (c0:C),∃ (a0:List V),OwnS c0 (dI .u8).sz r.length a0∧(dI .u8).L r a0∧s=([c0],h)):=by
 refine .ev rfl (Sim.ext (zfx _ _ _ _ _ _ _) ?_)
 rw [zn]
 have S0:Fm 35 h [] [] [] (List.replicate 35 []::h):=Fm.start0
 have h1:SlF (dI .u8) ([]:List Int) (.fz [] 0 1 true):=SlF.lit (cs:=[]) RL.nil rfl rfl true
 refine .op (bldS pN (by kernel_rfl:_=some (vOf h1))) ?_
 have S3:=S0.nil' (dI .u8) [] (e:=1) rfl
 refine .bd fun a4 h5=>?_
 obtain ⟨v6,H7,e8,S9⟩:=S3.app (i:=0) (d:=11) (e:=1) (own:=true) (σ:=(2::0::1::0::σ)) rfl (S3.low hu0).y h5 rfl (by decide) (by decide) rfl
 refine .op (e8) ?_
 refine .ch (P:=fun r y=>r=y) ?_ (fun b10 y11 h12 h13=>?_)
 ·refine .cq ?_ ?_
  ·exact .ret rfl rfl
  ·exact .ret rfl rfl
 subst h13
 refine .cq ?_ ?_
 ·obtain ⟨c20,cs21,H15,e16,h18,h19,S17⟩:=S9.expOwn (i:=0) (τ:=0::1::σ) rfl rfl rfl
  exact .fin (S17.finE (Ex.st e16 Ex.nil)) ⟨c20,cs21,h18,h19,rfl⟩
 refine .as (zfm ?_ k x1 a4 (IntKind.wrap .i64 (x2-1)) v6 H7 (S9.wk2 aN (aC ⟨[11],by simp,aM 0 rfl⟩ aN)))
 ·intro r40_7 v43 H41 S42
  refine .ext (zh4 _ _ _ _ _) ?_
  obtain ⟨c50,cs51,H45,e46,h48,h49,S47⟩:=S42.expOwn (i:=0) (τ:=0::1::σ) rfl rfl rfl
  exact .fin (S47.finE (Ex.st e46 Ex.nil)) ⟨c50,cs51,h48,h49,rfl⟩
end
end Go.Ev
namespace Go.Ev
open Go.Proofs
set_option linter.unusedVariables false
set_option linter.unusedSimpArgs false
set_option maxRecDepth 100000
noncomputable section
abbrev KT2:=Exit→Env→H→Option (List C × H)
variable (rec : CallF) (loop : LoopV) (σ : Stamp)
theorem zd8 (x0:V) (h:H):cvBody G rec loop 126 σ [x0] h =
(boxO true (0::0::0::σ) 1 (List.replicate 38 []::h) x0).bind fun q1 =>
(fA q1.1 1).bind fun t2 =>
(ldO false 1 q1.2 t2).bind fun t3 =>
(castI .i64 t3).bind fun n4 =>
(bif decide (n4<0) then (some true) else ((fA q1.1 1).bind fun t5 =>
(ldO false 1 q1.2 t5).bind fun t6 =>
(castI .i64 t6).bind fun n7 =>
some (decide (n7>127)))).bind fun b8 =>
(bif b8 then (some true) else ((fA q1.1 5).bind fun t9 =>
(ldO false 1 q1.2 t9).bind fun t10 =>
(lenO t10).bind fun t11 =>
(castI .i64 t11).bind fun n12 =>
some (decide (n12>15)))).bind fun b13 =>
(bif b13 then (some true) else ((fA q1.1 7).bind fun t14 =>
(ldO false 1 q1.2 t14).bind fun t15 =>
(lenO t15).bind fun t16 =>
(castI .i64 t16).bind fun n17 =>
some ((Int.tmod n17 4) != 0))).bind fun b18 =>
(bif b18 then (some true) else ((fA q1.1 6).bind fun t19 =>
(ldO false 1 q1.2 t19).bind fun t20 =>
(castI .u16 t20).bind fun n21 =>
(bif n21==0 then ((fA q1.1 7).bind fun t22 =>
(ldO false 1 q1.2 t22).bind fun t23 =>
(lenO t23).bind fun t24 =>
(castI .i64 t24).bind fun n25 =>
some (decide (n25>0))) else (some false)).bind fun b26 =>
some b26)).bind fun b27 =>
bif b27 then (
fin false σ q1.2 [(.p (.int .i64 1))])
else (
(ldO true 9 q1.2 q1.1).bind fun t28 =>
(callO rec 136 (1::0::0::1::1::0::σ) [t28] q1.2 (some 36)).bind fun q29 =>
(castI .i64 q29.1).bind fun n30 =>
bif decide (n30>1500) then (
fin false σ q29.2 [(.p (.int .i64 3))])
else (
fin false σ q29.2 [(.p (.int .i64 0))])):=by kernel_rfl
theorem zeh (x0:V) (h:H):cvBody G rec loop 136 σ [x0] h =
(boxO true (0::0::0::σ) 1 (List.replicate 23 []::h) x0).bind fun q1 =>
(fA q1.1 5).bind fun t2 =>
(ldO false 1 q1.2 t2).bind fun t3 =>
(lenO t3).bind fun t4 =>
(castI .i64 t4).bind fun n5 =>
(fA q1.1 8).bind fun t6 =>
(ldO false 1 q1.2 t6).bind fun t7 =>
(lenO t7).bind fun t8 =>
(castI .i64 t8).bind fun n9 =>
(fA q1.1 6).bind fun t10 =>
(ldO false 1 q1.2 t10).bind fun t11 =>
(castI .u16 t11).bind fun n12 =>
bif n12 != 0 then (
(fA q1.1 7).bind fun t13 =>
(ldO false 1 q1.2 t13).bind fun t14 =>
(lenO t14).bind fun t15 =>
(castI .i64 t15).bind fun n16 =>
fin false σ q1.2 [(.p (.int .i64 (IntKind.wrap .i64 ((IntKind.wrap .i64 ((IntKind.wrap .i64 ((IntKind.wrap .i64 (12+(IntKind.wrap .i64 (4*n5))))+n9))+4))+n16))))])
else (
fin false σ q1.2 [(.p (.int .i64 (IntKind.wrap .i64 ((IntKind.wrap .i64 (12+(IntKind.wrap .i64 (4*n5))))+n9))))]):=by kernel_rfl
end
end Go.Ev
namespace Go.Ev
open Go.Proofs
set_option linter.unusedVariables false
set_option linter.unusedSimpArgs false
set_option maxRecDepth 100000
section
variable {β α : Type} {Q : β→α→Prop} {K : Exit × Env × H→Option α}
def z7c (x0:TaiRtp):Option (Int) :=
bif x0.Profile != 0 then (
some ((IntKind.wrap .i64 ((IntKind.wrap .i64 ((IntKind.wrap .i64 ((IntKind.wrap .i64 (12+(IntKind.wrap .i64 (4*((x0.Csrc.length:Int))))))+((x0.Payload.length:Int))))+4))+((x0.Ext.length:Int))))))
else (
some ((IntKind.wrap .i64 ((IntKind.wrap .i64 (12+(IntKind.wrap .i64 (4*((x0.Csrc.length:Int))))))+((x0.Payload.length:Int))))))
theorem zhr {h:H} {σ:Stamp} (x0:TaiRtp) {u0:List V} (hu0:z6.R x0 u0):Sim (z7c x0) (ev G X0 136 σ [(.agg u0)] h) (fun r s=>s=([.v (.p (.int .i64 r))],h)):=by
 refine .ev rfl (Sim.ext (zeh _ _ _ _ _) ?_)
 rw [z7c]
 obtain ⟨v1,v3,v5,rfl,h2,h4,h6⟩:=z6.inv hu0
 have S0:Fm 23 h [] [] [] (List.replicate 23 []::h):=Fm.start0
 obtain ⟨H7,e8,S9⟩:=S0.box (own:=true) (d:=1) (s:=(0::0::0::σ)) (xs:=[(.p (.bool x0.Marker)),(.p (.int .i64 x0.f_Type)),(.p (.int .u16 x0.Seq)),(.p (.int .u32 x0.Time)),(.p (.int .u32 x0.Ssrc)),v1,(.p (.int .u16 x0.Profile)),v3,v5]) (sC (sB _) (sC (sI _ _) (sC (sI _ _) (sC (sI _ _) (sC (sI _ _) (sC h2.still (sC (sI _ _) (sC h4.still (sC h6.still sN))))))))) (by decide) rfl
 refine .op (e8) ?_
 refine .fa ?_
 refine .op ((S9.atG (i:=0) rfl).ld (j:=5) rfl) ?_
 refine .op ((h2.h H7).len) ?_
 refine .ci ?_
 refine .fa ?_
 refine .op ((S9.atG (i:=0) rfl).ld (j:=8) rfl) ?_
 refine .op ((h6.h H7).len) ?_
 refine .ci ?_
 refine .fa ?_
 refine .op ((S9.atG (i:=0) rfl).ld (j:=6) rfl) ?_
 refine .ci ?_
 refine .cq ?_ ?_
 ·refine .fa ?_
  refine .op ((S9.atG (i:=0) rfl).ld (j:=7) rfl) ?_
  refine .op ((h4.h H7).len) ?_
  refine .ci ?_
  exact .fin (S9.finN (lC (sI _ _).lv lN)) rfl
 exact .fin (S9.finN (lC (sI _ _).lv lN)) rfl
def z59 (x0:TaiRtp):Option (Int) :=
(bif decide (x0.f_Type<0) then (some true) else (some (decide (x0.f_Type>127)))).bind fun b11 =>
(bif b11 then (some true) else (some (decide (((x0.Csrc.length:Int))>15)))).bind fun b15 =>
(bif b15 then (some true) else (some ((Int.tmod ((x0.Ext.length:Int)) 4) != 0))).bind fun b19 =>
(bif b19 then (some true) else ((bif x0.Profile==0 then (some (decide (((x0.Ext.length:Int))>0))) else (some false)).bind fun b23 =>
some b23)).bind fun b27 =>
bif b27 then (
some (1))
else (
(z7c x0).bind fun r32 =>
bif decide (r32>1500) then (
some (3))
else (
some (0)))
theorem zgt {h:H} {σ:Stamp} (x0:TaiRtp) {u0:List V} (hu0:z6.R x0 u0):Sim (z59 x0) (ev G X0 126 σ [(.agg u0)] h) (fun r s=>s=([.v (.p (.int .i64 r))],h)):=by
 refine .ev rfl (Sim.ext (zd8 _ _ _ _ _) ?_)
 rw [z59]
 obtain ⟨v1,v3,v5,rfl,h2,h4,h6⟩:=z6.inv hu0
 have S0:Fm 38 h [] [] [] (List.replicate 38 []::h):=Fm.start0
 obtain ⟨H7,e8,S9⟩:=S0.box (own:=true) (d:=1) (s:=(0::0::0::σ)) (xs:=[(.p (.bool x0.Marker)),(.p (.int .i64 x0.f_Type)),(.p (.int .u16 x0.Seq)),(.p (.int .u32 x0.Time)),(.p (.int .u32 x0.Ssrc)),v1,(.p (.int .u16 x0.Profile)),v3,v5]) (sC (sB _) (sC (sI _ _) (sC (sI _ _) (sC (sI _ _) (sC (sI _ _) (sC h2.still (sC (sI _ _) (sC h4.still (sC h6.still sN))))))))) (by decide) rfl
 refine .op (e8) ?_
 refine .fa ?_
 refine .op ((S9.atG (i:=0) rfl).ld (j:=1) rfl) ?_
 refine .ci ?_
 refine .ch (P:=fun r y=>r=y) ?_ (fun b11 y12 h13 h14=>?_)
 ·refine .cq ?_ ?_
  ·exact .ret rfl rfl
  ·refine .fa ?_
   refine .op ((S9.atG (i:=0) rfl).ld (j:=1) rfl) ?_
   refine .ci ?_
   exact .ret rfl rfl
 subst h14
 refine .ch (P:=fun r y=>r=y) ?_ (fun b15 y16 h17 h18=>?_)
 ·refine .cq ?_ ?_
  ·exact .ret rfl rfl
  ·refine .fa ?_
   refine .op ((S9.atG (i:=0) rfl).ld (j:=5) rfl) ?_
   refine .op ((h2.h H7).len) ?_
   refine .ci ?_
   exact .ret rfl rfl
 subst h18
 refine .ch (P:=fun r y=>r=y) ?_ (fun b19 y20 h21 h22=>?_)
 ·refine .cq ?_ ?_
  ·exact .ret rfl rfl
  ·refine .fa ?_
   refine .op ((S9.atG (i:=0) rfl).ld (j:=7) rfl) ?_
   refine .op ((h4.h H7).len) ?_
   refine .ci ?_
   exact .ret rfl rfl
 subst h22
 refine .ch (P:=fun r y=>r=y) ?_ (fun b27 y28 h29 h30=>?_)
 ·refine .cq ?_ ?_
  ·exact .ret rfl rfl
  ·refine .fa ?_
   refine .op ((S9.atG (i:=0) rfl).ld (j:=6) rfl) ?_
   refine .ci ?_
   refine .ch (P:=fun r y=>r=y) ?_ (fun b23 y24 h25 h26=>?_)
   ·refine .cq ?_ ?_
    ·refine .fa ?_
     refine .op ((S9.atG (i:=0) rfl).ld (j:=7) rfl) ?_
     refine .op ((h4.h H7).len) ?_
     refine .ci ?_
     exact .ret rfl rfl
    ·exact .ret rfl rfl
   subst h26
   exact .ret rfl rfl
 subst h30
 refine .cq ?_ ?_
 ·exact .fin (S9.finN (lC (sI _ _).lv lN)) rfl
 refine .op ((S9.atG (i:=0) rfl).ldVs (j:=0) (xs:=[(.p (.bool x0.Marker)),(.p (.int .i64 x0.f_Type)),(.p (.int .u16 x0.Seq)),(.p (.int .u32 x0.Time)),(.p (.int .u32 x0.Ssrc)),v1,(.p (.int .u16 x0.Profile)),v3,v5]) rfl rfl (by decide)) ?_
 refine .call (zhr x0 hu0) fun r32 cs33 H34 h35 q36=>?_
 cases q36
 refine .ci ?_
 refine .cq ?_ ?_
 ·exact .fin (S9.finN (lC (sI _ _).lv lN)) rfl
 exact .fin (S9.finN (lC (sI _ _).lv lN)) rfl
def z1q {β:Type} (k:Nat) (kE0:(List Int)→TaiRtp→Option β) (x7:(List Int)) (x49:(List Int)) (x50:Int) (x51:Int) (yg10:TaiRtp):Option β:=match k with
| 0=>none
| k+1 =>
bif decide (x51<x50) then (
(ix x49 x51).bind fun a79 =>
(zn k x7 (IntKind.wrap .u64 a79) 4).bind fun r82 =>
z1q k kE0 r82 x49 x50 (IntKind.wrap .i64 (x51+1)) yg10)
else (
kE0 x7 yg10)
def z46 (k:Nat) (x0:TaiRtp):Option ((List Int)×Int) :=
(z59 x0).bind fun r11 =>
bif r11 != 0 then (
some ((([]:List Int)),r11))
else (
bif x0.Profile != 0 then (
bif x0.Marker then (
(zn k ([(IntKind.wrap .u8 (intBits .or .i64 (intBits .or .i64 128 ((x0.Csrc.length:Int))) 16)),(IntKind.wrap .u8 (intBits .or .i64 x0.f_Type 128))]) (IntKind.wrap .u64 x0.Seq) 2).bind fun r20 =>
(zn k r20 (IntKind.wrap .u64 x0.Time) 4).bind fun r34 =>
(zn k r34 (IntKind.wrap .u64 x0.Ssrc) 4).bind fun r48 =>
z1q k (fun r111_7 yg71 =>
bif yg71.Profile != 0 then (
(zn k r111_7 (IntKind.wrap .u64 yg71.Profile) 2).bind fun r127 =>
(zn k r127 (IntKind.wrap .u64 (IntKind.wrap .i64 (Int.tdiv ((yg71.Ext.length:Int)) 4))) 2).bind fun r141 =>
(ap 1 r141 yg71.Ext).bind fun a155 =>
(ap 1 a155 yg71.Payload).bind fun a161 =>
some (a161,0))
else (
(ap 1 r111_7 yg71.Payload).bind fun a173 =>
some (a173,0))) r48 x0.Csrc ((x0.Csrc.length:Int)) 0 x0)
else (
(zn k ([(IntKind.wrap .u8 (intBits .or .i64 (intBits .or .i64 128 ((x0.Csrc.length:Int))) 16)),(IntKind.wrap .u8 x0.f_Type)]) (IntKind.wrap .u64 x0.Seq) 2).bind fun r186 =>
(zn k r186 (IntKind.wrap .u64 x0.Time) 4).bind fun r200 =>
(zn k r200 (IntKind.wrap .u64 x0.Ssrc) 4).bind fun r214 =>
z1q k (fun r228_7 yg71 =>
bif yg71.Profile != 0 then (
(zn k r228_7 (IntKind.wrap .u64 yg71.Profile) 2).bind fun r244 =>
(zn k r244 (IntKind.wrap .u64 (IntKind.wrap .i64 (Int.tdiv ((yg71.Ext.length:Int)) 4))) 2).bind fun r258 =>
(ap 1 r258 yg71.Ext).bind fun a272 =>
(ap 1 a272 yg71.Payload).bind fun a278 =>
some (a278,0))
else (
(ap 1 r228_7 yg71.Payload).bind fun a290 =>
some (a290,0))) r214 x0.Csrc ((x0.Csrc.length:Int)) 0 x0))
else (
bif x0.Marker then (
(zn k ([(IntKind.wrap .u8 (intBits .or .i64 128 ((x0.Csrc.length:Int)))),(IntKind.wrap .u8 (intBits .or .i64 x0.f_Type 128))]) (IntKind.wrap .u64 x0.Seq) 2).bind fun r304 =>
(zn k r304 (IntKind.wrap .u64 x0.Time) 4).bind fun r318 =>
(zn k r318 (IntKind.wrap .u64 x0.Ssrc) 4).bind fun r332 =>
z1q k (fun r346_7 yg71 =>
bif yg71.Profile != 0 then (
(zn k r346_7 (IntKind.wrap .u64 yg71.Profile) 2).bind fun r362 =>
(zn k r362 (IntKind.wrap .u64 (IntKind.wrap .i64 (Int.tdiv ((yg71.Ext.length:Int)) 4))) 2).bind fun r376 =>
(ap 1 r376 yg71.Ext).bind fun a390 =>
(ap 1 a390 yg71.Payload).bind fun a396 =>
some (a396,0))
else (
(ap 1 r346_7 yg71.Payload).bind fun a408 =>
some (a408,0))) r332 x0.Csrc ((x0.Csrc.length:Int)) 0 x0)
else (
(zn k ([(IntKind.wrap .u8 (intBits .or .i64 128 ((x0.Csrc.length:Int)))),(IntKind.wrap .u8 x0.f_Type)]) (IntKind.wrap .u64 x0.Seq) 2).bind fun r421 =>
(zn k r421 (IntKind.wrap .u64 x0.Time) 4).bind fun r435 =>
(zn k r435 (IntKind.wrap .u64 x0.Ssrc) 4).bind fun r449 =>
z1q k (fun r463_7 yg71 =>
bif yg71.Profile != 0 then (
(zn k r463_7 (IntKind.wrap .u64 yg71.Profile) 2).bind fun r479 =>
(zn k r479 (IntKind.wrap .u64 (IntKind.wrap .i64 (Int.tdiv ((yg71.Ext.length:Int)) 4))) 2).bind fun r493 =>
(ap 1 r493 yg71.Ext).bind fun a507 =>
(ap 1 a507 yg71.Payload).bind fun a513 =>
some (a513,0))
else (
(ap 1 r463_7 yg71.Payload).bind fun a525 =>
some (a525,0))) r449 x0.Csrc ((x0.Csrc.length:Int)) 0 x0)))
theorem z4e {h:H}  {kE0:(List Int)→TaiRtp→Option β} (hE0:∀ (q7:(List Int)) (yg71:TaiRtp) (v99:V) (w101:List V) (h102:z6.R yg71 w101) (s103:Stamp) (H97:Go.Ev.H) (_:Fm 82 h [] [(1,s103,List.map C.v w101)] [⟨[47,58],v99,(dI .u8),q7⟩] H97),Sim (kE0 q7 yg71) (K ((.exit 0),(envL [(1,(.ref ⟨h.length,1,0,s103,[]⟩ 0)),(7,v99)]),H97)) Q) (k:Nat):∀ (x7:(List Int)) (x49:(List Int)) (x50:Int) (x51:Int) (yg10:TaiRtp) (v64:V) (v66:V) (h67:SlF (dI .u32) x49 v66) (w68:List V) (h69:z6.R yg10 w68) (s70:Stamp) (H62:Go.Ev.H) (_:Fm 82 h [] [(1,s70,List.map C.v w68)] [⟨[47,58],v64,(dI .u8),x7⟩] H62) {σ:Stamp},Sim (z1q k kE0 x7 x49 x50 x51 yg10) ((cvL G X0 z2n z2m σ (envL [(1,(.ref ⟨h.length,1,0,s70,[]⟩ 0)),(7,v64),(49,v66),(50,(.p (.int .i64 x50))),(51,(.p (.int .i64 x51)))]) H62).bind K) Q:=by
 induction k with
 | zero=>intros;exact .no
 | succ k ih =>
  intro x7 x49 x50 x51 yg10 v64 v66 h67 w68 h69 s70 H62 S63 σ
  rw [z1q]
  refine .round (Sim.ext (zgl _ _ _ _ _ _ _ _ _) ?_)
  obtain ⟨v72,v74,v76,rfl,h73,h75,h77⟩:=z6.inv h69
  refine .cq ?_ ?_
  ·refine .bd fun a79 h80=>?_
   refine .op ((h67.h H62).iS h80 rfl) ?_
   obtain ⟨_,rfl,hE81⟩:=(h67.h H62).el h80 rfl
   refine .op (hE81.ld (j:=0) rfl) ?_
   refine .ci ?_
   refine .call (zq k x7 (S63.sl (i:=0) rfl) (IntKind.wrap .u64 a79) 4) fun r82 cs83 H84 h85 q86=>?_
   obtain ⟨c87,cs88,h89,h90,q86⟩:=q86
   cases q86
   have S91:=Fm.wk S63 (aC (aM 0 rfl) aN) aN
   obtain ⟨v92,H93,e94,S95⟩:=S91.land (dt:=(dI .u8)) (d:=58) (e:=0) (n:=0) h89 h90 (by decide) rfl
   erw [e94]
   exact ih r82 x49 x50 (IntKind.wrap .i64 (x51+1)) yg10 v92 v66 h67 _ h69 s70 H93 (S95.wk2 (aC (aM 0 rfl) aN) (aC ⟨[58],by simp,aM 0 rfl⟩ aN))
  exact hE0 x7 yg10 v64 _ h69 s70 H62 (S63.wk2 (aC (aM 0 rfl) aN) (aC ⟨[47,58],by simp,aM 0 rfl⟩ aN))
theorem zay (k:Nat) {h:H} {σ:Stamp} (x0:TaiRtp) {u0:List V} (hu0:z6.R x0 u0):Sim (z46 k x0) (ev G X0 91 σ [(.agg u0)] h) (fun r s=>∃ (v0:V),SlF (dI .u8) r.1 v0∧s=([.v v0,.v (.p (.int .i64 r.2))],h)):=by
 refine .ev rfl (Sim.ext (zd7 _ _ _ _ _) ?_)
 rw [z46]
 obtain ⟨v1,v3,v5,rfl,h2,h4,h6⟩:=z6.inv hu0
 have S0:Fm 82 h [] [] [] (List.replicate 82 []::h):=Fm.start0
 obtain ⟨H7,e8,S9⟩:=S0.box (own:=true) (d:=1) (s:=(0::0::0::σ)) (xs:=[(.p (.bool x0.Marker)),(.p (.int .i64 x0.f_Type)),(.p (.int .u16 x0.Seq)),(.p (.int .u32 x0.Time)),(.p (.int .u32 x0.Ssrc)),v1,(.p (.int .u16 x0.Profile)),v3,v5]) (sC (sB _) (sC (sI _ _) (sC (sI _ _) (sC (sI _ _) (sC (sI _ _) (sC h2.still (sC (sI _ _) (sC h4.still (sC h6.still sN))))))))) (by decide) rfl
 refine .op (e8) ?_
 refine .op ((S9.atG (i:=0) rfl).ldVs (j:=0) (xs:=[(.p (.bool x0.Marker)),(.p (.int .i64 x0.f_Type)),(.p (.int .u16 x0.Seq)),(.p (.int .u32 x0.Time)),(.p (.int .u32 x0.Ssrc)),v1,(.p (.int .u16 x0.Profile)),v3,v5]) rfl rfl (by decide)) ?_
 refine .call (zgt x0 hu0) fun r11 cs12 H13 h14 q15=>?_
 cases q15
 refine .ci ?_
 refine .cq ?_ ?_
 ·exact .fin (S9.finN (lC (SlF.nil (dI .u8)).still.lv (lC (sI _ _).lv lN))) ⟨(.p (.slice none 0 0)),(SlF.nil (dI .u8)),rfl⟩
 refine .fa ?_
 refine .op ((S9.atG (i:=0) rfl).ld (j:=5) rfl) ?_
 refine .op ((h2.h H7).len) ?_
 refine .ci ?_
 refine .fa ?_
 refine .op ((S9.atG (i:=0) rfl).ld (j:=1) rfl) ?_
 refine .ci ?_
 refine .fa ?_
 refine .op ((S9.atG (i:=0) rfl).ld (j:=6) rfl) ?_
 refine .ci ?_
 refine .cq ?_ ?_
 ·refine .fa ?_
  refine .op ((S9.atG (i:=0) rfl).ld (j:=0) rfl) ?_
  refine .ab ?_
  refine .cq ?_ ?_
  ·have h19:SlF (dI .u8) [(IntKind.wrap .u8 (intBits .or .i64 (intBits .or .i64 128 ((x0.Csrc.length:Int))) 16)),(IntKind.wrap .u8 (intBits .or .i64 x0.f_Type 128))] (.fz [(.p (.int .u8 (IntKind.wrap .u8 (intBits .or .i64 (intBits .or .i64 128 ((x0.Csrc.length:Int))) 16)))),(.p (.int .u8 (IntKind.wrap .u8 (intBits .or .i64 x0.f_Type 128))))] 2 1 true):=SlF.lit (cs:=[(.p (.int .u8 (IntKind.wrap .u8 (intBits .or .i64 (intBits .or .i64 128 ((x0.Csrc.length:Int))) 16)))),(.p (.int .u8 (IntKind.wrap .u8 (intBits .or .i64 x0.f_Type 128))))]) (RL.cons (show (dI .u8).R (IntKind.wrap .u8 (intBits .or .i64 (intBits .or .i64 128 ((x0.Csrc.length:Int))) 16)) [(.p (.int .u8 (IntKind.wrap .u8 (intBits .or .i64 (intBits .or .i64 128 ((x0.Csrc.length:Int))) 16))))] from rfl) (RL.cons (show (dI .u8).R (IntKind.wrap .u8 (intBits .or .i64 x0.f_Type 128)) [(.p (.int .u8 (IntKind.wrap .u8 (intBits .or .i64 x0.f_Type 128))))] from rfl) RL.nil)) rfl rfl true
   refine .op (bldS (pC rfl (pC rfl pN)) (by kernel_rfl:_=some (vOf h19))) ?_
   refine .fa ?_
   refine .op ((S9.atG (i:=0) rfl).ld (j:=2) rfl) ?_
   refine .ci ?_
   refine .call (zq k ([(IntKind.wrap .u8 (intBits .or .i64 (intBits .or .i64 128 ((x0.Csrc.length:Int))) 16)),(IntKind.wrap .u8 (intBits .or .i64 x0.f_Type 128))]) (h19.h H7) (IntKind.wrap .u64 x0.Seq) 2) fun r20 cs21 H22 h23 q24=>?_
   obtain ⟨c25,cs26,h27,h28,q24⟩:=q24
   cases q24
   obtain ⟨v29,H30,e31,S32⟩:=S9.land (dt:=(dI .u8)) (d:=38) (e:=0) (n:=0) h27 h28 (by decide) rfl
   erw [e31]
   refine .fa ?_
   refine .op ((S32.atG (i:=0) rfl).ld (j:=3) rfl) ?_
   refine .ci ?_
   refine .fa ?_
   refine .op ((S32.atG (i:=0) rfl).ld (j:=4) rfl) ?_
   refine .ci ?_
   refine .call (zq k r20 (S32.sl (i:=0) rfl) (IntKind.wrap .u64 x0.Time) 4) fun r34 cs35 H36 h37 q38=>?_
   obtain ⟨c39,cs40,h41,h42,q38⟩:=q38
   cases q38
   obtain ⟨v43,H44,e45,S46⟩:=S32.land (dt:=(dI .u8)) (d:=43) (e:=0) (n:=0) h41 h42 (by decide) rfl
   erw [e45]
   refine .nd (rfl) ?_
   refine .nd ((S46.atG (i:=0) rfl).ld (j:=4) rfl) ?_
   refine .call (zq k r34 (S46.sl (i:=0) rfl) (IntKind.wrap .u64 x0.Ssrc) 4) fun r48 cs49 H50 h51 q52=>?_
   obtain ⟨c53,cs54,h55,h56,q52⟩:=q52
   cases q52
   obtain ⟨v57,H58,e59,S60⟩:=S46.land (dt:=(dI .u8)) (d:=47) (e:=0) (n:=0) h55 h56 (by decide) rfl
   erw [e59]
   refine .fa ?_
   refine .op ((S60.atG (i:=0) rfl).ld (j:=5) rfl) ?_
   refine .op ((h2.h H58).len) ?_
   refine .ci ?_
   refine .as (z4e ?_ k r48 x0.Csrc ((x0.Csrc.length:Int)) 0 x0 v57 v1 h2 _ hu0 (0::0::0::σ) H58 (S60.wk2 (aC (aM 0 rfl) aN) (aC ⟨[47],by simp,aM 0 rfl⟩ aN)))
   ·intro r111_7 yg71 v114 w116 h117 s118 H112 S113
    refine .ext (z4t _ _ _ _ _ _) ?_
    obtain ⟨v120,v122,v124,rfl,h121,h123,h125⟩:=z6.inv h117
    refine .fa ?_
    refine .op ((S113.atG (i:=0) rfl).ld (j:=6) rfl) ?_
    refine .ci ?_
    refine .cq ?_ ?_
    ·refine .fa ?_
     refine .op ((S113.atG (i:=0) rfl).ld (j:=6) rfl) ?_
     refine .ci ?_
     refine .fa ?_
     refine .op ((S113.atG (i:=0) rfl).ld (j:=7) rfl) ?_
     refine .op ((h123.h H112).len) ?_
     refine .ci ?_
     refine .call (zq k r111_7 (S113.sl (i:=0) rfl) (IntKind.wrap .u64 yg71.Profile) 2) fun r127 cs128 H129 h130 q131=>?_
     obtain ⟨c132,cs133,h134,h135,q131⟩:=q131
     cases q131
     obtain ⟨v136,H137,e138,S139⟩:=S113.land (dt:=(dI .u8)) (d:=67) (e:=0) (n:=0) h134 h135 (by decide) rfl
     erw [e138]
     refine .nd (rfl) ?_
     refine .nd ((S139.atG (i:=0) rfl).ld (j:=7) rfl) ?_
     refine .call (zq k r127 (S139.sl (i:=0) rfl) (IntKind.wrap .u64 (IntKind.wrap .i64 (Int.tdiv ((yg71.Ext.length:Int)) 4))) 2) fun r141 cs142 H143 h144 q145=>?_
     obtain ⟨c146,cs147,h148,h149,q145⟩:=q145
     cases q145
     obtain ⟨v150,H151,e152,S153⟩:=S139.land (dt:=(dI .u8)) (d:=73) (e:=0) (n:=0) h148 h149 (by decide) rfl
     erw [e152]
     refine .fa ?_
     refine .op ((S153.atG (i:=0) rfl).ld (j:=7) rfl) ?_
     refine .bd fun a155 h156=>?_
     obtain ⟨v157,H158,e159,S160⟩:=S153.app (i:=0) (d:=77) (e:=1) (own:=true) (σ:=(3::1::1::0::1::1::1::1::1::1::1::1::0::σ)) rfl (h123.h H151).y h156 rfl (by decide) (by decide) rfl
     refine .op (e159) ?_
     refine .fa ?_
     refine .op ((S160.atG (i:=0) rfl).ld (j:=8) rfl) ?_
     refine .bd fun a161 h162=>?_
     obtain ⟨v163,H164,e165,S166⟩:=S160.app (i:=0) (d:=81) (e:=1) (own:=true) (σ:=(3::0::1::1::1::1::1::1::1::1::1::0::σ)) rfl (h125.h H158).y h162 rfl (by decide) (by decide) rfl
     refine .op (e165) ?_
     obtain ⟨v172,H167,e168,h170,S169⟩:=S166.expFrz (i:=0) (τ:=0::1::σ) rfl rfl
     exact .fin (S169.finE (Ex.st e168 (Ex.pl (sI _ _).lv Ex.nil))) ⟨v172,h170,rfl⟩
    refine .fa ?_
    refine .op ((S113.atG (i:=0) rfl).ld (j:=8) rfl) ?_
    refine .bd fun a173 h174=>?_
    obtain ⟨v175,H176,e177,S178⟩:=S113.app (i:=0) (d:=81) (e:=1) (own:=true) (σ:=(3::0::1::1::1::1::1::1::1::1::1::0::σ)) rfl (h125.h H112).y h174 rfl (by decide) (by decide) rfl
    refine .op (e177) ?_
    obtain ⟨v184,H179,e180,h182,S181⟩:=S178.expFrz (i:=0) (τ:=0::1::σ) rfl rfl
    exact .fin (S181.finE (Ex.st e180 (Ex.pl (sI _ _).lv Ex.nil))) ⟨v184,h182,rfl⟩
  have h185:SlF (dI .u8) [(IntKind.wrap .u8 (intBits .or .i64 (intBits .or .i64 128 ((x0.Csrc.length:Int))) 16)),(IntKind.wrap .u8 x0.f_Type)] (.fz [(.p (.int .u8 (IntKind.wrap .u8 (intBits .or .i64 (intBits .or .i64 128 ((x0.Csrc.length:Int))) 16)))),(.p (.int .u8 (IntKind.wrap .u8 x0.f_Type)))] 2 1 true):=SlF.lit (cs:=[(.p (.int .u8 (IntKind.wrap .u8 (intBits .or .i64 (intBits .or .i64 128 ((x0.Csrc.length:Int))) 16)))),(.p (.int .u8 (IntKind.wrap .u8 x0.f_Type)))]) (RL.cons (show (dI .u8).R (IntKind.wrap .u8 (intBits .or .i64 (intBits .or .i64 128 ((x0.Csrc.length:Int))) 16)) [(.p (.int .u8 (IntKind.wrap .u8 (intBits .or .i64 (intBits .or .i64 128 ((x0.Csrc.length:Int))) 16))))] from rfl) (RL.cons (show (dI .u8).R (IntKind.wrap .u8 x0.f_Type) [(.p (.int .u8 (IntKind.wrap .u8 x0.f_Type)))] from rfl) RL.nil)) rfl rfl true
  refine .op (bldS (pC rfl (pC rfl pN)) (by kernel_rfl:_=some (vOf h185))) ?_
  refine .fa ?_
  refine .op ((S9.atG (i:=0) rfl).ld (j:=2) rfl) ?_
  refine .ci ?_
  refine .call (zq k ([(IntKind.wrap .u8 (intBits .or .i64 (intBits .or .i64 128 ((x0.Csrc.length:Int))) 16)),(IntKind.wrap .u8 x0.f_Type)]) (h185.h H7) (IntKind.wrap .u64 x0.Seq) 2) fun r186 cs187 H188 h189 q190=>?_
  obtain ⟨c191,cs192,h193,h194,q190⟩:=q190
  cases q190
  obtain ⟨v195,H196,e197,S198⟩:=S9.land (dt:=(dI .u8)) (d:=38) (e:=0) (n:=0) h193 h194 (by decide) rfl
  erw [e197]
  refine .fa ?_
  refine .op ((S198.atG (i:=0) rfl).ld (j:=3) rfl) ?_
  refine .ci ?_
  refine .fa ?_
  refine .op ((S198.atG (i:=0) rfl).ld (j:=4) rfl) ?_
  refine .ci ?_
  refine .call (zq k r186 (S198.sl (i:=0) rfl) (IntKind.wrap .u64 x0.Time) 4) fun r200 cs201 H202 h203 q204=>?_
  obtain ⟨c205,cs206,h207,h208,q204⟩:=q204
  cases q204
  obtain ⟨v209,H210,e211,S212⟩:=S198.land (dt:=(dI .u8)) (d:=43) (e:=0) (n:=0) h207 h208 (by decide) rfl
  erw [e211]
  refine .nd (rfl) ?_
  refine .nd ((S212.atG (i:=0) rfl).ld (j:=4) rfl) ?_
  refine .call (zq k r200 (S212.sl (i:=0) rfl) (IntKind.wrap .u64 x0.Ssrc) 4) fun r214 cs215 H216 h217 q218=>?_
  obtain ⟨c219,cs220,h221,h222,q218⟩:=q218
  cases q218
  obtain ⟨v223,H224,e225,S226⟩:=S212.land (dt:=(dI .u8)) (d:=47) (e:=0) (n:=0) h221 h222 (by decide) rfl
  erw [e225]
  refine .fa ?_
  refine .op ((S226.atG (i:=0) rfl).ld (j:=5) rfl) ?_
  refine .op ((h2.h H224).len) ?_
  refine .ci ?_
  refine .as (z4e ?_ k r214 x0.Csrc ((x0.Csrc.length:Int)) 0 x0 v223 v1 h2 _ hu0 (0::0::0::σ) H224 (S226.wk2 (aC (aM 0 rfl) aN) (aC ⟨[47],by simp,aM 0 rfl⟩ aN)))
  ·intro r228_7 yg71 v231 w233 h234 s235 H229 S230
   refine .ext (z4t _ _ _ _ _ _) ?_
   obtain ⟨v237,v239,v241,rfl,h238,h240,h242⟩:=z6.inv h234
   refine .fa ?_
   refine .op ((S230.atG (i:=0) rfl).ld (j:=6) rfl) ?_
   refine .ci ?_
   refine .cq ?_ ?_
   ·refine .fa ?_
    refine .op ((S230.atG (i:=0) rfl).ld (j:=6) rfl) ?_
    refine .ci ?_
    refine .fa ?_
    refine .op ((S230.atG (i:=0) rfl).ld (j:=7) rfl) ?_
    refine .op ((h240.h H229).len) ?_
    refine .ci ?_
    refine .call (zq k r228_7 (S230.sl (i:=0) rfl) (IntKind.wrap .u64 yg71.Profile) 2) fun r244 cs245 H246 h247 q248=>?_
    obtain ⟨c249,cs250,h251,h252,q248⟩:=q248
    cases q248
    obtain ⟨v253,H254,e255,S256⟩:=S230.land (dt:=(dI .u8)) (d:=67) (e:=0) (n:=0) h251 h252 (by decide) rfl
    erw [e255]
    refine .nd (rfl) ?_
    refine .nd ((S256.atG (i:=0) rfl).ld (j:=7) rfl) ?_
    refine .call (zq k r244 (S256.sl (i:=0) rfl) (IntKind.wrap .u64 (IntKind.wrap .i64 (Int.tdiv ((yg71.Ext.length:Int)) 4))) 2) fun r258 cs259 H260 h261 q262=>?_
    obtain ⟨c263,cs264,h265,h266,q262⟩:=q262
    cases q262
    obtain ⟨v267,H268,e269,S270⟩:=S256.land (dt:=(dI .u8)) (d:=73) (e:=0) (n:=0) h265 h266 (by decide) rfl
    erw [e269]
    refine .fa ?_
    refine .op ((S270.atG (i:=0) rfl).ld (j:=7) rfl) ?_
    refine .bd fun a272 h273=>?_
    obtain ⟨v274,H275,e276,S277⟩:=S270.app (i:=0) (d:=77) (e:=1) (own:=true) (σ:=(3::1::1::0::1::1::1::1::1::1::1::1::0::σ)) rfl (h240.h H268).y h273 rfl (by decide) (by decide) rfl
    refine .op (e276) ?_
    refine .fa ?_
    refine .op ((S277.atG (i:=0) rfl).ld (j:=8) rfl) ?_
    refine .bd fun a278 h279=>?_
    obtain ⟨v280,H281,e282,S283⟩:=S277.app (i:=0) (d:=81) (e:=1) (own:=true) (σ:=(3::0::1::1::1::1::1::1::1::1::1::0::σ)) rfl (h242.h H275).y h279 rfl (by decide) (by decide) rfl
    refine .op (e282) ?_
    obtain ⟨v289,H284,e285,h287,S286⟩:=S283.expFrz (i:=0) (τ:=0::1::σ) rfl rfl
    exact .fin (S286.finE (Ex.st e285 (Ex.pl (sI _ _).lv Ex.nil))) ⟨v289,h287,rfl⟩
   refine .fa ?_
   refine .op ((S230.atG (i:=0) rfl).ld (j:=8) rfl) ?_
   refine .bd fun a290 h291=>?_
   obtain ⟨v292,H293,e294,S295⟩:=S230.app (i:=0) (d:=81) (e:=1) (own:=true) (σ:=(3::0::1::1::1::1::1::1::1::1::1::0::σ)) rfl (h242.h H229).y h291 rfl (by decide) (by decide) rfl
   refine .op (e294) ?_
   obtain ⟨v301,H296,e297,h299,S298⟩:=S295.expFrz (i:=0) (τ:=0::1::σ) rfl rfl
   exact .fin (S298.finE (Ex.st e297 (Ex.pl (sI _ _).lv Ex.nil))) ⟨v301,h299,rfl⟩
 refine .fa ?_
 refine .op ((S9.atG (i:=0) rfl).ld (j:=0) rfl) ?_
 refine .ab ?_
 refine .cq ?_ ?_
 ·have h303:SlF (dI .u8) [(IntKind.wrap .u8 (intBits .or .i64 128 ((x0.Csrc.length:Int)))),(IntKind.wrap .u8 (intBits .or .i64 x0.f_Type 128))] (.fz [(.p (.int .u8 (IntKind.wrap .u8 (intBits .or .i64 128 ((x0.Csrc.length:Int)))))),(.p (.int .u8 (IntKind.wrap .u8 (intBits .or .i64 x0.f_Type 128))))] 2 1 true):=SlF.lit (cs:=[(.p (.int .u8 (IntKind.wrap .u8 (intBits .or .i64 128 ((x0.Csrc.length:Int)))))),(.p (.int .u8 (IntKind.wrap .u8 (intBits .or .i64 x0.f_Type 128))))]) (RL.cons (show (dI .u8).R (IntKind.wrap .u8 (intBits .or .i64 128 ((x0.Csrc.length:Int)))) [(.p (.int .u8 (IntKind.wrap .u8 (intBits .or .i64 128 ((x0.Csrc.length:Int))))))] from rfl) (RL.cons (show (dI .u8).R (IntKind.wrap .u8 (intBits .or .i64 x0.f_Type 128)) [(.p (.int .u8 (IntKind.wrap .u8 (intBits .or .i64 x0.f_Type 128))))] from rfl) RL.nil)) rfl rfl true
  refine .op (bldS (pC rfl (pC rfl pN)) (by kernel_rfl:_=some (vOf h303))) ?_
  refine .fa ?_
  refine .op ((S9.atG (i:=0) rfl).ld (j:=2) rfl) ?_
  refine .ci ?_
  refine .call (zq k ([(IntKind.wrap .u8 (intBits .or .i64 128 ((x0.Csrc.length:Int)))),(IntKind.wrap .u8 (intBits .or .i64 x0.f_Type 128))]) (h303.h H7) (IntKind.wrap .u64 x0.Seq) 2) fun r304 cs305 H306 h307 q308=>?_
  obtain ⟨c309,cs310,h311,h312,q308⟩:=q308
  cases q308
  obtain ⟨v313,H314,e315,S316⟩:=S9.land (dt:=(dI .u8)) (d:=38) (e:=0) (n:=0) h311 h312 (by decide) rfl
  erw [e315]
  refine .fa ?_
  refine .op ((S316.atG (i:=0) rfl).ld (j:=3) rfl) ?_
  refine .ci ?_
  refine .fa ?_
  refine .op ((S316.atG (i:=0) rfl).ld (j:=4) rfl) ?_
  refine .ci ?_
  refine .call (zq k r304 (S316.sl (i:=0) rfl) (IntKind.wrap .u64 x0.Time) 4) fun r318 cs319 H320 h321 q322=>?_
  obtain ⟨c323,cs324,h325,h326,q322⟩:=q322
  cases q322
  obtain ⟨v327,H328,e329,S330⟩:=S316.land (dt:=(dI .u8)) (d:=43) (e:=0) (n:=0) h325 h326 (by decide) rfl
  erw [e329]
  refine .nd (rfl) ?_
  refine .nd ((S330.atG (i:=0) rfl).ld (j:=4) rfl) ?_
  refine .call (zq k r318 (S330.sl (i:=0) rfl) (IntKind.wrap .u64 x0.Ssrc) 4) fun r332 cs333 H334 h335 q336=>?_
  obtain ⟨c337,cs338,h339,h340,q336⟩:=q336
  cases q336
  obtain ⟨v341,H342,e343,S344⟩:=S330.land (dt:=(dI .u8)) (d:=47) (e:=0) (n:=0) h339 h340 (by decide) rfl
  erw [e343]
  refine .fa ?_
  refine .op ((S344.atG (i:=0) rfl).ld (j:=5) rfl) ?_
  refine .op ((h2.h H342).len) ?_
  refine .ci ?_
  refine .as (z4e ?_ k r332 x0.Csrc ((x0.Csrc.length:Int)) 0 x0 v341 v1 h2 _ hu0 (0::0::0::σ) H342 (S344.wk2 (aC (aM 0 rfl) aN) (aC ⟨[47],by simp,aM 0 rfl⟩ aN)))
  ·intro r346_7 yg71 v349 w351 h352 s353 H347 S348
   refine .ext (z4t _ _ _ _ _ _) ?_
   obtain ⟨v355,v357,v359,rfl,h356,h358,h360⟩:=z6.inv h352
   refine .fa ?_
   refine .op ((S348.atG (i:=0) rfl).ld (j:=6) rfl) ?_
   refine .ci ?_
   refine .cq ?_ ?_
   ·refine .fa ?_
    refine .op ((S348.atG (i:=0) rfl).ld (j:=6) rfl) ?_
    refine .ci ?_
    refine .fa ?_
    refine .op ((S348.atG (i:=0) rfl).ld (j:=7) rfl) ?_
    refine .op ((h358.h H347).len) ?_
    refine .ci ?_
    refine .call (zq k r346_7 (S348.sl (i:=0) rfl) (IntKind.wrap .u64 yg71.Profile) 2) fun r362 cs363 H364 h365 q366=>?_
    obtain ⟨c367,cs368,h369,h370,q366⟩:=q366
    cases q366
    obtain ⟨v371,H372,e373,S374⟩:=S348.land (dt:=(dI .u8)) (d:=67) (e:=0) (n:=0) h369 h370 (by decide) rfl
    erw [e373]
    refine .nd (rfl) ?_
    refine .nd ((S374.atG (i:=0) rfl).ld (j:=7) rfl) ?_
    refine .call (zq k r362 (S374.sl (i:=0) rfl) (IntKind.wrap .u64 (IntKind.wrap .i64 (Int.tdiv ((yg71.Ext.length:Int)) 4))) 2) fun r376 cs377 H378 h379 q380=>?_
    obtain ⟨c381,cs382,h383,h384,q380⟩:=q380
    cases q380
    obtain ⟨v385,H386,e387,S388⟩:=S374.land (dt:=(dI .u8)) (d:=73) (e:=0) (n:=0) h383 h384 (by decide) rfl
    erw [e387]
    refine .fa ?_
    refine .op ((S388.atG (i:=0) rfl).ld (j:=7) rfl) ?_
    refine .bd fun a390 h391=>?_
    obtain ⟨v392,H393,e394,S395⟩:=S388.app (i:=0) (d:=77) (e:=1) (own:=true) (σ:=(3::1::1::0::1::1::1::1::1::1::1::1::0::σ)) rfl (h358.h H386).y h391 rfl (by decide) (by decide) rfl
    refine .op (e394) ?_
    refine .fa ?_
    refine .op ((S395.atG (i:=0) rfl).ld (j:=8) rfl) ?_
    refine .bd fun a396 h397=>?_
    obtain ⟨v398,H399,e400,S401⟩:=S395.app (i:=0) (d:=81) (e:=1) (own:=true) (σ:=(3::0::1::1::1::1::1::1::1::1::1::0::σ)) rfl (h360.h H393).y h397 rfl (by decide) (by decide) rfl
    refine .op (e400) ?_
    obtain ⟨v407,H402,e403,h405,S404⟩:=S401.expFrz (i:=0) (τ:=0::1::σ) rfl rfl
    exact .fin (S404.finE (Ex.st e403 (Ex.pl (sI _ _).lv Ex.nil))) ⟨v407,h405,rfl⟩
   refine .fa ?_
   refine .op ((S348.atG (i:=0) rfl).ld (j:=8) rfl) ?_
   refine .bd fun a408 h409=>?_
   obtain ⟨v410,H411,e412,S413⟩:=S348.app (i:=0) (d:=81) (e:=1) (own:=true) (σ:=(3::0::1::1::1::1::1::1::1::1::1::0::σ)) rfl (h360.h H347).y h409 rfl (by decide) (by decide) rfl
   refine .op (e412) ?_
   obtain ⟨v419,H414,e415,h417,S416⟩:=S413.expFrz (i:=0) (τ:=0::1::σ) rfl rfl
   exact .fin (S416.finE (Ex.st e415 (Ex.pl (sI _ _).lv Ex.nil))) ⟨v419,h417,rfl⟩
 have h420:SlF (dI .u8) [(IntKind.wrap .u8 (intBits .or .i64 128 ((x0.Csrc.length:Int)))),(IntKind.wrap .u8 x0.f_Type)] (.fz [(.p (.int .u8 (IntKind.wrap .u8 (intBits .or .i64 128 ((x0.Csrc.length:Int)))))),(.p (.int .u8 (IntKind.wrap .u8 x0.f_Type)))] 2 1 true):=SlF.lit (cs:=[(.p (.int .u8 (IntKind.wrap .u8 (intBits .or .i64 128 ((x0.Csrc.length:Int)))))),(.p (.int .u8 (IntKind.wrap .u8 x0.f_Type)))]) (RL.cons (show (dI .u8).R (IntKind.wrap .u8 (intBits .or .i64 128 ((x0.Csrc.length:Int)))) [(.p (.int .u8 (IntKind.wrap .u8 (intBits .or .i64 128 ((x0.Csrc.length:Int))))))] from rfl) (RL.cons (show (dI .u8).R (IntKind.wrap .u8 x0.f_Type) [(.p (.int .u8 (IntKind.wrap .u8 x0.f_Type)))] from rfl) RL.nil)) rfl rfl true
 refine .op (bldS (pC rfl (pC rfl pN)) (by kernel_rfl:_=some (vOf h420))) ?_
 refine .fa ?_
 refine .op ((S9.atG (i:=0) rfl).ld (j:=2) rfl) ?_
 refine .ci ?_
 refine .call (zq k ([(IntKind.wrap .u8 (intBits .or .i64 128 ((x0.Csrc.length:Int)))),(IntKind.wrap .u8 x0.f_Type)]) (h420.h H7) (IntKind.wrap .u64 x0.Seq) 2) fun r421 cs422 H423 h424 q425=>?_
 obtain ⟨c426,cs427,h428,h429,q425⟩:=q425
 cases q425
 obtain ⟨v430,H431,e432,S433⟩:=S9.land (dt:=(dI .u8)) (d:=38) (e:=0) (n:=0) h428 h429 (by decide) rfl
 erw [e432]
 refine .fa ?_
 refine .op ((S433.atG (i:=0) rfl).ld (j:=3) rfl) ?_
 refine .ci ?_
 refine .fa ?_
 refine .op ((S433.atG (i:=0) rfl).ld (j:=4) rfl) ?_
 refine .ci ?_
 refine .call (zq k r421 (S433.sl (i:=0) rfl) (IntKind.wrap .u64 x0.Time) 4) fun r435 cs436 H437 h438 q439=>?_
 obtain ⟨c440,cs441,h442,h443,q439⟩:=q439
 cases q439
 obtain ⟨v444,H445,e446,S447⟩:=S433.land (dt:=(dI .u8)) (d:=43) (e:=0) (n:=0) h442 h443 (by decide) rfl
 erw [e446]
 refine .nd (rfl) ?_
 refine .nd ((S447.atG (i:=0) rfl).ld (j:=4) rfl) ?_
 refine .call (zq k r435 (S447.sl (i:=0) rfl) (IntKind.wrap .u64 x0.Ssrc) 4) fun r449 cs450 H451 h452 q453=>?_
 obtain ⟨c454,cs455,h456,h457,q453⟩:=q453
 cases q453
 obtain ⟨v458,H459,e460,S461⟩:=S447.land (dt:=(dI .u8)) (d:=47) (e:=0) (n:=0) h456 h457 (by decide) rfl
 erw [e460]
 refine .fa ?_
 refine .op ((S461.atG (i:=0) rfl).ld (j:=5) rfl) ?_
 refine .op ((h2.h H459).len) ?_
 refine .ci ?_
 refine .as (z4e ?_ k r449 x0.Csrc ((x0.Csrc.length:Int)) 0 x0 v458 v1 h2 _ hu0 (0::0::0::σ) H459 (S461.wk2 (aC (aM 0 rfl) aN) (aC ⟨[47],by simp,aM 0 rfl⟩ aN)))
 ·intro r463_7 yg71 v466 w468 h469 s470 H464 S465
  refine .ext (z4t _ _ _ _ _ _) ?_
  obtain ⟨v472,v474,v476,rfl,h473,h475,h477⟩:=z6.inv h469
  refine .fa ?_
  refine .op ((S465.atG (i:=0) rfl).ld (j:=6) rfl) ?_
  refine .ci ?_
  refine .cq ?_ ?_
  ·refine .fa ?_
   refine .op ((S465.atG (i:=0) rfl).ld (j:=6) rfl) ?_
   refine .ci ?_
   refine .fa ?_
   refine .op ((S465.atG (i:=0) rfl).ld (j:=7) rfl) ?_
   refine .op ((h475.h H464).len) ?_
   refine .ci ?_
   refine .call (zq k r463_7 (S465.sl (i:=0) rfl) (IntKind.wrap .u64 yg71.Profile) 2) fun r479 cs480 H481 h482 q483=>?_
   obtain ⟨c484,cs485,h486,h487,q483⟩:=q483
   cases q483
   obtain ⟨v488,H489,e490,S491⟩:=S465.land (dt:=(dI .u8)) (d:=67) (e:=0) (n:=0) h486 h487 (by decide) rfl
   erw [e490]
   refine .nd (rfl) ?_
   refine .nd ((S491.atG (i:=0) rfl).ld (j:=7) rfl) ?_
   refine .call (zq k r479 (S491.sl (i:=0) rfl) (IntKind.wrap .u64 (IntKind.wrap .i64 (Int.tdiv ((yg71.Ext.length:Int)) 4))) 2) fun r493 cs494 H495 h496 q497=>?_
   obtain ⟨c498,cs499,h500,h501,q497⟩:=q497
   cases q497
   obtain ⟨v502,H503,e504,S505⟩:=S491.land (dt:=(dI .u8)) (d:=73) (e:=0) (n:=0) h500 h501 (by decide) rfl
   erw [e504]
   refine .fa ?_
   refine .op ((S505.atG (i:=0) rfl).ld (j:=7) rfl) ?_
   refine .bd fun a507 h508=>?_
   obtain ⟨v509,H510,e511,S512⟩:=S505.app (i:=0) (d:=77) (e:=1) (own:=true) (σ:=(3::1::1::0::1::1::1::1::1::1::1::1::0::σ)) rfl (h475.h H503).y h508 rfl (by decide) (by decide) rfl
   refine .op (e511) ?_
   refine .fa ?_
   refine .op ((S512.atG (i:=0) rfl).ld (j:=8) rfl) ?_
   refine .bd fun a513 h514=>?_
   obtain ⟨v515,H516,e517,S518⟩:=S512.app (i:=0) (d:=81) (e:=1) (own:=true) (σ:=(3::0::1::1::1::1::1::1::1::1::1::0::σ)) rfl (h477.h H510).y h514 rfl (by decide) (by decide) rfl
   refine .op (e517) ?_
   obtain ⟨v524,H519,e520,h522,S521⟩:=S518.expFrz (i:=0) (τ:=0::1::σ) rfl rfl
   exact .fin (S521.finE (Ex.st e520 (Ex.pl (sI _ _).lv Ex.nil))) ⟨v524,h522,rfl⟩
  refine .fa ?_
  refine .op ((S465.atG (i:=0) rfl).ld (j:=8) rfl) ?_
  refine .bd fun a525 h526=>?_
  obtain ⟨v527,H528,e529,S530⟩:=S465.app (i:=0) (d:=81) (e:=1) (own:=true) (σ:=(3::0::1::1::1::1::1::1::1::1::1::0::σ)) rfl (h477.h H464).y h526 rfl (by decide) (by decide) rfl
  refine .op (e529) ?_
  obtain ⟨v536,H531,e532,h534,S533⟩:=S530.expFrz (i:=0) (τ:=0::1::σ) rfl rfl
  exact .fin (S533.finE (Ex.st e532 (Ex.pl (sI _ _).lv Ex.nil))) ⟨v536,h534,rfl⟩
end
end Go.Ev
namespace Go.Ev
open Go.Proofs
set_option linter.unusedVariables false
set_option linter.unusedSimpArgs false
set_option maxRecDepth 100000
noncomputable section
abbrev KT3:=Exit→Env→H→Option (List C × H)
variable (rec : CallF) (loop : LoopV) (σ : Stamp)
def z4s:Code:=(codeAt (bodyOf Try.f18) [1,1,1,1,0,1,0,0])
def z4q:Lv:=⟨64,48,[(0,64)]⟩
def z7t:KT3:=(kBlock 0 (kSeq G rec loop (codeAt (bodyOf Try.f18) [1,1,1,1,1]) ⟨48,48,[]⟩ (1::1::1::1::0::σ) (finC G true Try.f18 (1::σ))))
theorem zdm (x0:Int) (x1:V) (h:H):cvBody G rec loop 18 σ [(.p (.int .u16 x0)),x1] h =
(bif x0 != 48862 then (some (x0 != 4096)) else (some false)).bind fun b1 =>
bif b1 then (
fin true σ (List.replicate 89 []::h) [(.p (.slice .none 0 0)),(.p (.int .i64 1))])
else (
(lenO x1).bind fun t2 =>
(castI .i64 t2).bind fun n3 =>
bif decide (n3>8) then (
fin true σ (List.replicate 89 []::h) [(.p (.slice .none 0 0)),(.p (.int .i64 3))])
else (
(lenO x1).bind fun t4 =>
(castI .i64 t4).bind fun n5 =>
(loop z4s z4q (1::0::1::1::1::1::0::σ) (envL [(0,(.p (.int .u16 x0))),(6,(.p (.slice .none 0 0))),(19,x1),(20,(.p (.int .i64 n5))),(21,(.p (.int .i64 0)))]) (List.replicate 89 []::h)).bind fun r6=>z7t rec loop σ r6.1 r6.2.1 r6.2.2)):=by kernel_rfl
theorem zg4 (x0:Int) (x6:V) (x19:V) (x20:Int) (x21:Int) (h:H):z1a G rec loop z4s z4q σ (envL [(0,(.p (.int .u16 x0))),(6,x6),(19,x19),(20,(.p (.int .i64 x20))),(21,(.p (.int .i64 x21)))]) h =
bif decide (x21<x20) then (
(iS 2 x19 x21).bind fun t7 =>
(ldO true 2 h t7).bind fun t8 =>
(some (alO [.p (.int .i64 0),.p (.slice none 0 0)] (2::0::0::1::1::0::σ) 8 h)).bind fun q9 =>
((stO false 2 (3::0::0::1::1::0::σ) q9.2 q9.1 t8).map fun h=>(udf,h)).bind fun q10 =>
(fA q9.1 1).bind fun t11 =>
(ldO false 1 q10.2 t11).bind fun t12 =>
(lenO t12).bind fun t13 =>
(castI .i64 t13).bind fun n14 =>
(bif x0==48862 then ((fA q9.1 0).bind fun t15 =>
(ldO false 1 q10.2 t15).bind fun t16 =>
(castI .i64 t16).bind fun n17 =>
(bif decide (n17<1) then (some true) else ((fA q9.1 0).bind fun t18 =>
(ldO false 1 q10.2 t18).bind fun t19 =>
(castI .i64 t19).bind fun n20 =>
some (decide (n20>14)))).bind fun b21 =>
(bif b21 then (some true) else (some (decide (n14<1)))).bind fun b22 =>
(bif b22 then (some true) else (some (decide (n14>16)))).bind fun b23 =>
some b23) else (some false)).bind fun b24 =>
(bif b24 then (some true) else ((fA q9.1 0).bind fun t25 =>
(ldO false 1 q10.2 t25).bind fun t26 =>
(castI .i64 t26).bind fun n27 =>
some (decide (n27<1)))).bind fun b28 =>
(bif b28 then (some true) else ((fA q9.1 0).bind fun t29 =>
(ldO false 1 q10.2 t29).bind fun t30 =>
(castI .i64 t30).bind fun n31 =>
some (decide (n31>255)))).bind fun b32 =>
(bif b32 then (some true) else (some (decide (n14>255)))).bind fun b33 =>
bif b33 then (
some (.ret,(envL [(4,(.p (.slice .none 0 0))),(5,(.p (.int .i64 1)))]),q10.2))
else (
bif x0==48862 then (
(fA q9.1 0).bind fun t34 =>
(ldO false 1 q10.2 t34).bind fun t35 =>
(castI .i64 t35).bind fun n36 =>
(bSV Try.prog 32 1 [(0,(.p (.int .u8 (IntKind.wrap .u8 (IntKind.wrap .i64 ((IntKind.wrap .i64 ((IntKind.wrap .i64 (16*n36))+n14))-1))))))]).bind fun t37 =>
(apO true 1 1 (9::1::0::1::1::1::0::1::1::0::σ) 73 q10.2 x6 t37).bind fun q38 =>
(fA q9.1 1).bind fun t39 =>
(ldO false 1 q38.2 t39).bind fun t40 =>
(apO true 1 1 (3::1::1::1::1::0::1::1::0::σ) 85 q38.2 q38.1 t40).bind fun q41 =>
loop z4s z4q (1::σ) (envL [(0,(.p (.int .u16 x0))),(6,q41.1),(19,x19),(20,(.p (.int .i64 x20))),(21,(.p (.int .i64 (IntKind.wrap .i64 (x21+1)))))]) q41.2)
else (
(fA q9.1 0).bind fun t42 =>
(ldO false 1 q10.2 t42).bind fun t43 =>
(castI .i64 t43).bind fun n44 =>
(bSV Try.prog 32 2 [(0,(.p (.int .u8 (IntKind.wrap .u8 n44)))),(1,(.p (.int .u8 (IntKind.wrap .u8 n14))))]).bind fun t45 =>
(apO true 1 1 (7::1::0::1::1::1::0::1::1::0::σ) 81 q10.2 x6 t45).bind fun q46 =>
(fA q9.1 1).bind fun t47 =>
(ldO false 1 q46.2 t47).bind fun t48 =>
(apO true 1 1 (3::1::1::1::1::0::1::1::0::σ) 85 q46.2 q46.1 t48).bind fun q49 =>
loop z4s z4q (1::σ) (envL [(0,(.p (.int .u16 x0))),(6,q49.1),(19,x19),(20,(.p (.int .i64 x20))),(21,(.p (.int .i64 (IntKind.wrap .i64 (x21+1)))))]) q49.2)))
else (
some ((.exit 0),(envL [(6,x6)]),h)):=by kernel_rfl
theorem zec (x6:V) (h:H):z7t rec loop σ (.exit 0) (envL [(6,x6)]) h =
(callO rec 54 (1::0::1::1::1::1::1::0::σ) [x6,(.p (.int .i64 4))] h (some 88)).bind fun q50 =>
fin true σ q50.2 [q50.1,(.p (.int .i64 0))]:=by kernel_rfl
theorem zct (x4:V) (x5:Int) (h:H):z7t rec loop σ .ret (envL [(4,x4),(5,(.p (.int .i64 x5)))]) h =
fin true σ h [x4,(.p (.int .i64 x5))]:=by kernel_rfl
def z79:Code:=(codeAt (bodyOf Try.f54) [1,1,0,0,0])
def z7e:Lv:=⟨32,16,[(0,32)]⟩
def zdc:KT3:=(kBlock 0 (kSeq G rec loop (codeAt (bodyOf Try.f54) [1,1,1]) ⟨16,16,[]⟩ (1::1::0::σ) (finC G false Try.f54 (1::σ))))
theorem zg0 (x0:V) (x1:Int) (h:H):cvBody G rec loop 54 σ [x0,(.p (.int .i64 x1))] h =
(bSV Try.prog 32 0 []).bind fun t1 =>
(apO true 1 1 (2::0::1::0::σ) 8 (List.replicate 26 []::h) t1 x0).bind fun q2 =>
(loop z79 z7e (0::1::1::0::σ) (envL [(1,(.p (.int .i64 x1))),(5,q2.1)]) q2.2).bind fun r3=>zdc rec loop σ r3.1 r3.2.1 r3.2.2:=by kernel_rfl
theorem zje (x1:Int) (x5:V) (h:H):z1a G rec loop z79 z7e σ (envL [(1,(.p (.int .i64 x1))),(5,x5)]) h =
(bif decide (x1≥1) then (some (decide (x1≤64))) else (some false)).bind fun b4 =>
(bif b4 then ((lenO x5).bind fun t5 =>
(castI .i64 t5).bind fun n6 =>
(remI .i64 n6 x1).bind fun t7 =>
(castI .i64 t7).bind fun n8 =>
some (n8 != 0)) else (some false)).bind fun b9 =>
bif b9 then (
(bSV Try.prog 32 1 [(0,(.p (.int .u8 0)))]).bind fun t10 =>
(apO true 1 1 (2::1::0::σ) 24 h x5 t10).bind fun q11 =>
loop z79 z7e (1::σ) (envL [(1,(.p (.int .i64 x1))),(5,q11.1)]) q11.2)
else (
some ((.exit 0),(envL [(5,x5)]),h)):=by kernel_rfl
theorem zg5 (x5:V) (h:H):zdc rec loop σ (.exit 0) (envL [(5,x5)]) h =
fin false σ h [x5]:=by kernel_rfl
end
end Go.Ev
namespace Go.Ev
open Go.Proofs
set_option linter.unusedVariables false
set_option linter.unusedSimpArgs false
set_option maxRecDepth 100000
section
variable {β α : Type} {Q : β→α→Prop} {K : Exit × Env × H→Option α}
def z65 {β:Type} (k:Nat) (kE0:(List Int)→Option β) (x1:Int) (x5:(List Int)):Option β:=match k with
| 0=>none
| k+1 =>
(bif decide (x1≥1) then (some (decide (x1≤64))) else (some false)).bind fun b14 =>
(bif b14 then ((remP ((x5.length:Int)) x1).bind fun n18 =>
some (n18 != 0)) else (some false)).bind fun b20 =>
bif b20 then (
(ap 1 x5 ([0])).bind fun a26 =>
z65 k kE0 x1 a26)
else (
kE0 x5)
def zb8 (k:Nat) (x0:(List Int)) (x1:Int):Option ((List Int)) :=
(ap 1 (([]:List Int)) x0).bind fun a4 =>
z65 k (fun r36_5 =>
some (r36_5)) x1 a4
theorem zfo {h:H}  {kE0:(List Int)→Option β} (hE0:∀ (q5:(List Int)) (v34:V) (H32:Go.Ev.H) (_:Fm 26 h [] [] [⟨[8,24],v34,(dI .u8),q5⟩] H32),Sim (kE0 q5) (K ((.exit 0),(envL [(5,v34)]),H32)) Q) (k:Nat):∀ (x1:Int) (x5:(List Int)) (v12:V) (H10:Go.Ev.H) (_:Fm 26 h [] [] [⟨[8,24],v12,(dI .u8),x5⟩] H10) {σ:Stamp},Sim (z65 k kE0 x1 x5) ((cvL G X0 z79 z7e σ (envL [(1,(.p (.int .i64 x1))),(5,v12)]) H10).bind K) Q:=by
 induction k with
 | zero=>intros;exact .no
 | succ k ih =>
  intro x1 x5 v12 H10 S11 σ
  rw [z65]
  refine .round (Sim.ext (zje _ _ _ _ _ _) ?_)
  refine .ch (P:=fun r y=>r=y) ?_ (fun b14 y15 h16 h17=>?_)
  ·refine .cq ?_ ?_
   ·exact .ret rfl rfl
   ·exact .ret rfl rfl
  subst h17
  refine .ch (P:=fun r y=>r=y) ?_ (fun b20 y21 h22 h23=>?_)
  ·refine .cq ?_ ?_
   ·refine .op ((S11.sl (i:=0) rfl).len) ?_
    refine .ci ?_
    refine .bd fun n18 h19=>?_
    refine .op (zea h19) ?_
    refine .ci ?_
    exact .ret rfl rfl
   ·exact .ret rfl rfl
  subst h23
  refine .cq ?_ ?_
  ·have h25:=SlF.int1 .u8 0
   refine .op (bldS (pC rfl pN) (by kernel_rfl:_=some (vOf h25))) ?_
   refine .bd fun a26 h27=>?_
   obtain ⟨v28,H29,e30,S31⟩:=S11.app (i:=0) (d:=24) (e:=1) (own:=true) (σ:=(2::1::0::σ)) rfl (h25.h H10).y h27 rfl (by decide) (by decide) rfl
   refine .op (e30) ?_
   exact ih x1 a26 v28 H29 (S31.wk2 aN (aC ⟨[24,8,24],by simp,aM 0 rfl⟩ aN))
  exact hE0 x5 v12 H10 (S11.wk2 aN (aC ⟨[8,24],by simp,aM 0 rfl⟩ aN))
theorem zjf (k:Nat) {h:H} {σ:Stamp} (x0:List Int) {u0:V} (hu0:SlH h (dI .u8) x0 u0) (x1:Int):Sim (zb8 k x0 x1) (ev G X0 54 σ [u0,(.p (.int .i64 x1))] h) (fun r s=>∃ (c0:C),∃ (a0:List V),OwnS c0 (dI .u8).sz r.length a0∧(dI .u8).L r a0∧s=([c0],h)):=by
 refine .ev rfl (Sim.ext (zg0 _ _ _ _ _ _) ?_)
 rw [zb8]
 have S0:Fm 26 h [] [] [] (List.replicate 26 []::h):=Fm.start0
 have h1:SlF (dI .u8) ([]:List Int) (.fz [] 0 1 true):=SlF.lit (cs:=[]) RL.nil rfl rfl true
 refine .op (bldS pN (by kernel_rfl:_=some (vOf h1))) ?_
 have S3:=S0.nil' (dI .u8) [] (e:=1) rfl
 refine .bd fun a4 h5=>?_
 obtain ⟨v6,H7,e8,S9⟩:=S3.app (i:=0) (d:=8) (e:=1) (own:=true) (σ:=(2::0::1::0::σ)) rfl (S3.low hu0).y h5 rfl (by decide) (by decide) rfl
 refine .op (e8) ?_
 refine .as (zfo ?_ k x1 a4 v6 H7 (S9.wk2 aN (aC ⟨[8],by simp,aM 0 rfl⟩ aN)))
 ·intro r36_5 v39 H37 S38
  refine .ext (zg5 _ _ _ _ _) ?_
  obtain ⟨c46,cs47,H41,e42,h44,h45,S43⟩:=S38.expOwn (i:=0) (τ:=0::1::σ) rfl rfl rfl
  exact .fin (S43.finE (Ex.st e42 Ex.nil)) ⟨c46,cs47,h44,h45,rfl⟩
def z3f {β:Type} (k:Nat) (kE0:(List Int)→Option β) (kE1:Int→Option β) (x0:Int) (x6:(List Int)) (x19:(List zl)) (x20:Int) (x21:Int):Option β:=match k with
| 0=>none
| k+1 =>
bif decide (x21<x20) then (
(ix x19 x21).bind fun a16 =>
(bif x0==48862 then ((bif decide (a16.ID<1) then (some true) else (some (decide (a16.ID>14)))).bind fun b30 =>
(bif b30 then (some true) else (some (decide (((a16.Data.length:Int))<1)))).bind fun b34 =>
(bif b34 then (some true) else (some (decide (((a16.Data.length:Int))>16)))).bind fun b38 =>
some b38) else (some false)).bind fun b42 =>
(bif b42 then (some true) else (some (decide (a16.ID<1)))).bind fun b46 =>
(bif b46 then (some true) else (some (decide (a16.ID>255)))).bind fun b50 =>
(bif b50 then (some true) else (some (decide (((a16.Data.length:Int))>255)))).bind fun b54 =>
bif b54 then (
kE1 1)
else (
bif x0==48862 then (
(ap 1 x6 ([(IntKind.wrap .u8 (IntKind.wrap .i64 ((IntKind.wrap .i64 ((IntKind.wrap .i64 (16*a16.ID))+((a16.Data.length:Int))))-1)))])).bind fun a61 =>
(ap 1 a61 a16.Data).bind fun a67 =>
z3f k kE0 kE1 x0 a67 x19 x20 (IntKind.wrap .i64 (x21+1)))
else (
(ap 1 x6 ([(IntKind.wrap .u8 a16.ID),(IntKind.wrap .u8 ((a16.Data.length:Int)))])).bind fun a74 =>
(ap 1 a74 a16.Data).bind fun a80 =>
z3f k kE0 kE1 x0 a80 x19 x20 (IntKind.wrap .i64 (x21+1)))))
else (
kE0 x6)
def z6l (k:Nat) (x0:Int) (x1:(List zl)):Option ((List Int)×Int) :=
(bif x0 != 48862 then (some (x0 != 4096)) else (some false)).bind fun b1 =>
bif b1 then (
some ((([]:List Int)),1))
else (
bif decide (((x1.length:Int))>8) then (
some ((([]:List Int)),3))
else (
z3f k (fun r94_6 =>
(zb8 k r94_6 4).bind fun r99 =>
some (r99,0)) (fun r119_5 =>
some ((([]:List Int)),r119_5)) x0 (([]:List Int)) x1 ((x1.length:Int)) 0))
theorem zd4 {h:H}  {kE0:(List Int)→Option β} {kE1:Int→Option β} (hE0:∀ (q6:(List Int)) (v88:V) (H86:Go.Ev.H) (_:Fm 89 h [] [] [⟨[73,81,85],v88,(dI .u8),q6⟩] H86),Sim (kE0 q6) (K ((.exit 0),(envL [(6,v88)]),H86)) Q) (hE1:∀ (q5:Int) (H90:Go.Ev.H) (_:Fm 89 h [] [] [] H90),Sim (kE1 q5) (K (.ret,(envL [(4,(.p (.slice none 0 0))),(5,(.p (.int .i64 q5)))]),H90)) Q) (k:Nat):∀ (x0:Int) (x6:(List Int)) (x19:(List zl)) (x20:Int) (x21:Int) (v11:V) (v13:V) (h14:SlH h zj x19 v13) (H9:Go.Ev.H) (_:Fm 89 h [] [] [⟨[73,81,85],v11,(dI .u8),x6⟩] H9) {σ:Stamp},Sim (z3f k kE0 kE1 x0 x6 x19 x20 x21) ((cvL G X0 z4s z4q σ (envL [(0,(.p (.int .u16 x0))),(6,v11),(19,v13),(20,(.p (.int .i64 x20))),(21,(.p (.int .i64 x21)))]) H9).bind K) Q:=by
 induction k with
 | zero=>intros;exact .no
 | succ k ih =>
  intro x0 x6 x19 x20 x21 v11 v13 h14 H9 S10 σ
  rw [z3f]
  refine .round (Sim.ext (zg4 _ _ _ _ _ _ _ _ _) ?_)
  refine .cq ?_ ?_
  ·refine .bd fun a16 h17=>?_
   refine .op ((S10.low h14).iS h17 rfl) ?_
   obtain ⟨w19,h20,hE18⟩:=(S10.low h14).el h17 rfl
   obtain ⟨v21,rfl,h22⟩:=zj.inv h20
   refine .op (hE18.all (by simp)) ?_
   obtain ⟨H23,e24,S25⟩:=S10.al (d:=8) (s:=(2::0::0::1::1::0::σ)) (z:=[(.p (.int .i64 0)),(.p (.slice none 0 0))]) (by decide) rfl
   refine .op (congrArg some e24) ?_
   obtain ⟨H27,e28,S29⟩:=S25.stGv (i:=0) (j:=0) (own:=false) (σ:=(3::0::0::1::1::0::σ)) (xs:=[.p (.int .i64 a16.ID),v21]) rfl rfl (sC (sI _ _) (sC h22.still sN)) rfl rfl
   refine .op (sM e28) ?_
   refine .fa ?_
   refine .op ((S29.atG (i:=0) rfl).ld (j:=1) rfl) ?_
   refine .op ((h22.h H27).len) ?_
   refine .ci ?_
   refine .ch (P:=fun r y=>r=y) ?_ (fun b42 y43 h44 h45=>?_)
   ·refine .cq ?_ ?_
    ·refine .fa ?_
     refine .op ((S29.atG (i:=0) rfl).ld (j:=0) rfl) ?_
     refine .ci ?_
     refine .ch (P:=fun r y=>r=y) ?_ (fun b30 y31 h32 h33=>?_)
     ·refine .cq ?_ ?_
      ·exact .ret rfl rfl
      ·refine .fa ?_
       refine .op ((S29.atG (i:=0) rfl).ld (j:=0) rfl) ?_
       refine .ci ?_
       exact .ret rfl rfl
     subst h33
     refine .ch (P:=fun r y=>r=y) ?_ (fun b34 y35 h36 h37=>?_)
     ·refine .cq ?_ ?_
      ·exact .ret rfl rfl
      ·exact .ret rfl rfl
     subst h37
     refine .ch (P:=fun r y=>r=y) ?_ (fun b38 y39 h40 h41=>?_)
     ·refine .cq ?_ ?_
      ·exact .ret rfl rfl
      ·exact .ret rfl rfl
     subst h41
     exact .ret rfl rfl
    ·exact .ret rfl rfl
   subst h45
   refine .ch (P:=fun r y=>r=y) ?_ (fun b46 y47 h48 h49=>?_)
   ·refine .cq ?_ ?_
    ·exact .ret rfl rfl
    ·refine .fa ?_
     refine .op ((S29.atG (i:=0) rfl).ld (j:=0) rfl) ?_
     refine .ci ?_
     exact .ret rfl rfl
   subst h49
   refine .ch (P:=fun r y=>r=y) ?_ (fun b50 y51 h52 h53=>?_)
   ·refine .cq ?_ ?_
    ·exact .ret rfl rfl
    ·refine .fa ?_
     refine .op ((S29.atG (i:=0) rfl).ld (j:=0) rfl) ?_
     refine .ci ?_
     exact .ret rfl rfl
   subst h53
   refine .ch (P:=fun r y=>r=y) ?_ (fun b54 y55 h56 h57=>?_)
   ·refine .cq ?_ ?_
    ·exact .ret rfl rfl
    ·exact .ret rfl rfl
   subst h57
   refine .cq ?_ ?_
   ·exact hE1 1 H27 (S29.wk2 aN aN)
   refine .cq ?_ ?_
   ·refine .fa ?_
    refine .op ((S29.atG (i:=0) rfl).ld (j:=0) rfl) ?_
    refine .ci ?_
    have h60:=SlF.int1 .u8 (IntKind.wrap .u8 (IntKind.wrap .i64 ((IntKind.wrap .i64 ((IntKind.wrap .i64 (16*a16.ID))+((a16.Data.length:Int))))-1)))
    refine .op (bldS (pC rfl pN) (by kernel_rfl:_=some (vOf h60))) ?_
    refine .bd fun a61 h62=>?_
    obtain ⟨v63,H64,e65,S66⟩:=S29.app (i:=0) (d:=73) (e:=1) (own:=true) (σ:=(9::1::0::1::1::1::0::1::1::0::σ)) rfl (h60.h H27).y h62 rfl (by decide) (by decide) rfl
    refine .op (e65) ?_
    refine .fa ?_
    refine .op ((S66.atG (i:=0) rfl).ld (j:=1) rfl) ?_
    refine .bd fun a67 h68=>?_
    obtain ⟨v69,H70,e71,S72⟩:=S66.app (i:=0) (d:=85) (e:=1) (own:=true) (σ:=(3::1::1::1::1::0::1::1::0::σ)) rfl (h22.h H64).y h68 rfl (by decide) (by decide) rfl
    refine .op (e71) ?_
    exact ih x0 a67 x19 x20 (IntKind.wrap .i64 (x21+1)) v69 v13 h14 H70 (S72.wk2 aN (aC ⟨[85,73,73,81,85],by simp,aM 0 rfl⟩ aN))
   refine .fa ?_
   refine .op ((S29.atG (i:=0) rfl).ld (j:=0) rfl) ?_
   refine .ci ?_
   have h73:SlF (dI .u8) [(IntKind.wrap .u8 a16.ID),(IntKind.wrap .u8 ((a16.Data.length:Int)))] (.fz [(.p (.int .u8 (IntKind.wrap .u8 a16.ID))),(.p (.int .u8 (IntKind.wrap .u8 ((a16.Data.length:Int)))))] 2 1 true):=SlF.lit (cs:=[(.p (.int .u8 (IntKind.wrap .u8 a16.ID))),(.p (.int .u8 (IntKind.wrap .u8 ((a16.Data.length:Int)))))]) (RL.cons (show (dI .u8).R (IntKind.wrap .u8 a16.ID) [(.p (.int .u8 (IntKind.wrap .u8 a16.ID)))] from rfl) (RL.cons (show (dI .u8).R (IntKind.wrap .u8 ((a16.Data.length:Int))) [(.p (.int .u8 (IntKind.wrap .u8 ((a16.Data.length:Int)))))] from rfl) RL.nil)) rfl rfl true
   refine .op (bldS (pC rfl (pC rfl pN)) (by kernel_rfl:_=some (vOf h73))) ?_
   refine .bd fun a74 h75=>?_
   obtain ⟨v76,H77,e78,S79⟩:=S29.app (i:=0) (d:=81) (e:=1) (own:=true) (σ:=(7::1::0::1::1::1::0::1::1::0::σ)) rfl (h73.h H27).y h75 rfl (by decide) (by decide) rfl
   refine .op (e78) ?_
   refine .fa ?_
   refine .op ((S79.atG (i:=0) rfl).ld (j:=1) rfl) ?_
   refine .bd fun a80 h81=>?_
   obtain ⟨v82,H83,e84,S85⟩:=S79.app (i:=0) (d:=85) (e:=1) (own:=true) (σ:=(3::1::1::1::1::0::1::1::0::σ)) rfl (h22.h H77).y h81 rfl (by decide) (by decide) rfl
   refine .op (e84) ?_
   exact ih x0 a80 x19 x20 (IntKind.wrap .i64 (x21+1)) v82 v13 h14 H83 (S85.wk2 aN (aC ⟨[85,81,73,81,85],by simp,aM 0 rfl⟩ aN))
  exact hE0 x6 v11 H9 (S10.wk2 aN (aC ⟨[73,81,85],by simp,aM 0 rfl⟩ aN))
theorem zgq (k:Nat) {h:H} {σ:Stamp} (x0:Int) (x1:List zl) {u1:V} (hu1:SlH h zj x1 u1):Sim (z6l k x0 x1) (ev G X0 18 σ [(.p (.int .u16 x0)),u1] h) (fun r s=>∃ (v0:V),SlF (dI .u8) r.1 v0∧s=([.v v0,.v (.p (.int .i64 r.2))],h)):=by
 refine .ev rfl (Sim.ext (zdm _ _ _ _ _ _) ?_)
 rw [z6l]
 have S0:Fm 89 h [] [] [] (List.replicate 89 []::h):=Fm.start0
 refine .ch (P:=fun r y=>r=y) ?_ (fun b1 y2 h3 h4=>?_)
 ·refine .cq ?_ ?_
  ·exact .ret rfl rfl
  ·exact .ret rfl rfl
 subst h4
 refine .cq ?_ ?_
 ·exact .fin (S0.finN (lC (SlF.nil (dI .u8)).still.lv (lC (sI _ _).lv lN))) ⟨(.p (.slice none 0 0)),(SlF.nil (dI .u8)),rfl⟩
 refine .op ((S0.low hu1).len) ?_
 refine .ci ?_
 refine .cq ?_ ?_
 ·exact .fin (S0.finN (lC (SlF.nil (dI .u8)).still.lv (lC (sI _ _).lv lN))) ⟨(.p (.slice none 0 0)),(SlF.nil (dI .u8)),rfl⟩
 refine .op ((S0.low hu1).len) ?_
 refine .ci ?_
 have S93:=S0.nil (dI .u8) []
 refine .as (zd4 ?_ ?_ k x0 (([]:List Int)) x1 ((x1.length:Int)) 0 (.p (.slice none 0 0)) u1 hu1 (List.replicate 89 []::h) (S93.wk2 aN (aC ⟨[],by simp,aM 0 rfl⟩ aN)))
 ·intro r94_6 v97 H95 S96
  refine .ext (zec _ _ _ _ _) ?_
  refine .call (zjf k r94_6 (S96.sl (i:=0) rfl) 4) fun r99 cs100 H101 h102 q103=>?_
  obtain ⟨c104,cs105,h106,h107,q103⟩:=q103
  cases q103
  obtain ⟨v108,H109,e110,S111⟩:=S96.land (dt:=(dI .u8)) (d:=88) (e:=0) (n:=0) h106 h107 (by decide) rfl
  erw [e110]
  obtain ⟨v118,H113,e114,h116,S115⟩:=S111.expFrz (i:=0) (τ:=0::1::σ) rfl rfl
  exact .fin (S115.finE (Ex.st e114 (Ex.pl (sI _ _).lv Ex.nil))) ⟨v118,h116,rfl⟩
 ·intro r119_5 H120 S121
  refine .ext (zct _ _ _ _ _ _) ?_
  exact .fin (S121.finN (lC (SlF.nil (dI .u8)).still.lv (lC (sI _ _).lv lN))) ⟨(.p (.slice none 0 0)),(SlF.nil (dI .u8)),rfl⟩
def z49 (k:Nat) (x0:z7) (x1:Int) (x2:Int) (x3:Bool) (x4:Int):Option ((List Int)) :=
(mk 1 0 x4).bind fun a7 =>
(z6l k 48862 ([((⟨1,(bytesS x0.Rid)⟩:zl))])).bind fun r30 =>
(bif x3 then (some (decide (x4>0))) else (some false)).bind fun b40 =>
bif b40 then (
(ix a7 0).bind fun a45 =>
(stx a7 0 1).bind fun a50 =>
(z46 k ((⟨false,96,x1,x2,x0.Ssrc,(([]:List Int)),48862,r30.1,a50⟩:TaiRtp))).bind fun r67 =>
some (r67.1))
else (
(z46 k ((⟨false,96,x1,x2,x0.Ssrc,(([]:List Int)),48862,r30.1,a7⟩:TaiRtp))).bind fun r86 =>
some (r86.1))
theorem zb3 (k:Nat) {h:H} {σ:Stamp} (x0:z7) {u0:List V} (hu0:z8.R x0 u0) (x1:Int) (x2:Int) (x3:Bool) (x4:Int):Sim (z49 k x0 x1 x2 x3 x4) (ev G X0 41 σ [(.agg u0),(.p (.int .u16 x1)),(.p (.int .u32 x2)),(.p (.bool x3)),(.p (.int .i64 x4))] h) (fun r s=>∃ (v0:V),SlF (dI .u8) r v0∧s=([.v v0],h)):=by
 refine .ev rfl (Sim.ext (zdf _ _ _ _ _ _ _ _ _) ?_)
 rw [z49]
 obtain rfl:=z8.inv hu0
 have S0:Fm 45 h [] [] [] (List.replicate 45 []::h):=Fm.start0
 obtain ⟨H1,e2,S3⟩:=S0.box (own:=false) (d:=5) (s:=(0::0::0::σ)) (xs:=[(.p (.string x0.Rid)),(.p (.int .u32 x0.Ssrc)),(.p (.int .i64 x0.Height))]) (sC (still_str _) (sC (sI _ _) (sC (sI _ _) sN))) (by decide) rfl
 refine .op (e2) ?_
 have S5:=S3.add (d:=11) (s:=(7::0::1::0::σ)) (cs:=List.map C.v [(.p (.bool false)),(.p (.int .i64 0)),(.p (.int .u16 0)),(.p (.int .u32 0)),(.p (.int .u32 0)),(.p (.slice none 0 0)),(.p (.int .u16 0)),(.p (.slice none 0 0)),(.p (.slice none 0 0))]) (by decide) rfl
 have S5:Fm _ _ _ _ _ (alO [(.p (.bool false)),(.p (.int .i64 0)),(.p (.int .u16 0)),(.p (.int .u32 0)),(.p (.int .u32 0)),(.p (.slice none 0 0)),(.p (.int .u16 0)),(.p (.slice none 0 0)),(.p (.slice none 0 0))] (7::0::1::0::σ) 11 H1).2:=S5
 first | rw [S5.newLoc 11 (7::0::1::0::σ)] | erw [S5.newLoc 11 (7::0::1::0::σ)]
 refine .nd (⟨_,(by kernel_rfl),S5.slot (i:=0) rfl⟩) ?_
 refine .fa ?_
 refine .op ((S5.atG (i:=1) rfl).ld (j:=1) rfl) ?_
 refine .ci ?_
 refine .bd fun a7 h8=>?_
 obtain ⟨v9,H10,e11,S12⟩:=S5.mk (dt:=(dI .u8)) (d:=19) (e:=1) (zv:=[(.p (.int .u8 0))]) (σ:=(5::0::1::0::σ)) h8 rfl rfl (by decide) (by decide) rfl
 refine .op (e11) ?_
 refine .nd ((S12.atG (i:=1) rfl).ld (j:=1) rfl) ?_
 refine .nd (⟨_,(by kernel_rfl),S12.slot (i:=0) rfl⟩) ?_
 obtain ⟨v14,H15,e16,h17,S18⟩:=S12.layD (i:=0) rfl rfl
 have e19:layCs false H10 [(.p (.bool false)),(.p (.int .i64 96)),(.p (.int .u16 x1)),(.p (.int .u32 x2)),(.p (.int .u32 x0.Ssrc)),(.p (.slice none 0 0)),(.p (.int .u16 48862)),(.p (.slice none 0 0)),v9]=some (List.map C.v [.p (.bool false),.p (.int .i64 96),.p (.int .u16 x1),.p (.int .u32 x2),.p (.int .u32 x0.Ssrc),.p (.slice none 0 0),.p (.int .u16 48862),.p (.slice none 0 0),v14],H15):=(lc_pl (sB _) (lc_pl (sI _ _) (lc_pl (sI _ _) (lc_pl (sI _ _) (lc_pl (sI _ _) (lc_pl (SlF.nil (dI .u32)).still (lc_pl (sI _ _) (lc_pl (SlF.nil (dI .u8)).still (lc_st e16 lc_nil)))))))))
 refine .op (bldV (pC rfl (pC rfl (pC rfl (pC rfl (pC rfl (pC (S12.cellsD (i:=0) rfl) pN)))))) (by kernel_rfl:_=some (.agg [(.p (.bool false)),(.p (.int .i64 96)),(.p (.int .u16 x1)),(.p (.int .u32 x2)),(.p (.int .u32 x0.Ssrc)),(.p (.slice none 0 0)),(.p (.int .u16 48862)),(.p (.slice none 0 0)),v9]))) ?_
 obtain ⟨c23,H24,e25,h26,h27,S28⟩:=S12.layO (k:=0) rfl rfl rfl
 obtain ⟨H20,e21,S22⟩:=Fm.stL (i0:=0) (i:=0) (j:=0) (n:=9) (σ:=(8::0::1::0::σ)) S12 S28 rfl rfl rfl (lo_pl (sB _) (lo_pl (sI _ _) (lo_pl (sI _ _) (lo_pl (sI _ _) (lo_pl (sI _ _) (lo_pl (SlF.nil (dI .u32)).still (lo_pl (sI _ _) (lo_pl (SlF.nil (dI .u8)).still (lo_ow e25 lo_nil))))))))) rfl rfl
 refine .op (sM e21) ?_
 refine .fa ?_
 refine .op ((S22.atG (i:=1) rfl).ld (j:=0) rfl) ?_
 refine .op (castS_p _) ?_
 refine .op (bldV (pC rfl (pC (SlF.bytes x0.Rid).still.cells pN)) (by kernel_rfl:_=some (.agg [.p (.int .i64 1),.fz (x0.Rid.data.toList.map fun b:UInt8=>V.p (Value.int .u8 (b.toNat:Int))) x0.Rid.size 1 false]))) ?_
 have h29:SlF zj [((⟨1,(bytesS x0.Rid)⟩:zl))] (.fz [(.p (.int .i64 1)),(.fz (x0.Rid.data.toList.map fun b:UInt8=>V.p (Value.int .u8 (b.toNat:Int))) x0.Rid.size 1 false)] 1 2 true):=SlF.lit (cs:=[(.p (.int .i64 1)),(.fz (x0.Rid.data.toList.map fun b:UInt8=>V.p (Value.int .u8 (b.toNat:Int))) x0.Rid.size 1 false)]) (RL.cons (show zj.R ((⟨1,(bytesS x0.Rid)⟩:zl)) [.p (.int .i64 1),.fz (x0.Rid.data.toList.map fun b:UInt8=>V.p (Value.int .u8 (b.toNat:Int))) x0.Rid.size 1 false] from (zj.mk (SlF.bytes x0.Rid))) RL.nil) rfl rfl true
 refine .op (bldS (pC (c:=[.p (.int .i64 1),.fz (x0.Rid.data.toList.map fun b:UInt8=>V.p (Value.int .u8 (b.toNat:Int))) x0.Rid.size 1 false]) rfl pN) (by kernel_rfl:_=some (vOf h29))) ?_
 refine .call (zgq k 48862 ([((⟨1,(bytesS x0.Rid)⟩:zl))]) (h29.h H20)) fun r30 cs31 H32 h33 q34=>?_
 obtain ⟨v35,h36,q34⟩:=q34
 cases q34
 refine .or ?_
 refine .or ?_
 refine .ci ?_
 refine .fa ?_
 obtain ⟨H37,e38,S39⟩:=S22.stG (i:=0) (j:=7) (own:=true) (σ:=(10::0::1::1::0::σ)) (x:=v35) rfl rfl h36.still rfl
 refine .op (sM e38) ?_
 refine .ch (P:=fun r y=>r=y) ?_ (fun b40 y41 h42 h43=>?_)
 ·refine .cq ?_ ?_
  ·exact .ret rfl rfl
  ·exact .ret rfl rfl
 subst h43
 refine .cq ?_ ?_
 ·refine .fa ?_
  refine .op (h26.ld (S39.atG (i:=0) rfl) (j:=8) rfl) ?_
  refine .bd fun a45 h46=>?_
  refine .op ((h26.sl (S39.atG (i:=0) rfl) (j:=8) rfl).iS h46 rfl) ?_
  refine .bd fun a50 h51=>?_
  obtain ⟨c52,H47,e48,h53,h54,S49⟩:=S39.seG (i:=0) (j:=8) (own:=true) (σ:=(3::1::0::1::1::1::0::σ)) (nv:=[(.p (.int .u8 1))]) (xv:=(.p (.int .u8 1))) (n:=1) (e:=1) (off:=0) rfl rfl rfl h26 h27 h46 h51 rfl rfl (by decide) (zlv (sI _ _)) (Dt.whole (show (dI .u8).R 1 [(.p (.int .u8 1))] from rfl) rfl)
  refine .op (sM e48) ?_
  obtain ⟨v55,h56,h57⟩:=h53.fr
  obtain ⟨w58,h65,h64,e60,e66⟩:=S49.cpV (i:=0) (n:=9) (ys:=[(.p (.bool false)),(.p (.int .i64 96)),(.p (.int .u16 x1)),(.p (.int .u32 x2)),(.p (.int .u32 x0.Ssrc)),(.p (.slice none 0 0)),(.p (.int .u16 48862)),v35,v55]) rfl ⟨(FrC.v (sB _)),⟨(FrC.v (sI _ _)),⟨(FrC.v (sI _ _)),⟨(FrC.v (sI _ _)),⟨(FrC.v (sI _ _)),⟨(FrC.v (SlF.nil (dI .u32)).still),⟨(FrC.v (sI _ _)),⟨(FrC.v h36.still),⟨h56,trivial⟩⟩⟩⟩⟩⟩⟩⟩⟩ rfl
  obtain ⟨H59,e61,e62,S63⟩:=S49.frzX (i:=0) (ys:=[(.p (.bool false)),(.p (.int .i64 96)),(.p (.int .u16 x1)),(.p (.int .u32 x2)),(.p (.int .u32 x0.Ssrc)),(.p (.slice none 0 0)),(.p (.int .u16 48862)),v35,v55]) rfl rfl ⟨(FrC.v (sB _)),⟨(FrC.v (sI _ _)),⟨(FrC.v (sI _ _)),⟨(FrC.v (sI _ _)),⟨(FrC.v (sI _ _)),⟨(FrC.v (SlF.nil (dI .u32)).still),⟨(FrC.v (sI _ _)),⟨(FrC.v h36.still),⟨h56,trivial⟩⟩⟩⟩⟩⟩⟩⟩⟩ h65
  refine .op (e60) ?_
  erw [zf5 (zdj (zfe (z9g e62)) zez)]
  refine .call (zay k ((⟨false,96,x1,x2,x0.Ssrc,(([]:List Int)),48862,r30.1,a50⟩:TaiRtp)) (show z6.R ((⟨false,96,x1,x2,x0.Ssrc,(([]:List Int)),48862,r30.1,a50⟩:TaiRtp)) [.p (.bool false),.p (.int .i64 96),.p (.int .u16 x1),.p (.int .u32 x2),.p (.int .u32 x0.Ssrc),.p (.slice none 0 0),.p (.int .u16 48862),v35,v55] from (z6.mk (SlF.nil (dI .u32)) h36 h57))) fun r67 cs68 H69 h70 q71=>?_
  obtain ⟨v72,h73,q71⟩:=q71
  cases q71
  refine .or ?_
  refine .or ?_
  refine .ci ?_
  exact .fin (S63.finN (lC h73.still.lv lN)) ⟨v72,h73,rfl⟩
 obtain ⟨v74,h75,h76⟩:=h26.fr
 obtain ⟨w77,h84,h83,e79,e85⟩:=S39.cpV (i:=0) (n:=9) (ys:=[(.p (.bool false)),(.p (.int .i64 96)),(.p (.int .u16 x1)),(.p (.int .u32 x2)),(.p (.int .u32 x0.Ssrc)),(.p (.slice none 0 0)),(.p (.int .u16 48862)),v35,v74]) rfl ⟨(FrC.v (sB _)),⟨(FrC.v (sI _ _)),⟨(FrC.v (sI _ _)),⟨(FrC.v (sI _ _)),⟨(FrC.v (sI _ _)),⟨(FrC.v (SlF.nil (dI .u32)).still),⟨(FrC.v (sI _ _)),⟨(FrC.v h36.still),⟨h75,trivial⟩⟩⟩⟩⟩⟩⟩⟩⟩ rfl
 obtain ⟨H78,e80,e81,S82⟩:=S39.frzX (i:=0) (ys:=[(.p (.bool false)),(.p (.int .i64 96)),(.p (.int .u16 x1)),(.p (.int .u32 x2)),(.p (.int .u32 x0.Ssrc)),(.p (.slice none 0 0)),(.p (.int .u16 48862)),v35,v74]) rfl rfl ⟨(FrC.v (sB _)),⟨(FrC.v (sI _ _)),⟨(FrC.v (sI _ _)),⟨(FrC.v (sI _ _)),⟨(FrC.v (sI _ _)),⟨(FrC.v (SlF.nil (dI .u32)).still),⟨(FrC.v (sI _ _)),⟨(FrC.v h36.still),⟨h75,trivial⟩⟩⟩⟩⟩⟩⟩⟩⟩ h84
 refine .op (e79) ?_
 erw [zf5 (zdj (zfe (z9g e81)) zez)]
 refine .call (zay k ((⟨false,96,x1,x2,x0.Ssrc,(([]:List Int)),48862,r30.1,a7⟩:TaiRtp)) (show z6.R ((⟨false,96,x1,x2,x0.Ssrc,(([]:List Int)),48862,r30.1,a7⟩:TaiRtp)) [.p (.bool false),.p (.int .i64 96),.p (.int .u16 x1),.p (.int .u32 x2),.p (.int .u32 x0.Ssrc),.p (.slice none 0 0),.p (.int .u16 48862),v35,v74] from (z6.mk (SlF.nil (dI .u32)) h36 h76))) fun r86 cs87 H88 h89 q90=>?_
 obtain ⟨v91,h92,q90⟩:=q90
 cases q90
 refine .or ?_
 refine .or ?_
 refine .ci ?_
 exact .fin (S82.finN (lC h92.still.lv lN)) ⟨v91,h92,rfl⟩
end
end Go.Ev
namespace Go.Ev
open Go.Proofs
set_option linter.unusedVariables false
set_option linter.unusedSimpArgs false
set_option maxRecDepth 100000
noncomputable section
abbrev KT4:=Exit→Env→H→Option (List C × H)
variable (rec : CallF) (loop : LoopV) (σ : Stamp)
def z6i:Code:=(codeAt (bodyOf Try.f40) [1,1,1,1,1,1,1,0,1,0,0])
def z6h:Lv:=⟨53,12,[(0,53)]⟩
def zc3:KT4:=(kBlock 0 (kSeq G rec loop (codeAt (bodyOf Try.f40) [1,1,1,1,1,1,1,1]) ⟨12,12,[]⟩ (1::1::1::1::1::1::1::0::σ) (finC G false Try.f40 (1::σ))))
theorem zej (x0:V) (h:H):cvBody G rec loop 40 σ [x0] h =
(some (alO [.p (.bool false),.p (.int .i64 0),.p (.int .u16 0),.p (.int .u32 0),.p (.int .u32 0),.p (.slice none 0 0),.p (.int .u16 0),.p (.slice none 0 0),.p (.slice none 0 0)] (0::0::0::σ) 2 (List.replicate 150 []::h))).bind fun q1 =>
(lenO x0).bind fun t2 =>
(castI .i64 t2).bind fun n3 =>
bif decide (n3>1500) then (
(buildV Try.prog 52 []).bind fun t4 =>
((stO true 9 (1::0::1::0::1::0::σ) q1.2 q1.1 t4).map fun h=>(udf,h)).bind fun q5 =>
((ldO true 9 q5.2 q1.1).bind fun t6=>((some []).map ((.p (.int .i64 3))::·)).map (t6::·)).bind fun t7=>fin false σ q5.2 t7)
else (
(lenO x0).bind fun t8 =>
(castI .i64 t8).bind fun n9 =>
bif n9==0 then (
(buildV Try.prog 52 []).bind fun t10 =>
((stO true 9 (1::0::1::0::1::1::0::σ) q1.2 q1.1 t10).map fun h=>(udf,h)).bind fun q11 =>
((ldO true 9 q11.2 q1.1).bind fun t12=>((some []).map ((.p (.int .i64 13))::·)).map (t12::·)).bind fun t13=>fin false σ q11.2 t13)
else (
(iS 1 x0 0).bind fun t14 =>
(ldO false 1 q1.2 t14).bind fun t15 =>
(castI .u8 t15).bind fun n16 =>
bif (Int.fdiv n16 (2^6)) != 2 then (
(buildV Try.prog 52 []).bind fun t17 =>
((stO true 9 (1::0::1::0::1::1::1::0::σ) q1.2 q1.1 t17).map fun h=>(udf,h)).bind fun q18 =>
((ldO true 9 q18.2 q1.1).bind fun t19=>((some []).map ((.p (.int .i64 12))::·)).map (t19::·)).bind fun t20=>fin false σ q18.2 t20)
else (
(iS 1 x0 0).bind fun t21 =>
(ldO false 1 q1.2 t21).bind fun t22 =>
(castI .u8 t22).bind fun n23 =>
(lenO x0).bind fun t24 =>
(castI .i64 t24).bind fun n25 =>
bif decide (n25<(IntKind.wrap .i64 (12+(IntKind.wrap .i64 (4*(IntKind.wrap .i64 (intBits .and .u8 n23 15))))))) then (
(buildV Try.prog 52 []).bind fun t26 =>
((stO true 9 (1::0::1::0::1::1::1::1::1::0::σ) q1.2 q1.1 t26).map fun h=>(udf,h)).bind fun q27 =>
((ldO true 9 q27.2 q1.1).bind fun t28=>((some []).map ((.p (.int .i64 13))::·)).map (t28::·)).bind fun t29=>fin false σ q27.2 t29)
else (
need (∃ z,tzero Try.prog 52=some z∧slotOf (alO [.p (.bool false),.p (.int .i64 0),.p (.int .u16 0),.p (.int .u32 0),.p (.int .u32 0),.p (.slice none 0 0),.p (.int .u16 0),.p (.slice none 0 0),.p (.slice none 0 0)] (20::0::1::1::1::1::1::1::0::σ) 5 q1.2).2 5=some [.own (20::0::1::1::1::1::1::1::0::σ) (z.map .v)]) (
(iS 1 x0 1).bind fun t30 =>
(ldO false 1 (alO [.p (.bool false),.p (.int .i64 0),.p (.int .u16 0),.p (.int .u32 0),.p (.int .u32 0),.p (.slice none 0 0),.p (.int .u16 0),.p (.slice none 0 0),.p (.slice none 0 0)] (20::0::1::1::1::1::1::1::0::σ) 5 q1.2).2 t30).bind fun t31 =>
(castI .u8 t31).bind fun n32 =>
(iS 1 x0 1).bind fun t33 =>
(ldO false 1 (alO [.p (.bool false),.p (.int .i64 0),.p (.int .u16 0),.p (.int .u32 0),.p (.int .u32 0),.p (.slice none 0 0),.p (.int .u16 0),.p (.slice none 0 0),.p (.slice none 0 0)] (20::0::1::1::1::1::1::1::0::σ) 5 q1.2).2 t33).bind fun t34 =>
(castI .u8 t34).bind fun n35 =>
(callO rec 89 (11::0::1::1::1::1::1::1::0::σ) [x0,(.p (.int .i64 2)),(.p (.int .i64 2))] (alO [.p (.bool false),.p (.int .i64 0),.p (.int .u16 0),.p (.int .u32 0),.p (.int .u32 0),.p (.slice none 0 0),.p (.int .u16 0),.p (.slice none 0 0),.p (.slice none 0 0)] (20::0::1::1::1::1::1::1::0::σ) 5 q1.2).2 (some 49)).bind fun q36 =>
(castI .u64 q36.1).bind fun n37 =>
need ((some (.p (.int .i64 (IntKind.wrap .i64 (intBits .and .u8 n35 127)))):Option V)=some (.p (.int .i64 (IntKind.wrap .i64 (intBits .and .u8 n35 127))))) (
need (ldO false 1 q36.2 t33=some (.p (.int .u8 n35))) (
need ((some (.p (.bool ((Int.fdiv n32 (2^7))==1))):Option V)=some (.p (.bool ((Int.fdiv n32 (2^7))==1)))) (
need (ldO false 1 q36.2 t30=some (.p (.int .u8 n32))) (
need (∃ z,tzero Try.prog 52=some z∧slotOf q36.2 5=some [.own (20::0::1::1::1::1::1::1::0::σ) (z.map .v)]) (
(callO rec 89 (14::0::1::1::1::1::1::1::0::σ) [x0,(.p (.int .i64 4)),(.p (.int .i64 4))] q36.2 (some 52)).bind fun q38 =>
(castI .u64 q38.1).bind fun n39 =>
need ((some (.p (.int .u16 (IntKind.wrap .u16 n37))):Option V)=some (.p (.int .u16 (IntKind.wrap .u16 n37)))) (
need ((some (.p (.int .i64 (IntKind.wrap .i64 (intBits .and .u8 n35 127)))):Option V)=some (.p (.int .i64 (IntKind.wrap .i64 (intBits .and .u8 n35 127))))) (
need (ldO false 1 q38.2 t33=some (.p (.int .u8 n35))) (
need ((some (.p (.bool ((Int.fdiv n32 (2^7))==1))):Option V)=some (.p (.bool ((Int.fdiv n32 (2^7))==1)))) (
need (ldO false 1 q38.2 t30=some (.p (.int .u8 n32))) (
need (∃ z,tzero Try.prog 52=some z∧slotOf q38.2 5=some [.own (20::0::1::1::1::1::1::1::0::σ) (z.map .v)]) (
(callO rec 89 (17::0::1::1::1::1::1::1::0::σ) [x0,(.p (.int .i64 8)),(.p (.int .i64 4))] q38.2 (some 55)).bind fun q40 =>
(castI .u64 q40.1).bind fun n41 =>
need ((some (.p (.int .u32 (IntKind.wrap .u32 n39))):Option V)=some (.p (.int .u32 (IntKind.wrap .u32 n39)))) (
need ((some (.p (.int .u16 (IntKind.wrap .u16 n37))):Option V)=some (.p (.int .u16 (IntKind.wrap .u16 n37)))) (
need ((some (.p (.int .i64 (IntKind.wrap .i64 (intBits .and .u8 n35 127)))):Option V)=some (.p (.int .i64 (IntKind.wrap .i64 (intBits .and .u8 n35 127))))) (
need (ldO false 1 q40.2 t33=some (.p (.int .u8 n35))) (
need ((some (.p (.bool ((Int.fdiv n32 (2^7))==1))):Option V)=some (.p (.bool ((Int.fdiv n32 (2^7))==1)))) (
need (ldO false 1 q40.2 t30=some (.p (.int .u8 n32))) (
need (∃ z,tzero Try.prog 52=some z∧slotOf q40.2 5=some [.own (20::0::1::1::1::1::1::1::0::σ) (z.map .v)]) (
(buildV Try.prog 52 [(0,(.p (.bool ((Int.fdiv n32 (2^7))==1)))),(1,(.p (.int .i64 (IntKind.wrap .i64 (intBits .and .u8 n35 127))))),(2,(.p (.int .u16 (IntKind.wrap .u16 n37)))),(3,(.p (.int .u32 (IntKind.wrap .u32 n39)))),(4,(.p (.int .u32 (IntKind.wrap .u32 n41))))]).bind fun t42 =>
((stO true 9 (21::0::1::1::1::1::1::1::0::σ) q40.2 (.ref (newLoc (alO [.p (.bool false),.p (.int .i64 0),.p (.int .u16 0),.p (.int .u32 0),.p (.int .u32 0),.p (.slice none 0 0),.p (.int .u16 0),.p (.slice none 0 0),.p (.slice none 0 0)] (20::0::1::1::1::1::1::1::0::σ) 5 q1.2).2 5 (20::0::1::1::1::1::1::1::0::σ)) 0) t42).map fun h=>(udf,h)).bind fun q43 =>
(loop z6i z6h (1::0::1::1::1::1::1::1::1::0::σ) (envL [(0,x0),(2,q1.1),(4,(.p (.int .i64 (IntKind.wrap .i64 (12+(IntKind.wrap .i64 (4*(IntKind.wrap .i64 (intBits .and .u8 n23 15))))))))),(5,(.ref (newLoc (alO [.p (.bool false),.p (.int .i64 0),.p (.int .u16 0),.p (.int .u32 0),.p (.int .u32 0),.p (.slice none 0 0),.p (.int .u16 0),.p (.slice none 0 0),.p (.slice none 0 0)] (20::0::1::1::1::1::1::1::0::σ) 5 q1.2).2 5 (20::0::1::1::1::1::1::1::0::σ)) 0)),(6,(.p (.int .i64 12)))]) q43.2).bind fun r44=>zc3 rec loop σ r44.1 r44.2.1 r44.2.2))))))))))))))))))))))):=by kernel_rfl
theorem zhz (x0:V) (x2:V) (x4:Int) (x5:V) (x6:Int) (h:H):z1a G rec loop z6i z6h σ (envL [(0,x0),(2,x2),(4,(.p (.int .i64 x4))),(5,x5),(6,(.p (.int .i64 x6)))]) h =
bif decide (x6<x4) then (
(fA x5 5).bind fun t45 =>
(ldO false 1 h t45).bind fun t46 =>
(callO rec 89 (4::0::1::0::σ) [x0,(.p (.int .i64 x6)),(.p (.int .i64 4))] h (some 67)).bind fun q47 =>
(castI .u64 q47.1).bind fun n48 =>
need (ldO false 1 q47.2 t45=some t46) (
(bSV Try.prog 50 1 [(0,(.p (.int .u32 (IntKind.wrap .u32 n48))))]).bind fun t49 =>
(apO true 1 4 (7::0::1::0::σ) 70 q47.2 t46 t49).bind fun q50 =>
(fA x5 5).bind fun t51 =>
((stO true 1 (9::0::1::0::σ) q50.2 t51 q50.1).map fun h=>(udf,h)).bind fun q52 =>
loop z6i z6h (1::σ) (envL [(0,x0),(2,x2),(4,(.p (.int .i64 x4))),(5,x5),(6,(.p (.int .i64 (IntKind.wrap .i64 (x6+4)))))]) q52.2))
else (
some ((.exit 0),(envL [(0,x0),(2,x2),(4,(.p (.int .i64 x4))),(5,x5)]),h)):=by kernel_rfl
theorem zfw (x0:V) (x2:V) (x4:Int) (x5:V) (h:H):zc3 rec loop σ (.exit 0) (envL [(0,x0),(2,x2),(4,(.p (.int .i64 x4))),(5,x5)]) h =
(iS 1 x0 0).bind fun t53 =>
(ldO false 1 h t53).bind fun t54 =>
(castI .u8 t54).bind fun n55 =>
bif (intBits .and .u8 n55 16) != 0 then (
(callO rec 89 (3::0::1::0::1::1::1::1::1::1::1::1::0::σ) [x0,(.p (.int .i64 (IntKind.wrap .i64 (x4+2)))),(.p (.int .i64 2))] h (some 80)).bind fun q56 =>
(castI .u64 q56.1).bind fun n57 =>
(callO rec 90 (4::0::1::1::0::1::1::1::1::1::1::1::1::0::σ) [x0,(.p (.int .i64 (IntKind.wrap .i64 (x4+4)))),(.p (.int .i64 (IntKind.wrap .i64 (4*(IntKind.wrap .i64 n57)))))] q56.2 (some 88)).bind fun q58 =>
(extV q58.1 0).bind fun t59 =>
(extV q58.1 1).bind fun t60 =>
(asB t60).bind fun b61 =>
bif !b61 then (
(buildV Try.prog 52 []).bind fun t62 =>
((stO true 9 (1::0::1::0::1::1::1::0::1::1::1::1::1::1::1::1::0::σ) q58.2 x2 t62).map fun h=>(udf,h)).bind fun q63 =>
((ldO true 9 q63.2 x2).bind fun t64=>((some []).map ((.p (.int .i64 13))::·)).map (t64::·)).bind fun t65=>fin false σ q63.2 t65)
else (
(callO rec 89 (2::0::1::1::1::1::0::1::1::1::1::1::1::1::1::0::σ) [x0,(.p (.int .i64 x4)),(.p (.int .i64 2))] q58.2 (some 96)).bind fun q66 =>
(castI .u64 q66.1).bind fun n67 =>
(fA x5 6).bind fun t68 =>
((stO true 1 (6::0::1::1::1::1::0::1::1::1::1::1::1::1::1::0::σ) q66.2 t68 (.p (.int .u16 (IntKind.wrap .u16 n67)))).map fun h=>(udf,h)).bind fun q69 =>
(fA x5 7).bind fun t70 =>
((stO true 1 (8::0::1::1::1::1::0::1::1::1::1::1::1::1::1::0::σ) q69.2 t70 t59).map fun h=>(udf,h)).bind fun q71 =>
(lenO x0).bind fun t72 =>
(castI .i64 t72).bind fun n73 =>
(iS 1 x0 0).bind fun t74 =>
(ldO false 1 q71.2 t74).bind fun t75 =>
(castI .u8 t75).bind fun n76 =>
bif (intBits .and .u8 n76 32) != 0 then (
(iS 1 x0 (IntKind.wrap .i64 (n73-1))).bind fun t77 =>
(ldO false 1 q71.2 t77).bind fun t78 =>
(castI .u8 t78).bind fun n79 =>
(bif (IntKind.wrap .i64 n79)==0 then (some true) else (some (decide ((IntKind.wrap .i64 n79)>(IntKind.wrap .i64 (n73-(IntKind.wrap .i64 ((IntKind.wrap .i64 (x4+4))+(IntKind.wrap .i64 (4*(IntKind.wrap .i64 n57))))))))))).bind fun b80 =>
bif b80 then (
(buildV Try.prog 52 []).bind fun t81 =>
((stO true 9 (1::0::1::0::1::1::0::1::1::1::1::1::1::1::1::1::1::0::σ) q71.2 x2 t81).map fun h=>(udf,h)).bind fun q82 =>
((ldO true 9 q82.2 x2).bind fun t83=>((some []).map ((.p (.int .i64 13))::·)).map (t83::·)).bind fun t84=>fin false σ q82.2 t84)
else (
(iS 1 x0 0).bind fun t85 =>
(ldO false 1 q71.2 t85).bind fun t86 =>
(castI .u8 t86).bind fun n87 =>
(bif (intBits .and .u8 n87 16) != 0 then ((fA x5 6).bind fun t88 =>
(ldO false 1 q71.2 t88).bind fun t89 =>
(castI .u16 t89).bind fun n90 =>
some (n90==0)) else (some false)).bind fun b91 =>
bif b91 then (
(buildV Try.prog 52 []).bind fun t92 =>
((stO true 9 (1::0::1::0::1::1::1::1::1::1::1::1::1::1::1::0::σ) q71.2 x2 t92).map fun h=>(udf,h)).bind fun q93 =>
((ldO true 9 q93.2 x2).bind fun t94=>((some []).map ((.p (.int .i64 12))::·)).map (t94::·)).bind fun t95=>fin false σ q93.2 t95)
else (
(bSV Try.prog 32 0 []).bind fun t96 =>
(slS 1 x0 (some (IntKind.wrap .i64 ((IntKind.wrap .i64 (x4+4))+(IntKind.wrap .i64 (4*(IntKind.wrap .i64 n57)))))) (some (IntKind.wrap .i64 (n73-(IntKind.wrap .i64 n79)))) none).bind fun t97 =>
(apO true 1 1 (5::0::1::1::1::1::1::1::1::1::1::1::1::1::0::σ) 147 q71.2 t96 t97).bind fun q98 =>
(fA x5 8).bind fun t99 =>
((stO true 1 (7::0::1::1::1::1::1::1::1::1::1::1::1::1::0::σ) q98.2 t99 q98.1).map fun h=>(udf,h)).bind fun q100 =>
(ldO true 9 q100.2 x5).bind fun t101 =>
((stO true 9 (1::0::1::1::1::1::1::1::1::1::1::1::1::1::1::0::σ) q100.2 x2 t101).map fun h=>(udf,h)).bind fun q102 =>
((ldO true 9 q102.2 x2).bind fun t103=>((some []).map ((.p (.int .i64 0))::·)).map (t103::·)).bind fun t104=>fin false σ q102.2 t104)))
else (
(iS 1 x0 0).bind fun t105 =>
(ldO false 1 q71.2 t105).bind fun t106 =>
(castI .u8 t106).bind fun n107 =>
(bif (intBits .and .u8 n107 16) != 0 then ((fA x5 6).bind fun t108 =>
(ldO false 1 q71.2 t108).bind fun t109 =>
(castI .u16 t109).bind fun n110 =>
some (n110==0)) else (some false)).bind fun b111 =>
bif b111 then (
(buildV Try.prog 52 []).bind fun t112 =>
((stO true 9 (1::0::1::0::1::1::1::1::1::1::1::1::1::1::1::0::σ) q71.2 x2 t112).map fun h=>(udf,h)).bind fun q113 =>
((ldO true 9 q113.2 x2).bind fun t114=>((some []).map ((.p (.int .i64 12))::·)).map (t114::·)).bind fun t115=>fin false σ q113.2 t115)
else (
(bSV Try.prog 32 0 []).bind fun t116 =>
(slS 1 x0 (some (IntKind.wrap .i64 ((IntKind.wrap .i64 (x4+4))+(IntKind.wrap .i64 (4*(IntKind.wrap .i64 n57)))))) (some n73) none).bind fun t117 =>
(apO true 1 1 (5::0::1::1::1::1::1::1::1::1::1::1::1::1::0::σ) 147 q71.2 t116 t117).bind fun q118 =>
(fA x5 8).bind fun t119 =>
((stO true 1 (7::0::1::1::1::1::1::1::1::1::1::1::1::1::0::σ) q118.2 t119 q118.1).map fun h=>(udf,h)).bind fun q120 =>
(ldO true 9 q120.2 x5).bind fun t121 =>
((stO true 9 (1::0::1::1::1::1::1::1::1::1::1::1::1::1::1::0::σ) q120.2 x2 t121).map fun h=>(udf,h)).bind fun q122 =>
((ldO true 9 q122.2 x2).bind fun t123=>((some []).map ((.p (.int .i64 0))::·)).map (t123::·)).bind fun t124=>fin false σ q122.2 t124))))
else (
(lenO x0).bind fun t125 =>
(castI .i64 t125).bind fun n126 =>
(iS 1 x0 0).bind fun t127 =>
(ldO false 1 h t127).bind fun t128 =>
(castI .u8 t128).bind fun n129 =>
bif (intBits .and .u8 n129 32) != 0 then (
(iS 1 x0 (IntKind.wrap .i64 (n126-1))).bind fun t130 =>
(ldO false 1 h t130).bind fun t131 =>
(castI .u8 t131).bind fun n132 =>
(bif (IntKind.wrap .i64 n132)==0 then (some true) else (some (decide ((IntKind.wrap .i64 n132)>(IntKind.wrap .i64 (n126-x4)))))).bind fun b133 =>
bif b133 then (
(buildV Try.prog 52 []).bind fun t134 =>
((stO true 9 (1::0::1::0::1::1::0::1::1::1::1::1::1::1::1::1::1::0::σ) h x2 t134).map fun h=>(udf,h)).bind fun q135 =>
((ldO true 9 q135.2 x2).bind fun t136=>((some []).map ((.p (.int .i64 13))::·)).map (t136::·)).bind fun t137=>fin false σ q135.2 t137)
else (
(iS 1 x0 0).bind fun t138 =>
(ldO false 1 h t138).bind fun t139 =>
(castI .u8 t139).bind fun n140 =>
(bif (intBits .and .u8 n140 16) != 0 then ((fA x5 6).bind fun t141 =>
(ldO false 1 h t141).bind fun t142 =>
(castI .u16 t142).bind fun n143 =>
some (n143==0)) else (some false)).bind fun b144 =>
bif b144 then (
(buildV Try.prog 52 []).bind fun t145 =>
((stO true 9 (1::0::1::0::1::1::1::1::1::1::1::1::1::1::1::0::σ) h x2 t145).map fun h=>(udf,h)).bind fun q146 =>
((ldO true 9 q146.2 x2).bind fun t147=>((some []).map ((.p (.int .i64 12))::·)).map (t147::·)).bind fun t148=>fin false σ q146.2 t148)
else (
(bSV Try.prog 32 0 []).bind fun t149 =>
(slS 1 x0 (some x4) (some (IntKind.wrap .i64 (n126-(IntKind.wrap .i64 n132)))) none).bind fun t150 =>
(apO true 1 1 (5::0::1::1::1::1::1::1::1::1::1::1::1::1::0::σ) 147 h t149 t150).bind fun q151 =>
(fA x5 8).bind fun t152 =>
((stO true 1 (7::0::1::1::1::1::1::1::1::1::1::1::1::1::0::σ) q151.2 t152 q151.1).map fun h=>(udf,h)).bind fun q153 =>
(ldO true 9 q153.2 x5).bind fun t154 =>
((stO true 9 (1::0::1::1::1::1::1::1::1::1::1::1::1::1::1::0::σ) q153.2 x2 t154).map fun h=>(udf,h)).bind fun q155 =>
((ldO true 9 q155.2 x2).bind fun t156=>((some []).map ((.p (.int .i64 0))::·)).map (t156::·)).bind fun t157=>fin false σ q155.2 t157)))
else (
(iS 1 x0 0).bind fun t158 =>
(ldO false 1 h t158).bind fun t159 =>
(castI .u8 t159).bind fun n160 =>
(bif (intBits .and .u8 n160 16) != 0 then ((fA x5 6).bind fun t161 =>
(ldO false 1 h t161).bind fun t162 =>
(castI .u16 t162).bind fun n163 =>
some (n163==0)) else (some false)).bind fun b164 =>
bif b164 then (
(buildV Try.prog 52 []).bind fun t165 =>
((stO true 9 (1::0::1::0::1::1::1::1::1::1::1::1::1::1::1::0::σ) h x2 t165).map fun h=>(udf,h)).bind fun q166 =>
((ldO true 9 q166.2 x2).bind fun t167=>((some []).map ((.p (.int .i64 12))::·)).map (t167::·)).bind fun t168=>fin false σ q166.2 t168)
else (
(bSV Try.prog 32 0 []).bind fun t169 =>
(slS 1 x0 (some x4) (some n126) none).bind fun t170 =>
(apO true 1 1 (5::0::1::1::1::1::1::1::1::1::1::1::1::1::0::σ) 147 h t169 t170).bind fun q171 =>
(fA x5 8).bind fun t172 =>
((stO true 1 (7::0::1::1::1::1::1::1::1::1::1::1::1::1::0::σ) q171.2 t172 q171.1).map fun h=>(udf,h)).bind fun q173 =>
(ldO true 9 q173.2 x5).bind fun t174 =>
((stO true 9 (1::0::1::1::1::1::1::1::1::1::1::1::1::1::1::0::σ) q173.2 x2 t174).map fun h=>(udf,h)).bind fun q175 =>
((ldO true 9 q175.2 x2).bind fun t176=>((some []).map ((.p (.int .i64 0))::·)).map (t176::·)).bind fun t177=>fin false σ q175.2 t177))):=by kernel_rfl
theorem zg1 (x0:V) (x1:Int) (x2:Int) (h:H):cvBody G rec loop 90 σ [x0,(.p (.int .i64 x1)),(.p (.int .i64 x2))] h =
(bif decide (x1<0) then (some true) else (some (decide (x2<0)))).bind fun b1 =>
(bif b1 then (some true) else ((lenO x0).bind fun t2 =>
(castI .i64 t2).bind fun n3 =>
some (decide (x1>n3)))).bind fun b4 =>
(bif b4 then (some true) else ((lenO x0).bind fun t5 =>
(castI .i64 t5).bind fun n6 =>
some (decide (x2>(IntKind.wrap .i64 (n6-x1)))))).bind fun b7 =>
bif b7 then (
fin true σ (List.replicate 36 []::h) [(.p (.slice .none 0 0)),(.p (.bool false))])
else (
(bSV Try.prog 32 0 []).bind fun t8 =>
(slS 1 x0 (some x1) (some (IntKind.wrap .i64 (x1+x2))) none).bind fun t9 =>
(apO true 1 1 (7::0::1::1::0::σ) 35 (List.replicate 36 []::h) t8 t9).bind fun q10 =>
fin true σ q10.2 [q10.1,(.p (.bool true))]):=by kernel_rfl
end
end Go.Ev
namespace Go.Ev
open Go.Proofs
set_option linter.unusedVariables false
set_option linter.unusedSimpArgs false
set_option maxRecDepth 100000
section
variable {β α : Type} {Q : β→α→Prop} {K : Exit × Env × H→Option α}
def z6s (x0:(List Int)) (x1:Int) (x2:Int):Option ((List Int)×Bool) :=
(bif decide (x1<0) then (some true) else (some (decide (x2<0)))).bind fun b1 =>
(bif b1 then (some true) else (some (decide (x1>((x0.length:Int)))))).bind fun b5 =>
(bif b5 then (some true) else (some (decide (x2>(IntKind.wrap .i64 (((x0.length:Int))-x1)))))).bind fun b9 =>
bif b9 then (
some ((([]:List Int)),false))
else (
(sub x0 x1 (IntKind.wrap .i64 (x1+x2))).bind fun a15 =>
(ap 1 (([]:List Int)) a15).bind fun a19 =>
some (a19,true))
theorem ziz {h:H} {σ:Stamp} (x0:List Int) {u0:V} (hu0:SlH h (dI .u8) x0 u0) (x1:Int) (x2:Int):Sim (z6s x0 x1 x2) (ev G X0 90 σ [u0,(.p (.int .i64 x1)),(.p (.int .i64 x2))] h) (fun r s=>∃ (v0:V),SlF (dI .u8) r.1 v0∧s=([.v v0,.v (.p (.bool r.2))],h)):=by
 refine .ev rfl (Sim.ext (zg1 _ _ _ _ _ _ _) ?_)
 rw [z6s]
 have S0:Fm 36 h [] [] [] (List.replicate 36 []::h):=Fm.start0
 refine .ch (P:=fun r y=>r=y) ?_ (fun b1 y2 h3 h4=>?_)
 ·refine .cq ?_ ?_
  ·exact .ret rfl rfl
  ·exact .ret rfl rfl
 subst h4
 refine .ch (P:=fun r y=>r=y) ?_ (fun b5 y6 h7 h8=>?_)
 ·refine .cq ?_ ?_
  ·exact .ret rfl rfl
  ·refine .op ((S0.low hu0).len) ?_
   refine .ci ?_
   exact .ret rfl rfl
 subst h8
 refine .ch (P:=fun r y=>r=y) ?_ (fun b9 y10 h11 h12=>?_)
 ·refine .cq ?_ ?_
  ·exact .ret rfl rfl
  ·refine .op ((S0.low hu0).len) ?_
   refine .ci ?_
   exact .ret rfl rfl
 subst h12
 refine .cq ?_ ?_
 ·exact .fin (S0.finN (lC (SlF.nil (dI .u8)).still.lv (lC (sB _).lv lN))) ⟨(.p (.slice none 0 0)),(SlF.nil (dI .u8)),rfl⟩
 have h14:SlF (dI .u8) ([]:List Int) (.fz [] 0 1 true):=SlF.lit (cs:=[]) RL.nil rfl rfl true
 refine .op (bldS pN (by kernel_rfl:_=some (vOf h14))) ?_
 refine .bd fun a15 h16=>?_
 refine .op ((S0.low hu0).slS h16 rfl rfl rfl) ?_
 have S18:=S0.nil' (dI .u8) [] (e:=1) rfl
 refine .bd fun a19 h20=>?_
 obtain ⟨v21,H22,e23,S24⟩:=S18.app (i:=0) (d:=35) (e:=1) (own:=true) (σ:=(7::0::1::1::0::σ)) rfl ((S18.low hu0).sub h16 (e:=1) rfl).y h20 rfl (by decide) (by decide) rfl
 refine .op (e23) ?_
 obtain ⟨v30,H25,e26,h28,S27⟩:=S24.expFrz (i:=0) (τ:=0::1::σ) rfl rfl
 exact .fin (S27.finE (Ex.st e26 (Ex.pl (sB _).lv Ex.nil))) ⟨v30,h28,rfl⟩
end
end Go.Ev
namespace Go.Ev
open Go.Proofs
set_option linter.unusedVariables false
set_option linter.unusedSimpArgs false
set_option maxRecDepth 100000
noncomputable section
abbrev KT5:=Exit→Env→H→Option (List C × H)
variable (rec : CallF) (loop : LoopV) (σ : Stamp)
theorem zfn (x0:V) (x1:Int) (x2:Int) (h:H):cvBody G rec loop 89 σ [x0,(.p (.int .i64 x1)),(.p (.int .i64 x2))] h =
(callO rec 125 (3::0::1::0::σ) [x0,(.p (.int .i64 x1)),(.p (.int .i64 x2))] (List.replicate 17 []::h) (some 13)).bind fun q1 =>
(extV q1.1 0).bind fun t2 =>
(castI .u64 t2).bind fun n3 =>
(extV q1.1 1).bind fun t4 =>
(asB t4).bind fun b5 =>
fin false σ q1.2 [(.p (.int .u64 n3))]:=by kernel_rfl
def z78:Code:=(codeAt (bodyOf Try.f125) [1,1,1,0,1,0,0])
def z77:Lv:=⟨256,192,[(0,256)]⟩
def zdo:KT5:=(kBlock 0 (kSeq G rec loop (codeAt (bodyOf Try.f125) [1,1,1,1]) ⟨192,192,[]⟩ (1::1::1::0::σ) (finC G false Try.f125 (1::σ))))
theorem zfp (x0:V) (x1:Int) (x2:Int) (h:H):cvBody G rec loop 125 σ [x0,(.p (.int .i64 x1)),(.p (.int .i64 x2))] h =
(bif decide (x2<1) then (some true) else (some (decide (x2>8)))).bind fun b1 =>
(bif b1 then (some true) else (some (decide (x1<0)))).bind fun b2 =>
(bif b2 then (some true) else ((lenO x0).bind fun t3 =>
(castI .i64 t3).bind fun n4 =>
some (decide (x1>n4)))).bind fun b5 =>
(bif b5 then (some true) else ((lenO x0).bind fun t6 =>
(castI .i64 t6).bind fun n7 =>
some (decide (x2>(IntKind.wrap .i64 (n7-x1)))))).bind fun b8 =>
bif b8 then (
fin false σ (List.replicate 50 []::h) [(.p (.int .u64 0)),(.p (.bool false))])
else (
(loop z78 z77 (1::0::1::1::1::0::σ) (envL [(0,x0),(1,(.p (.int .i64 x1))),(2,(.p (.int .i64 x2))),(8,(.p (.int .u64 0))),(9,(.p (.int .i64 0)))]) (List.replicate 50 []::h)).bind fun r9=>zdo rec loop σ r9.1 r9.2.1 r9.2.2):=by kernel_rfl
theorem zj9 (x0:V) (x1:Int) (x2:Int) (x8:Int) (x9:Int) (h:H):z1a G rec loop z78 z77 σ (envL [(0,x0),(1,(.p (.int .i64 x1))),(2,(.p (.int .i64 x2))),(8,(.p (.int .u64 x8))),(9,(.p (.int .i64 x9)))]) h =
bif decide (x9<x2) then (
(iS 1 x0 (IntKind.wrap .i64 (x1+x9))).bind fun t10 =>
(ldO false 1 h t10).bind fun t11 =>
(castI .u8 t11).bind fun n12 =>
loop z78 z77 (1::σ) (envL [(0,x0),(1,(.p (.int .i64 x1))),(2,(.p (.int .i64 x2))),(8,(.p (.int .u64 (intBits .or .u64 (IntKind.wrap .u64 (x8*2^8)) (IntKind.wrap .u64 n12))))),(9,(.p (.int .i64 (IntKind.wrap .i64 (x9+1)))))]) h)
else (
some ((.exit 0),(envL [(8,(.p (.int .u64 x8)))]),h)):=by kernel_rfl
theorem zh1 (x8:Int) (h:H):zdo rec loop σ (.exit 0) (envL [(8,(.p (.int .u64 x8)))]) h =
fin false σ h [(.p (.int .u64 x8)),(.p (.bool true))]:=by kernel_rfl
end
end Go.Ev
namespace Go.Ev
open Go.Proofs
set_option linter.unusedVariables false
set_option linter.unusedSimpArgs false
set_option maxRecDepth 100000
section
variable {β α : Type} {Q : β→α→Prop} {K : Exit × Env × H→Option α}
def z1g {β:Type} (k:Nat) (kE0:Int→Option β) (x0:(List Int)) (x1:Int) (x2:Int) (x8:Int) (x9:Int):Option β:=match k with
| 0=>none
| k+1 =>
bif decide (x9<x2) then (
(ix x0 (IntKind.wrap .i64 (x1+x9))).bind fun a23 =>
z1g k kE0 x0 x1 x2 (intBits .or .u64 (IntKind.wrap .u64 (x8*2^8)) (IntKind.wrap .u64 a23)) (IntKind.wrap .i64 (x9+1)))
else (
kE0 x8)
def z5l (k:Nat) (x0:(List Int)) (x1:Int) (x2:Int):Option (Int×Bool) :=
(bif decide (x2<1) then (some true) else (some (decide (x2>8)))).bind fun b1 =>
(bif b1 then (some true) else (some (decide (x1<0)))).bind fun b5 =>
(bif b5 then (some true) else (some (decide (x1>((x0.length:Int)))))).bind fun b9 =>
(bif b9 then (some true) else (some (decide (x2>(IntKind.wrap .i64 (((x0.length:Int))-x1)))))).bind fun b13 =>
bif b13 then (
some (0,false))
else (
z1g k (fun r28_8 =>
some (r28_8,true)) x0 x1 x2 0 0)
theorem zfs {h:H}  {kE0:Int→Option β} (hE0:∀ (q8:Int) (H26:Go.Ev.H) (_:Fm 50 h [] [] [] H26),Sim (kE0 q8) (K ((.exit 0),(envL [(8,(.p (.int .u64 q8)))]),H26)) Q) (k:Nat):∀ (x0:(List Int)) (x1:Int) (x2:Int) (x8:Int) (x9:Int) (v20:V) (h21:SlH h (dI .u8) x0 v20) (H18:Go.Ev.H) (_:Fm 50 h [] [] [] H18) {σ:Stamp},Sim (z1g k kE0 x0 x1 x2 x8 x9) ((cvL G X0 z78 z77 σ (envL [(0,v20),(1,(.p (.int .i64 x1))),(2,(.p (.int .i64 x2))),(8,(.p (.int .u64 x8))),(9,(.p (.int .i64 x9)))]) H18).bind K) Q:=by
 induction k with
 | zero=>intros;exact .no
 | succ k ih =>
  intro x0 x1 x2 x8 x9 v20 h21 H18 S19 σ
  rw [z1g]
  refine .round (Sim.ext (zj9 _ _ _ _ _ _ _ _ _) ?_)
  refine .cq ?_ ?_
  ·refine .bd fun a23 h24=>?_
   refine .op ((S19.low h21).iS h24 rfl) ?_
   obtain ⟨_,rfl,hE25⟩:=(S19.low h21).el h24 rfl
   refine .op (hE25.ld (j:=0) rfl) ?_
   refine .ci ?_
   exact ih x0 x1 x2 (intBits .or .u64 (IntKind.wrap .u64 (x8*2^8)) (IntKind.wrap .u64 a23)) (IntKind.wrap .i64 (x9+1)) v20 h21 H18 (S19.wk2 aN aN)
  exact hE0 x8 H18 (S19.wk2 aN aN)
theorem ziv (k:Nat) {h:H} {σ:Stamp} (x0:List Int) {u0:V} (hu0:SlH h (dI .u8) x0 u0) (x1:Int) (x2:Int):Sim (z5l k x0 x1 x2) (ev G X0 125 σ [u0,(.p (.int .i64 x1)),(.p (.int .i64 x2))] h) (fun r s=>s=([.v (.p (.int .u64 r.1)),.v (.p (.bool r.2))],h)):=by
 refine .ev rfl (Sim.ext (zfp _ _ _ _ _ _ _) ?_)
 rw [z5l]
 have S0:Fm 50 h [] [] [] (List.replicate 50 []::h):=Fm.start0
 refine .ch (P:=fun r y=>r=y) ?_ (fun b1 y2 h3 h4=>?_)
 ·refine .cq ?_ ?_
  ·exact .ret rfl rfl
  ·exact .ret rfl rfl
 subst h4
 refine .ch (P:=fun r y=>r=y) ?_ (fun b5 y6 h7 h8=>?_)
 ·refine .cq ?_ ?_
  ·exact .ret rfl rfl
  ·exact .ret rfl rfl
 subst h8
 refine .ch (P:=fun r y=>r=y) ?_ (fun b9 y10 h11 h12=>?_)
 ·refine .cq ?_ ?_
  ·exact .ret rfl rfl
  ·refine .op ((S0.low hu0).len) ?_
   refine .ci ?_
   exact .ret rfl rfl
 subst h12
 refine .ch (P:=fun r y=>r=y) ?_ (fun b13 y14 h15 h16=>?_)
 ·refine .cq ?_ ?_
  ·exact .ret rfl rfl
  ·refine .op ((S0.low hu0).len) ?_
   refine .ci ?_
   exact .ret rfl rfl
 subst h16
 refine .cq ?_ ?_
 ·exact .fin (S0.finN (lC (sI _ _).lv (lC (sB _).lv lN))) rfl
 refine .as (zfs ?_ k x0 x1 x2 0 0 u0 hu0 (List.replicate 50 []::h) (S0.wk2 aN aN))
 ·intro r28_8 H29 S30
  refine .ext (zh1 _ _ _ _ _) ?_
  exact .fin (S30.finN (lC (sI _ _).lv (lC (sB _).lv lN))) rfl
def z19 (k:Nat) (x0:(List Int)) (x1:Int) (x2:Int):Option (Int) :=
(z5l k x0 x1 x2).bind fun r1 =>
some (r1.1)
theorem z51 (k:Nat) {h:H} {σ:Stamp} (x0:List Int) {u0:V} (hu0:SlH h (dI .u8) x0 u0) (x1:Int) (x2:Int):Sim (z19 k x0 x1 x2) (ev G X0 89 σ [u0,(.p (.int .i64 x1)),(.p (.int .i64 x2))] h) (fun r s=>s=([.v (.p (.int .u64 r))],h)):=by
 refine .ev rfl (Sim.ext (zfn _ _ _ _ _ _ _) ?_)
 rw [z19]
 have S0:Fm 17 h [] [] [] (List.replicate 17 []::h):=Fm.start0
 refine .call (ziv k x0 (S0.low hu0) x1 x2) fun r1 cs2 H3 h4 q5=>?_
 cases q5
 refine .or ?_
 refine .ci ?_
 refine .or ?_
 refine .ab ?_
 exact .fin (S0.finN (lC (sI _ _).lv lN)) rfl
def z42 {β:Type} (k:Nat) (kE0:(List Int)→Int→TaiRtp→TaiRtp→Option β) (x0:(List Int)) (x4:Int) (x6:Int) (yg4:TaiRtp) (yg32:TaiRtp):Option β:=match k with
| 0=>none
| k+1 =>
bif decide (x6<x4) then (
(z19 k x0 x6 4).bind fun r87 =>
(ap 4 yg32.Csrc ([(IntKind.wrap .u32 r87)])).bind fun a93 =>
z42 k kE0 x0 x4 (IntKind.wrap .i64 (x6+4)) yg4 ((⟨yg32.Marker,yg32.f_Type,yg32.Seq,yg32.Time,yg32.Ssrc,a93,yg32.Profile,yg32.Ext,yg32.Payload⟩:TaiRtp)))
else (
kE0 x0 x4 yg4 yg32)
def z4y (k:Nat) (x0:(List Int)):Option (TaiRtp×Int) :=
bif decide (((x0.length:Int))>1500) then (
some (((⟨false,0,0,0,0,(([]:List Int)),0,(([]:List Int)),(([]:List Int))⟩:TaiRtp)),3))
else (
bif ((x0.length:Int))==0 then (
some (((⟨false,0,0,0,0,(([]:List Int)),0,(([]:List Int)),(([]:List Int))⟩:TaiRtp)),13))
else (
(ix x0 0).bind fun a15 =>
bif (Int.fdiv a15 (2^6)) != 2 then (
some (((⟨false,0,0,0,0,(([]:List Int)),0,(([]:List Int)),(([]:List Int))⟩:TaiRtp)),12))
else (
(ix x0 0).bind fun a23 =>
bif decide (((x0.length:Int))<(IntKind.wrap .i64 (12+(IntKind.wrap .i64 (4*(IntKind.wrap .i64 (intBits .and .u8 a23 15))))))) then (
some (((⟨false,0,0,0,0,(([]:List Int)),0,(([]:List Int)),(([]:List Int))⟩:TaiRtp)),13))
else (
(ix x0 1).bind fun a33 =>
(ix x0 1).bind fun a36 =>
(z19 k x0 2 2).bind fun r39 =>
(z19 k x0 4 4).bind fun r46 =>
(z19 k x0 8 4).bind fun r53 =>
z42 k (fun r130_0 r130_4 yg70 yg79 =>
(ix r130_0 0).bind fun a154 =>
bif (intBits .and .u8 a154 16) != 0 then (
(z19 k r130_0 (IntKind.wrap .i64 (r130_4+2)) 2).bind fun r158 =>
(z6s r130_0 (IntKind.wrap .i64 (r130_4+4)) (IntKind.wrap .i64 (4*(IntKind.wrap .i64 r158)))).bind fun r163 =>
bif !r163.2 then (
some (((⟨false,0,0,0,0,(([]:List Int)),0,(([]:List Int)),(([]:List Int))⟩:TaiRtp)),13))
else (
(z19 k r130_0 r130_4 2).bind fun r175 =>
(ix r130_0 0).bind fun a186 =>
bif (intBits .and .u8 a186 32) != 0 then (
(ix r130_0 (IntKind.wrap .i64 (((r130_0.length:Int))-1))).bind fun a190 =>
(bif (IntKind.wrap .i64 a190)==0 then (some true) else (some (decide ((IntKind.wrap .i64 a190)>(IntKind.wrap .i64 (((r130_0.length:Int))-(IntKind.wrap .i64 ((IntKind.wrap .i64 (r130_4+4))+(IntKind.wrap .i64 (4*(IntKind.wrap .i64 r158))))))))))).bind fun b193 =>
bif b193 then (
some (((⟨false,0,0,0,0,(([]:List Int)),0,(([]:List Int)),(([]:List Int))⟩:TaiRtp)),13))
else (
(ix r130_0 0).bind fun a202 =>
(bif (intBits .and .u8 a202 16) != 0 then (some ((IntKind.wrap .u16 r175)==0)) else (some false)).bind fun b205 =>
bif b205 then (
some (((⟨false,0,0,0,0,(([]:List Int)),0,(([]:List Int)),(([]:List Int))⟩:TaiRtp)),12))
else (
(sub r130_0 (IntKind.wrap .i64 ((IntKind.wrap .i64 (r130_4+4))+(IntKind.wrap .i64 (4*(IntKind.wrap .i64 r158))))) (IntKind.wrap .i64 (((r130_0.length:Int))-(IntKind.wrap .i64 a190)))).bind fun a215 =>
(ap 1 (([]:List Int)) a215).bind fun a219 =>
some (((⟨yg79.Marker,yg79.f_Type,yg79.Seq,yg79.Time,yg79.Ssrc,yg79.Csrc,(IntKind.wrap .u16 r175),r163.1,a219⟩:TaiRtp)),0))))
else (
(ix r130_0 0).bind fun a254 =>
(bif (intBits .and .u8 a254 16) != 0 then (some ((IntKind.wrap .u16 r175)==0)) else (some false)).bind fun b257 =>
bif b257 then (
some (((⟨false,0,0,0,0,(([]:List Int)),0,(([]:List Int)),(([]:List Int))⟩:TaiRtp)),12))
else (
(sub r130_0 (IntKind.wrap .i64 ((IntKind.wrap .i64 (r130_4+4))+(IntKind.wrap .i64 (4*(IntKind.wrap .i64 r158))))) ((r130_0.length:Int))).bind fun a267 =>
(ap 1 (([]:List Int)) a267).bind fun a271 =>
some (((⟨yg79.Marker,yg79.f_Type,yg79.Seq,yg79.Time,yg79.Ssrc,yg79.Csrc,(IntKind.wrap .u16 r175),r163.1,a271⟩:TaiRtp)),0)))))
else (
(ix r130_0 0).bind fun a306 =>
bif (intBits .and .u8 a306 32) != 0 then (
(ix r130_0 (IntKind.wrap .i64 (((r130_0.length:Int))-1))).bind fun a310 =>
(bif (IntKind.wrap .i64 a310)==0 then (some true) else (some (decide ((IntKind.wrap .i64 a310)>(IntKind.wrap .i64 (((r130_0.length:Int))-r130_4)))))).bind fun b313 =>
bif b313 then (
some (((⟨false,0,0,0,0,(([]:List Int)),0,(([]:List Int)),(([]:List Int))⟩:TaiRtp)),13))
else (
(ix r130_0 0).bind fun a322 =>
(bif (intBits .and .u8 a322 16) != 0 then (some (yg79.Profile==0)) else (some false)).bind fun b325 =>
bif b325 then (
some (((⟨false,0,0,0,0,(([]:List Int)),0,(([]:List Int)),(([]:List Int))⟩:TaiRtp)),12))
else (
(sub r130_0 r130_4 (IntKind.wrap .i64 (((r130_0.length:Int))-(IntKind.wrap .i64 a310)))).bind fun a335 =>
(ap 1 (([]:List Int)) a335).bind fun a339 =>
some (((⟨yg79.Marker,yg79.f_Type,yg79.Seq,yg79.Time,yg79.Ssrc,yg79.Csrc,yg79.Profile,yg79.Ext,a339⟩:TaiRtp)),0))))
else (
(ix r130_0 0).bind fun a374 =>
(bif (intBits .and .u8 a374 16) != 0 then (some (yg79.Profile==0)) else (some false)).bind fun b377 =>
bif b377 then (
some (((⟨false,0,0,0,0,(([]:List Int)),0,(([]:List Int)),(([]:List Int))⟩:TaiRtp)),12))
else (
(sub r130_0 r130_4 ((r130_0.length:Int))).bind fun a387 =>
(ap 1 (([]:List Int)) a387).bind fun a391 =>
some (((⟨yg79.Marker,yg79.f_Type,yg79.Seq,yg79.Time,yg79.Ssrc,yg79.Csrc,yg79.Profile,yg79.Ext,a391⟩:TaiRtp)),0))))) x0 (IntKind.wrap .i64 (12+(IntKind.wrap .i64 (4*(IntKind.wrap .i64 (intBits .and .u8 a23 15)))))) 12 ((⟨false,0,0,0,0,(([]:List Int)),0,(([]:List Int)),(([]:List Int))⟩:TaiRtp)) ((⟨((Int.fdiv a33 (2^7))==1),(IntKind.wrap .i64 (intBits .and .u8 a36 127)),(IntKind.wrap .u16 r39),(IntKind.wrap .u32 r46),(IntKind.wrap .u32 r53),(([]:List Int)),0,(([]:List Int)),(([]:List Int))⟩:TaiRtp))))))
theorem zee {h:H}  {kE0:(List Int)→Int→TaiRtp→TaiRtp→Option β} (hE0:∀ (q0:(List Int)) (q4:Int) (yg70:TaiRtp) (yg79:TaiRtp) (v109:V) (h110:SlH h (dI .u8) q0 v109) (w111:List V) (h112:z6.R yg70 w111) (s113:Stamp) (c115:C) (h116:SoC (dI .u32) yg79.Csrc c115) (h117:Nn c115 1) (v118:V) (h119:SlF (dI .u8) yg79.Ext v118) (v120:V) (h121:SlF (dI .u8) yg79.Payload v120) (s122:Stamp) (H107:Go.Ev.H) (_:Fm 150 h [] [(2,s113,List.map C.v w111),(5,s122,[.v (.p (.bool yg79.Marker)),.v (.p (.int .i64 yg79.f_Type)),.v (.p (.int .u16 yg79.Seq)),.v (.p (.int .u32 yg79.Time)),.v (.p (.int .u32 yg79.Ssrc)),c115,.v (.p (.int .u16 yg79.Profile)),.v v118,.v v120])] [] H107),Sim (kE0 q0 q4 yg70 yg79) (K ((.exit 0),(envL [(0,v109),(2,(.ref ⟨h.length,2,0,s113,[]⟩ 0)),(4,(.p (.int .i64 q4))),(5,(.ref ⟨h.length,5,0,s122,[]⟩ 0))]),H107)) Q) (k:Nat):∀ (x0:(List Int)) (x4:Int) (x6:Int) (yg4:TaiRtp) (yg32:TaiRtp) (v65:V) (h66:SlH h (dI .u8) x0 v65) (w67:List V) (h68:z6.R yg4 w67) (s69:Stamp) (c71:C) (h72:SoC (dI .u32) yg32.Csrc c71) (h73:Nn c71 1) (v74:V) (h75:SlF (dI .u8) yg32.Ext v74) (v76:V) (h77:SlF (dI .u8) yg32.Payload v76) (s78:Stamp) (H63:Go.Ev.H) (_:Fm 150 h [] [(2,s69,List.map C.v w67),(5,s78,[.v (.p (.bool yg32.Marker)),.v (.p (.int .i64 yg32.f_Type)),.v (.p (.int .u16 yg32.Seq)),.v (.p (.int .u32 yg32.Time)),.v (.p (.int .u32 yg32.Ssrc)),c71,.v (.p (.int .u16 yg32.Profile)),.v v74,.v v76])] [] H63) {σ:Stamp},Sim (z42 k kE0 x0 x4 x6 yg4 yg32) ((cvL G X0 z6i z6h σ (envL [(0,v65),(2,(.ref ⟨h.length,2,0,s69,[]⟩ 0)),(4,(.p (.int .i64 x4))),(5,(.ref ⟨h.length,5,0,s78,[]⟩ 0)),(6,(.p (.int .i64 x6)))]) H63).bind K) Q:=by
 induction k with
 | zero=>intros;exact .no
 | succ k ih =>
  intro x0 x4 x6 yg4 yg32 v65 h66 w67 h68 s69 c71 h72 h73 v74 h75 v76 h77 s78 H63 S64 σ
  rw [z42]
  refine .round (Sim.ext (zhz _ _ _ _ _ _ _ _ _) ?_)
  obtain ⟨v80,v82,v84,rfl,h81,h83,h85⟩:=z6.inv h68
  refine .cq ?_ ?_
  ·refine .fa ?_
   refine .op (h72.ld (S64.atG (i:=1) rfl) (j:=5) rfl) ?_
   refine .call (z51 k x0 (S64.low h66) x6 4) fun r87 cs88 H89 h90 q91=>?_
   cases q91
   refine .ci ?_
   refine .nd (h72.ld (S64.atG (i:=1) rfl) (j:=5) rfl) ?_
   have h92:=SlF.int1 .u32 (IntKind.wrap .u32 r87)
   refine .op (bldS (pC rfl pN) (by kernel_rfl:_=some (vOf h92))) ?_
   refine .bd fun a93 h94=>?_
   obtain ⟨v95,c96,H97,e98,S99⟩:=S64.appG (i:=1) (j:=5) (d:=70) (e:=1) (own:=true) (σ:=(7::0::1::0::σ)) rfl rfl h72 h73 (h92.h H63).y h94 (by simp) rfl (by decide) (by decide) rfl rfl
   refine .op (e98) ?_
   refine .fa ?_
   obtain ⟨c104,H101,e102,h105,h106,S103⟩:=S99.mvG (i:=1) (j:=5) (k:=0) (σ:=(9::0::1::0::σ)) rfl rfl rfl rfl rfl rfl
   refine .op (sM e102) ?_
   exact ih x0 x4 (IntKind.wrap .i64 (x6+4)) yg4 ((⟨yg32.Marker,yg32.f_Type,yg32.Seq,yg32.Time,yg32.Ssrc,a93,yg32.Profile,yg32.Ext,yg32.Payload⟩:TaiRtp)) v65 h66 _ h68 s69 c104 h105 h106 v74 h75 v76 h77 s78 H101 (S103.wk2 (aC (aM 0 rfl) (aC (aM 1 rfl) aN)) aN)
  exact hE0 x0 x4 yg4 yg32 v65 h66 _ h68 s69 c71 h72 h73 v74 h75 v76 h77 s78 H63 (S64.wk2 (aC (aM 0 rfl) (aC (aM 1 rfl) aN)) aN)
theorem zbv (k:Nat) {h:H} {σ:Stamp} (x0:List Int) {u0:V} (hu0:SlH h (dI .u8) x0 u0):Sim (z4y k x0) (ev G X0 40 σ [u0] h) (fun r s=>∃ (w0:List V),z6.R r.1 w0∧s=([.v (.agg w0),.v (.p (.int .i64 r.2))],h)):=by
 refine .ev rfl (Sim.ext (zej _ _ _ _ _) ?_)
 rw [z4y]
 have S0:Fm 150 h [] [] [] (List.replicate 150 []::h):=Fm.start0
 obtain ⟨H1,e2,S3⟩:=S0.al (d:=2) (s:=(0::0::0::σ)) (z:=[(.p (.bool false)),(.p (.int .i64 0)),(.p (.int .u16 0)),(.p (.int .u32 0)),(.p (.int .u32 0)),(.p (.slice none 0 0)),(.p (.int .u16 0)),(.p (.slice none 0 0)),(.p (.slice none 0 0))]) (by decide) rfl
 refine .op (congrArg some e2) ?_
 refine .op ((S3.low hu0).len) ?_
 refine .ci ?_
 refine .cq ?_ ?_
 ·refine .op (bldV pN (by kernel_rfl:_=some (.agg [.p (.bool false),.p (.int .i64 0),.p (.int .u16 0),.p (.int .u32 0),.p (.int .u32 0),.p (.slice none 0 0),.p (.int .u16 0),.p (.slice none 0 0),.p (.slice none 0 0)]))) ?_
  obtain ⟨H6,e7,S8⟩:=S3.stGv (i:=0) (j:=0) (own:=true) (σ:=(1::0::1::0::1::0::σ)) (xs:=[.p (.bool false),.p (.int .i64 0),.p (.int .u16 0),.p (.int .u32 0),.p (.int .u32 0),.p (.slice none 0 0),.p (.int .u16 0),.p (.slice none 0 0),.p (.slice none 0 0)]) rfl rfl (sC (sB _) (sC (sI _ _) (sC (sI _ _) (sC (sI _ _) (sC (sI _ _) (sC (SlF.nil (dI .u32)).still (sC (sI _ _) (sC (SlF.nil (dI .u8)).still (sC (SlF.nil (dI .u8)).still sN))))))))) rfl rfl
  refine .op (sM e7) ?_
  have e9:ldO true 9 H6 (.ref ⟨h.length,2,0,(0::0::0::σ),[]⟩ 0)=some (.agg [.p (.bool false),.p (.int .i64 0),.p (.int .u16 0),.p (.int .u32 0),.p (.int .u32 0),.p (.slice none 0 0),.p (.int .u16 0),.p (.slice none 0 0),.p (.slice none 0 0)]):=(S8.atG (i:=0) rfl).ldVs (j:=0) rfl rfl (by decide)
  refine .op (congrArg (Option.bind · _) e9) ?_
  exact .fin (S8.finN (lC (Stills.lv (z6.still (z6.mk (SlF.nil (dI .u32)) (SlF.nil (dI .u8)) (SlF.nil (dI .u8))))) (lC (sI _ _).lv lN))) ⟨_,(z6.mk (SlF.nil (dI .u32)) (SlF.nil (dI .u8)) (SlF.nil (dI .u8))),rfl⟩
 refine .op ((S3.low hu0).len) ?_
 refine .ci ?_
 refine .cq ?_ ?_
 ·refine .op (bldV pN (by kernel_rfl:_=some (.agg [.p (.bool false),.p (.int .i64 0),.p (.int .u16 0),.p (.int .u32 0),.p (.int .u32 0),.p (.slice none 0 0),.p (.int .u16 0),.p (.slice none 0 0),.p (.slice none 0 0)]))) ?_
  obtain ⟨H11,e12,S13⟩:=S3.stGv (i:=0) (j:=0) (own:=true) (σ:=(1::0::1::0::1::1::0::σ)) (xs:=[.p (.bool false),.p (.int .i64 0),.p (.int .u16 0),.p (.int .u32 0),.p (.int .u32 0),.p (.slice none 0 0),.p (.int .u16 0),.p (.slice none 0 0),.p (.slice none 0 0)]) rfl rfl (sC (sB _) (sC (sI _ _) (sC (sI _ _) (sC (sI _ _) (sC (sI _ _) (sC (SlF.nil (dI .u32)).still (sC (sI _ _) (sC (SlF.nil (dI .u8)).still (sC (SlF.nil (dI .u8)).still sN))))))))) rfl rfl
  refine .op (sM e12) ?_
  have e14:ldO true 9 H11 (.ref ⟨h.length,2,0,(0::0::0::σ),[]⟩ 0)=some (.agg [.p (.bool false),.p (.int .i64 0),.p (.int .u16 0),.p (.int .u32 0),.p (.int .u32 0),.p (.slice none 0 0),.p (.int .u16 0),.p (.slice none 0 0),.p (.slice none 0 0)]):=(S13.atG (i:=0) rfl).ldVs (j:=0) rfl rfl (by decide)
  refine .op (congrArg (Option.bind · _) e14) ?_
  exact .fin (S13.finN (lC (Stills.lv (z6.still (z6.mk (SlF.nil (dI .u32)) (SlF.nil (dI .u8)) (SlF.nil (dI .u8))))) (lC (sI _ _).lv lN))) ⟨_,(z6.mk (SlF.nil (dI .u32)) (SlF.nil (dI .u8)) (SlF.nil (dI .u8))),rfl⟩
 refine .bd fun a15 h16=>?_
 refine .op ((S3.low hu0).iS h16 rfl) ?_
 obtain ⟨_,rfl,hE17⟩:=(S3.low hu0).el h16 rfl
 refine .op (hE17.ld (j:=0) rfl) ?_
 refine .ci ?_
 refine .cq ?_ ?_
 ·refine .op (bldV pN (by kernel_rfl:_=some (.agg [.p (.bool false),.p (.int .i64 0),.p (.int .u16 0),.p (.int .u32 0),.p (.int .u32 0),.p (.slice none 0 0),.p (.int .u16 0),.p (.slice none 0 0),.p (.slice none 0 0)]))) ?_
  obtain ⟨H19,e20,S21⟩:=S3.stGv (i:=0) (j:=0) (own:=true) (σ:=(1::0::1::0::1::1::1::0::σ)) (xs:=[.p (.bool false),.p (.int .i64 0),.p (.int .u16 0),.p (.int .u32 0),.p (.int .u32 0),.p (.slice none 0 0),.p (.int .u16 0),.p (.slice none 0 0),.p (.slice none 0 0)]) rfl rfl (sC (sB _) (sC (sI _ _) (sC (sI _ _) (sC (sI _ _) (sC (sI _ _) (sC (SlF.nil (dI .u32)).still (sC (sI _ _) (sC (SlF.nil (dI .u8)).still (sC (SlF.nil (dI .u8)).still sN))))))))) rfl rfl
  refine .op (sM e20) ?_
  have e22:ldO true 9 H19 (.ref ⟨h.length,2,0,(0::0::0::σ),[]⟩ 0)=some (.agg [.p (.bool false),.p (.int .i64 0),.p (.int .u16 0),.p (.int .u32 0),.p (.int .u32 0),.p (.slice none 0 0),.p (.int .u16 0),.p (.slice none 0 0),.p (.slice none 0 0)]):=(S21.atG (i:=0) rfl).ldVs (j:=0) rfl rfl (by decide)
  refine .op (congrArg (Option.bind · _) e22) ?_
  exact .fin (S21.finN (lC (Stills.lv (z6.still (z6.mk (SlF.nil (dI .u32)) (SlF.nil (dI .u8)) (SlF.nil (dI .u8))))) (lC (sI _ _).lv lN))) ⟨_,(z6.mk (SlF.nil (dI .u32)) (SlF.nil (dI .u8)) (SlF.nil (dI .u8))),rfl⟩
 refine .bd fun a23 h24=>?_
 refine .op ((S3.low hu0).iS h24 rfl) ?_
 obtain ⟨_,rfl,hE25⟩:=(S3.low hu0).el h24 rfl
 refine .op (hE25.ld (j:=0) rfl) ?_
 refine .ci ?_
 refine .op ((S3.low hu0).len) ?_
 refine .ci ?_
 refine .cq ?_ ?_
 ·refine .op (bldV pN (by kernel_rfl:_=some (.agg [.p (.bool false),.p (.int .i64 0),.p (.int .u16 0),.p (.int .u32 0),.p (.int .u32 0),.p (.slice none 0 0),.p (.int .u16 0),.p (.slice none 0 0),.p (.slice none 0 0)]))) ?_
  obtain ⟨H27,e28,S29⟩:=S3.stGv (i:=0) (j:=0) (own:=true) (σ:=(1::0::1::0::1::1::1::1::1::0::σ)) (xs:=[.p (.bool false),.p (.int .i64 0),.p (.int .u16 0),.p (.int .u32 0),.p (.int .u32 0),.p (.slice none 0 0),.p (.int .u16 0),.p (.slice none 0 0),.p (.slice none 0 0)]) rfl rfl (sC (sB _) (sC (sI _ _) (sC (sI _ _) (sC (sI _ _) (sC (sI _ _) (sC (SlF.nil (dI .u32)).still (sC (sI _ _) (sC (SlF.nil (dI .u8)).still (sC (SlF.nil (dI .u8)).still sN))))))))) rfl rfl
  refine .op (sM e28) ?_
  have e30:ldO true 9 H27 (.ref ⟨h.length,2,0,(0::0::0::σ),[]⟩ 0)=some (.agg [.p (.bool false),.p (.int .i64 0),.p (.int .u16 0),.p (.int .u32 0),.p (.int .u32 0),.p (.slice none 0 0),.p (.int .u16 0),.p (.slice none 0 0),.p (.slice none 0 0)]):=(S29.atG (i:=0) rfl).ldVs (j:=0) rfl rfl (by decide)
  refine .op (congrArg (Option.bind · _) e30) ?_
  exact .fin (S29.finN (lC (Stills.lv (z6.still (z6.mk (SlF.nil (dI .u32)) (SlF.nil (dI .u8)) (SlF.nil (dI .u8))))) (lC (sI _ _).lv lN))) ⟨_,(z6.mk (SlF.nil (dI .u32)) (SlF.nil (dI .u8)) (SlF.nil (dI .u8))),rfl⟩
 have S31:=S3.add (d:=5) (s:=(20::0::1::1::1::1::1::1::0::σ)) (cs:=List.map C.v [(.p (.bool false)),(.p (.int .i64 0)),(.p (.int .u16 0)),(.p (.int .u32 0)),(.p (.int .u32 0)),(.p (.slice none 0 0)),(.p (.int .u16 0)),(.p (.slice none 0 0)),(.p (.slice none 0 0))]) (by decide) rfl
 have S31:Fm _ _ _ _ _ (alO [(.p (.bool false)),(.p (.int .i64 0)),(.p (.int .u16 0)),(.p (.int .u32 0)),(.p (.int .u32 0)),(.p (.slice none 0 0)),(.p (.int .u16 0)),(.p (.slice none 0 0)),(.p (.slice none 0 0))] (20::0::1::1::1::1::1::1::0::σ) 5 H1).2:=S31
 first | rw [S31.newLoc 5 (20::0::1::1::1::1::1::1::0::σ)] | erw [S31.newLoc 5 (20::0::1::1::1::1::1::1::0::σ)]
 refine .nd (⟨_,(by kernel_rfl),S31.slot (i:=0) rfl⟩) ?_
 refine .bd fun a33 h34=>?_
 refine .op ((S31.low hu0).iS h34 rfl) ?_
 obtain ⟨_,rfl,hE35⟩:=(S31.low hu0).el h34 rfl
 refine .op (hE35.ld (j:=0) rfl) ?_
 refine .ci ?_
 refine .bd fun a36 h37=>?_
 refine .op ((S31.low hu0).iS h37 rfl) ?_
 obtain ⟨_,rfl,hE38⟩:=(S31.low hu0).el h37 rfl
 refine .op (hE38.ld (j:=0) rfl) ?_
 refine .ci ?_
 refine .call (z51 k x0 (S31.low hu0) 2 2) fun r39 cs40 H41 h42 q43=>?_
 cases q43
 refine .ci ?_
 refine .nd (rfl) ?_
 obtain ⟨_,rfl,hE44⟩:=(S31.low hu0).el h37 rfl
 refine .nd (hE44.ld (j:=0) rfl) ?_
 refine .nd (rfl) ?_
 obtain ⟨_,rfl,hE45⟩:=(S31.low hu0).el h34 rfl
 refine .nd (hE45.ld (j:=0) rfl) ?_
 refine .nd (⟨_,(by kernel_rfl),S31.slot (i:=0) rfl⟩) ?_
 refine .call (z51 k x0 (S31.low hu0) 4 4) fun r46 cs47 H48 h49 q50=>?_
 cases q50
 refine .ci ?_
 refine .nd (rfl) ?_
 refine .nd (rfl) ?_
 obtain ⟨_,rfl,hE51⟩:=(S31.low hu0).el h37 rfl
 refine .nd (hE51.ld (j:=0) rfl) ?_
 refine .nd (rfl) ?_
 obtain ⟨_,rfl,hE52⟩:=(S31.low hu0).el h34 rfl
 refine .nd (hE52.ld (j:=0) rfl) ?_
 refine .nd (⟨_,(by kernel_rfl),S31.slot (i:=0) rfl⟩) ?_
 refine .call (z51 k x0 (S31.low hu0) 8 4) fun r53 cs54 H55 h56 q57=>?_
 cases q57
 refine .ci ?_
 refine .nd (rfl) ?_
 refine .nd (rfl) ?_
 refine .nd (rfl) ?_
 obtain ⟨_,rfl,hE58⟩:=(S31.low hu0).el h37 rfl
 refine .nd (hE58.ld (j:=0) rfl) ?_
 refine .nd (rfl) ?_
 obtain ⟨_,rfl,hE59⟩:=(S31.low hu0).el h34 rfl
 refine .nd (hE59.ld (j:=0) rfl) ?_
 refine .nd (⟨_,(by kernel_rfl),S31.slot (i:=0) rfl⟩) ?_
 refine .op (bldV (pC rfl (pC rfl (pC rfl (pC rfl (pC rfl pN))))) (by kernel_rfl:_=some (.agg [.p (.bool ((Int.fdiv a33 (2^7))==1)),.p (.int .i64 (IntKind.wrap .i64 (intBits .and .u8 a36 127))),.p (.int .u16 (IntKind.wrap .u16 r39)),.p (.int .u32 (IntKind.wrap .u32 r46)),.p (.int .u32 (IntKind.wrap .u32 r53)),.p (.slice none 0 0),.p (.int .u16 0),.p (.slice none 0 0),.p (.slice none 0 0)]))) ?_
 obtain ⟨H60,e61,S62⟩:=S31.stGv (i:=0) (j:=0) (own:=true) (σ:=(21::0::1::1::1::1::1::1::0::σ)) (xs:=[.p (.bool ((Int.fdiv a33 (2^7))==1)),.p (.int .i64 (IntKind.wrap .i64 (intBits .and .u8 a36 127))),.p (.int .u16 (IntKind.wrap .u16 r39)),.p (.int .u32 (IntKind.wrap .u32 r46)),.p (.int .u32 (IntKind.wrap .u32 r53)),.p (.slice none 0 0),.p (.int .u16 0),.p (.slice none 0 0),.p (.slice none 0 0)]) rfl rfl (sC (sB _) (sC (sI _ _) (sC (sI _ _) (sC (sI _ _) (sC (sI _ _) (sC (SlF.nil (dI .u32)).still (sC (sI _ _) (sC (SlF.nil (dI .u8)).still (sC (SlF.nil (dI .u8)).still sN))))))))) rfl rfl
 refine .op (sM e61) ?_
 refine .as (zee ?_ k x0 (IntKind.wrap .i64 (12+(IntKind.wrap .i64 (4*(IntKind.wrap .i64 (intBits .and .u8 a23 15)))))) 12 ((⟨false,0,0,0,0,(([]:List Int)),0,(([]:List Int)),(([]:List Int))⟩:TaiRtp)) ((⟨((Int.fdiv a33 (2^7))==1),(IntKind.wrap .i64 (intBits .and .u8 a36 127)),(IntKind.wrap .u16 r39),(IntKind.wrap .u32 r46),(IntKind.wrap .u32 r53),(([]:List Int)),0,(([]:List Int)),(([]:List Int))⟩:TaiRtp)) u0 hu0 _ (z6.mk (SlF.nil (dI .u32)) (SlF.nil (dI .u8)) (SlF.nil (dI .u8))) (0::0::0::σ) (.v (.p (.slice none 0 0))) (SoC.frz (SlF.nil (dI .u32))) (fun v h=>by cases h;simp) (.p (.slice none 0 0)) (SlF.nil (dI .u8)) (.p (.slice none 0 0)) (SlF.nil (dI .u8)) (20::0::1::1::1::1::1::1::0::σ) H60 (S62.wk2 (aC (aM 1 rfl) (aC (aM 0 rfl) aN)) aN))
 ·intro r130_0 r130_4 yg70 yg79 v133 h134 w135 h136 s137 c139 h140 h141 v142 h143 v144 h145 s146 H131 S132
  refine .ext (zfw _ _ _ _ _ _ _ _) ?_
  obtain ⟨v148,v150,v152,rfl,h149,h151,h153⟩:=z6.inv h136
  refine .bd fun a154 h155=>?_
  refine .op ((S132.low h134).iS h155 rfl) ?_
  obtain ⟨_,rfl,hE156⟩:=(S132.low h134).el h155 rfl
  refine .op (hE156.ld (j:=0) rfl) ?_
  refine .ci ?_
  refine .cq ?_ ?_
  ·refine .call (z51 k r130_0 (S132.low h134) (IntKind.wrap .i64 (r130_4+2)) 2) fun r158 cs159 H160 h161 q162=>?_
   cases q162
   refine .ci ?_
   refine .call (ziz r130_0 (S132.low h134) (IntKind.wrap .i64 (r130_4+4)) (IntKind.wrap .i64 (4*(IntKind.wrap .i64 r158)))) fun r163 cs164 H165 h166 q167=>?_
   obtain ⟨v168,h169,q167⟩:=q167
   cases q167
   refine .or ?_
   refine .or ?_
   refine .ab ?_
   refine .cq ?_ ?_
   ·refine .op (bldV pN (by kernel_rfl:_=some (.agg [.p (.bool false),.p (.int .i64 0),.p (.int .u16 0),.p (.int .u32 0),.p (.int .u32 0),.p (.slice none 0 0),.p (.int .u16 0),.p (.slice none 0 0),.p (.slice none 0 0)]))) ?_
    obtain ⟨H171,e172,S173⟩:=S132.stGv (i:=0) (j:=0) (own:=true) (σ:=(1::0::1::0::1::1::1::0::1::1::1::1::1::1::1::1::0::σ)) (xs:=[.p (.bool false),.p (.int .i64 0),.p (.int .u16 0),.p (.int .u32 0),.p (.int .u32 0),.p (.slice none 0 0),.p (.int .u16 0),.p (.slice none 0 0),.p (.slice none 0 0)]) rfl rfl (sC (sB _) (sC (sI _ _) (sC (sI _ _) (sC (sI _ _) (sC (sI _ _) (sC (SlF.nil (dI .u32)).still (sC (sI _ _) (sC (SlF.nil (dI .u8)).still (sC (SlF.nil (dI .u8)).still sN))))))))) rfl rfl
    refine .op (sM e172) ?_
    have e174:ldO true 9 H171 (.ref ⟨h.length,2,0,s137,[]⟩ 0)=some (.agg [.p (.bool false),.p (.int .i64 0),.p (.int .u16 0),.p (.int .u32 0),.p (.int .u32 0),.p (.slice none 0 0),.p (.int .u16 0),.p (.slice none 0 0),.p (.slice none 0 0)]):=(S173.atG (i:=0) rfl).ldVs (j:=0) rfl rfl (by decide)
    refine .op (congrArg (Option.bind · _) e174) ?_
    exact .fin (S173.finN (lC (Stills.lv (z6.still (z6.mk (SlF.nil (dI .u32)) (SlF.nil (dI .u8)) (SlF.nil (dI .u8))))) (lC (sI _ _).lv lN))) ⟨_,(z6.mk (SlF.nil (dI .u32)) (SlF.nil (dI .u8)) (SlF.nil (dI .u8))),rfl⟩
   refine .call (z51 k r130_0 (S132.low h134) r130_4 2) fun r175 cs176 H177 h178 q179=>?_
   cases q179
   refine .ci ?_
   refine .fa ?_
   obtain ⟨H180,e181,S182⟩:=S132.stG (i:=1) (j:=6) (own:=true) (σ:=(6::0::1::1::1::1::0::1::1::1::1::1::1::1::1::0::σ)) (x:=(.p (.int .u16 (IntKind.wrap .u16 r175)))) rfl rfl (sI _ _) rfl
   refine .op (sM e181) ?_
   refine .fa ?_
   obtain ⟨H183,e184,S185⟩:=S182.stG (i:=1) (j:=7) (own:=true) (σ:=(8::0::1::1::1::1::0::1::1::1::1::1::1::1::1::0::σ)) (x:=v168) rfl rfl h169.still rfl
   refine .op (sM e184) ?_
   refine .op ((S185.low h134).len) ?_
   refine .ci ?_
   refine .bd fun a186 h187=>?_
   refine .op ((S185.low h134).iS h187 rfl) ?_
   obtain ⟨_,rfl,hE188⟩:=(S185.low h134).el h187 rfl
   refine .op (hE188.ld (j:=0) rfl) ?_
   refine .ci ?_
   refine .cq ?_ ?_
   ·refine .bd fun a190 h191=>?_
    refine .op ((S185.low h134).iS h191 rfl) ?_
    obtain ⟨_,rfl,hE192⟩:=(S185.low h134).el h191 rfl
    refine .op (hE192.ld (j:=0) rfl) ?_
    refine .ci ?_
    refine .ch (P:=fun r y=>r=y) ?_ (fun b193 y194 h195 h196=>?_)
    ·refine .cq ?_ ?_
     ·exact .ret rfl rfl
     ·exact .ret rfl rfl
    subst h196
    refine .cq ?_ ?_
    ·refine .op (bldV pN (by kernel_rfl:_=some (.agg [.p (.bool false),.p (.int .i64 0),.p (.int .u16 0),.p (.int .u32 0),.p (.int .u32 0),.p (.slice none 0 0),.p (.int .u16 0),.p (.slice none 0 0),.p (.slice none 0 0)]))) ?_
     obtain ⟨H198,e199,S200⟩:=S185.stGv (i:=0) (j:=0) (own:=true) (σ:=(1::0::1::0::1::1::0::1::1::1::1::1::1::1::1::1::1::0::σ)) (xs:=[.p (.bool false),.p (.int .i64 0),.p (.int .u16 0),.p (.int .u32 0),.p (.int .u32 0),.p (.slice none 0 0),.p (.int .u16 0),.p (.slice none 0 0),.p (.slice none 0 0)]) rfl rfl (sC (sB _) (sC (sI _ _) (sC (sI _ _) (sC (sI _ _) (sC (sI _ _) (sC (SlF.nil (dI .u32)).still (sC (sI _ _) (sC (SlF.nil (dI .u8)).still (sC (SlF.nil (dI .u8)).still sN))))))))) rfl rfl
     refine .op (sM e199) ?_
     have e201:ldO true 9 H198 (.ref ⟨h.length,2,0,s137,[]⟩ 0)=some (.agg [.p (.bool false),.p (.int .i64 0),.p (.int .u16 0),.p (.int .u32 0),.p (.int .u32 0),.p (.slice none 0 0),.p (.int .u16 0),.p (.slice none 0 0),.p (.slice none 0 0)]):=(S200.atG (i:=0) rfl).ldVs (j:=0) rfl rfl (by decide)
     refine .op (congrArg (Option.bind · _) e201) ?_
     exact .fin (S200.finN (lC (Stills.lv (z6.still (z6.mk (SlF.nil (dI .u32)) (SlF.nil (dI .u8)) (SlF.nil (dI .u8))))) (lC (sI _ _).lv lN))) ⟨_,(z6.mk (SlF.nil (dI .u32)) (SlF.nil (dI .u8)) (SlF.nil (dI .u8))),rfl⟩
    refine .bd fun a202 h203=>?_
    refine .op ((S185.low h134).iS h203 rfl) ?_
    obtain ⟨_,rfl,hE204⟩:=(S185.low h134).el h203 rfl
    refine .op (hE204.ld (j:=0) rfl) ?_
    refine .ci ?_
    refine .ch (P:=fun r y=>r=y) ?_ (fun b205 y206 h207 h208=>?_)
    ·refine .cq ?_ ?_
     ·refine .fa ?_
      refine .op ((S185.atG (i:=1) rfl).ld (j:=6) rfl) ?_
      refine .ci ?_
      exact .ret rfl rfl
     ·exact .ret rfl rfl
    subst h208
    refine .cq ?_ ?_
    ·refine .op (bldV pN (by kernel_rfl:_=some (.agg [.p (.bool false),.p (.int .i64 0),.p (.int .u16 0),.p (.int .u32 0),.p (.int .u32 0),.p (.slice none 0 0),.p (.int .u16 0),.p (.slice none 0 0),.p (.slice none 0 0)]))) ?_
     obtain ⟨H210,e211,S212⟩:=S185.stGv (i:=0) (j:=0) (own:=true) (σ:=(1::0::1::0::1::1::1::1::1::1::1::1::1::1::1::0::σ)) (xs:=[.p (.bool false),.p (.int .i64 0),.p (.int .u16 0),.p (.int .u32 0),.p (.int .u32 0),.p (.slice none 0 0),.p (.int .u16 0),.p (.slice none 0 0),.p (.slice none 0 0)]) rfl rfl (sC (sB _) (sC (sI _ _) (sC (sI _ _) (sC (sI _ _) (sC (sI _ _) (sC (SlF.nil (dI .u32)).still (sC (sI _ _) (sC (SlF.nil (dI .u8)).still (sC (SlF.nil (dI .u8)).still sN))))))))) rfl rfl
     refine .op (sM e211) ?_
     have e213:ldO true 9 H210 (.ref ⟨h.length,2,0,s137,[]⟩ 0)=some (.agg [.p (.bool false),.p (.int .i64 0),.p (.int .u16 0),.p (.int .u32 0),.p (.int .u32 0),.p (.slice none 0 0),.p (.int .u16 0),.p (.slice none 0 0),.p (.slice none 0 0)]):=(S212.atG (i:=0) rfl).ldVs (j:=0) rfl rfl (by decide)
     refine .op (congrArg (Option.bind · _) e213) ?_
     exact .fin (S212.finN (lC (Stills.lv (z6.still (z6.mk (SlF.nil (dI .u32)) (SlF.nil (dI .u8)) (SlF.nil (dI .u8))))) (lC (sI _ _).lv lN))) ⟨_,(z6.mk (SlF.nil (dI .u32)) (SlF.nil (dI .u8)) (SlF.nil (dI .u8))),rfl⟩
    have h214:SlF (dI .u8) ([]:List Int) (.fz [] 0 1 true):=SlF.lit (cs:=[]) RL.nil rfl rfl true
    refine .op (bldS pN (by kernel_rfl:_=some (vOf h214))) ?_
    refine .bd fun a215 h216=>?_
    refine .op ((S185.low h134).slS h216 rfl rfl rfl) ?_
    have S218:=S185.nil' (dI .u8) [] (e:=1) rfl
    refine .bd fun a219 h220=>?_
    obtain ⟨v221,H222,e223,S224⟩:=S218.app (i:=0) (d:=147) (e:=1) (own:=true) (σ:=(5::0::1::1::1::1::1::1::1::1::1::1::1::1::0::σ)) rfl ((S218.low h134).sub h216 (e:=1) rfl).y h220 rfl (by decide) (by decide) rfl
    refine .op (e223) ?_
    refine .fa ?_
    obtain ⟨c228,H225,e226,h229,h230,S227⟩:=S224.mvG (i:=1) (j:=8) (k:=0) (σ:=(7::0::1::1::1::1::1::1::1::1::1::1::1::1::0::σ)) rfl rfl rfl rfl rfl rfl
    refine .op (sM e226) ?_
    obtain ⟨v231,h232,h233⟩:=h140.fr
    obtain ⟨v234,h235,h236⟩:=h229.fr
    obtain ⟨w237,h244,h243,e239,e245⟩:=S227.cpV (i:=1) (n:=9) (ys:=[(.p (.bool yg79.Marker)),(.p (.int .i64 yg79.f_Type)),(.p (.int .u16 yg79.Seq)),(.p (.int .u32 yg79.Time)),(.p (.int .u32 yg79.Ssrc)),v231,(.p (.int .u16 (IntKind.wrap .u16 r175))),v168,v234]) rfl ⟨(FrC.v (sB _)),⟨(FrC.v (sI _ _)),⟨(FrC.v (sI _ _)),⟨(FrC.v (sI _ _)),⟨(FrC.v (sI _ _)),⟨h232,⟨(FrC.v (sI _ _)),⟨(FrC.v h169.still),⟨h235,trivial⟩⟩⟩⟩⟩⟩⟩⟩⟩ rfl
    obtain ⟨H238,e240,e241,S242⟩:=S227.frzX (i:=1) (ys:=[(.p (.bool yg79.Marker)),(.p (.int .i64 yg79.f_Type)),(.p (.int .u16 yg79.Seq)),(.p (.int .u32 yg79.Time)),(.p (.int .u32 yg79.Ssrc)),v231,(.p (.int .u16 (IntKind.wrap .u16 r175))),v168,v234]) rfl rfl ⟨(FrC.v (sB _)),⟨(FrC.v (sI _ _)),⟨(FrC.v (sI _ _)),⟨(FrC.v (sI _ _)),⟨(FrC.v (sI _ _)),⟨h232,⟨(FrC.v (sI _ _)),⟨(FrC.v h169.still),⟨h235,trivial⟩⟩⟩⟩⟩⟩⟩⟩⟩ h244
    refine .op (e239) ?_
    obtain ⟨H246,e247,S248⟩:=S227.stX (i:=0) (n:=9) (σ:=(1::0::1::1::1::1::1::1::1::1::1::1::1::1::1::0::σ)) rfl rfl e245 h243 rfl
    refine .op (sM e247) ?_
    obtain ⟨H249,e250,e251,S252⟩:=S248.frzX (i:=1) (ys:=[(.p (.bool yg79.Marker)),(.p (.int .i64 yg79.f_Type)),(.p (.int .u16 yg79.Seq)),(.p (.int .u32 yg79.Time)),(.p (.int .u32 yg79.Ssrc)),v231,(.p (.int .u16 (IntKind.wrap .u16 r175))),v168,v234]) rfl rfl ⟨(FrC.v (sB _)),⟨(FrC.v (sI _ _)),⟨(FrC.v (sI _ _)),⟨(FrC.v (sI _ _)),⟨(FrC.v (sI _ _)),⟨h232,⟨(FrC.v (sI _ _)),⟨(FrC.v h169.still),⟨h235,trivial⟩⟩⟩⟩⟩⟩⟩⟩⟩ h244
    have e253:ldO true 9 H246 (.ref ⟨h.length,2,0,s137,[]⟩ 0)=some (.agg w237):=AtC.ldX (S248.atG (i:=0) rfl) h243 (by decide)
    refine .op (congrArg (Option.bind · _) e253) ?_
    exact .fin (S252.finE (Ex.st (e250 _ _) (Ex.pl (sI _ _).lv Ex.nil))) ⟨_,(z6.mk h233 h169 h236),rfl⟩
   refine .bd fun a254 h255=>?_
   refine .op ((S185.low h134).iS h255 rfl) ?_
   obtain ⟨_,rfl,hE256⟩:=(S185.low h134).el h255 rfl
   refine .op (hE256.ld (j:=0) rfl) ?_
   refine .ci ?_
   refine .ch (P:=fun r y=>r=y) ?_ (fun b257 y258 h259 h260=>?_)
   ·refine .cq ?_ ?_
    ·refine .fa ?_
     refine .op ((S185.atG (i:=1) rfl).ld (j:=6) rfl) ?_
     refine .ci ?_
     exact .ret rfl rfl
    ·exact .ret rfl rfl
   subst h260
   refine .cq ?_ ?_
   ·refine .op (bldV pN (by kernel_rfl:_=some (.agg [.p (.bool false),.p (.int .i64 0),.p (.int .u16 0),.p (.int .u32 0),.p (.int .u32 0),.p (.slice none 0 0),.p (.int .u16 0),.p (.slice none 0 0),.p (.slice none 0 0)]))) ?_
    obtain ⟨H262,e263,S264⟩:=S185.stGv (i:=0) (j:=0) (own:=true) (σ:=(1::0::1::0::1::1::1::1::1::1::1::1::1::1::1::0::σ)) (xs:=[.p (.bool false),.p (.int .i64 0),.p (.int .u16 0),.p (.int .u32 0),.p (.int .u32 0),.p (.slice none 0 0),.p (.int .u16 0),.p (.slice none 0 0),.p (.slice none 0 0)]) rfl rfl (sC (sB _) (sC (sI _ _) (sC (sI _ _) (sC (sI _ _) (sC (sI _ _) (sC (SlF.nil (dI .u32)).still (sC (sI _ _) (sC (SlF.nil (dI .u8)).still (sC (SlF.nil (dI .u8)).still sN))))))))) rfl rfl
    refine .op (sM e263) ?_
    have e265:ldO true 9 H262 (.ref ⟨h.length,2,0,s137,[]⟩ 0)=some (.agg [.p (.bool false),.p (.int .i64 0),.p (.int .u16 0),.p (.int .u32 0),.p (.int .u32 0),.p (.slice none 0 0),.p (.int .u16 0),.p (.slice none 0 0),.p (.slice none 0 0)]):=(S264.atG (i:=0) rfl).ldVs (j:=0) rfl rfl (by decide)
    refine .op (congrArg (Option.bind · _) e265) ?_
    exact .fin (S264.finN (lC (Stills.lv (z6.still (z6.mk (SlF.nil (dI .u32)) (SlF.nil (dI .u8)) (SlF.nil (dI .u8))))) (lC (sI _ _).lv lN))) ⟨_,(z6.mk (SlF.nil (dI .u32)) (SlF.nil (dI .u8)) (SlF.nil (dI .u8))),rfl⟩
   have h266:SlF (dI .u8) ([]:List Int) (.fz [] 0 1 true):=SlF.lit (cs:=[]) RL.nil rfl rfl true
   refine .op (bldS pN (by kernel_rfl:_=some (vOf h266))) ?_
   refine .bd fun a267 h268=>?_
   refine .op ((S185.low h134).slS h268 rfl rfl rfl) ?_
   have S270:=S185.nil' (dI .u8) [] (e:=1) rfl
   refine .bd fun a271 h272=>?_
   obtain ⟨v273,H274,e275,S276⟩:=S270.app (i:=0) (d:=147) (e:=1) (own:=true) (σ:=(5::0::1::1::1::1::1::1::1::1::1::1::1::1::0::σ)) rfl ((S270.low h134).sub h268 (e:=1) rfl).y h272 rfl (by decide) (by decide) rfl
   refine .op (e275) ?_
   refine .fa ?_
   obtain ⟨c280,H277,e278,h281,h282,S279⟩:=S276.mvG (i:=1) (j:=8) (k:=0) (σ:=(7::0::1::1::1::1::1::1::1::1::1::1::1::1::0::σ)) rfl rfl rfl rfl rfl rfl
   refine .op (sM e278) ?_
   obtain ⟨v283,h284,h285⟩:=h140.fr
   obtain ⟨v286,h287,h288⟩:=h281.fr
   obtain ⟨w289,h296,h295,e291,e297⟩:=S279.cpV (i:=1) (n:=9) (ys:=[(.p (.bool yg79.Marker)),(.p (.int .i64 yg79.f_Type)),(.p (.int .u16 yg79.Seq)),(.p (.int .u32 yg79.Time)),(.p (.int .u32 yg79.Ssrc)),v283,(.p (.int .u16 (IntKind.wrap .u16 r175))),v168,v286]) rfl ⟨(FrC.v (sB _)),⟨(FrC.v (sI _ _)),⟨(FrC.v (sI _ _)),⟨(FrC.v (sI _ _)),⟨(FrC.v (sI _ _)),⟨h284,⟨(FrC.v (sI _ _)),⟨(FrC.v h169.still),⟨h287,trivial⟩⟩⟩⟩⟩⟩⟩⟩⟩ rfl
   obtain ⟨H290,e292,e293,S294⟩:=S279.frzX (i:=1) (ys:=[(.p (.bool yg79.Marker)),(.p (.int .i64 yg79.f_Type)),(.p (.int .u16 yg79.Seq)),(.p (.int .u32 yg79.Time)),(.p (.int .u32 yg79.Ssrc)),v283,(.p (.int .u16 (IntKind.wrap .u16 r175))),v168,v286]) rfl rfl ⟨(FrC.v (sB _)),⟨(FrC.v (sI _ _)),⟨(FrC.v (sI _ _)),⟨(FrC.v (sI _ _)),⟨(FrC.v (sI _ _)),⟨h284,⟨(FrC.v (sI _ _)),⟨(FrC.v h169.still),⟨h287,trivial⟩⟩⟩⟩⟩⟩⟩⟩⟩ h296
   refine .op (e291) ?_
   obtain ⟨H298,e299,S300⟩:=S279.stX (i:=0) (n:=9) (σ:=(1::0::1::1::1::1::1::1::1::1::1::1::1::1::1::0::σ)) rfl rfl e297 h295 rfl
   refine .op (sM e299) ?_
   obtain ⟨H301,e302,e303,S304⟩:=S300.frzX (i:=1) (ys:=[(.p (.bool yg79.Marker)),(.p (.int .i64 yg79.f_Type)),(.p (.int .u16 yg79.Seq)),(.p (.int .u32 yg79.Time)),(.p (.int .u32 yg79.Ssrc)),v283,(.p (.int .u16 (IntKind.wrap .u16 r175))),v168,v286]) rfl rfl ⟨(FrC.v (sB _)),⟨(FrC.v (sI _ _)),⟨(FrC.v (sI _ _)),⟨(FrC.v (sI _ _)),⟨(FrC.v (sI _ _)),⟨h284,⟨(FrC.v (sI _ _)),⟨(FrC.v h169.still),⟨h287,trivial⟩⟩⟩⟩⟩⟩⟩⟩⟩ h296
   have e305:ldO true 9 H298 (.ref ⟨h.length,2,0,s137,[]⟩ 0)=some (.agg w289):=AtC.ldX (S300.atG (i:=0) rfl) h295 (by decide)
   refine .op (congrArg (Option.bind · _) e305) ?_
   exact .fin (S304.finE (Ex.st (e302 _ _) (Ex.pl (sI _ _).lv Ex.nil))) ⟨_,(z6.mk h285 h169 h288),rfl⟩
  refine .op ((S132.low h134).len) ?_
  refine .ci ?_
  refine .bd fun a306 h307=>?_
  refine .op ((S132.low h134).iS h307 rfl) ?_
  obtain ⟨_,rfl,hE308⟩:=(S132.low h134).el h307 rfl
  refine .op (hE308.ld (j:=0) rfl) ?_
  refine .ci ?_
  refine .cq ?_ ?_
  ·refine .bd fun a310 h311=>?_
   refine .op ((S132.low h134).iS h311 rfl) ?_
   obtain ⟨_,rfl,hE312⟩:=(S132.low h134).el h311 rfl
   refine .op (hE312.ld (j:=0) rfl) ?_
   refine .ci ?_
   refine .ch (P:=fun r y=>r=y) ?_ (fun b313 y314 h315 h316=>?_)
   ·refine .cq ?_ ?_
    ·exact .ret rfl rfl
    ·exact .ret rfl rfl
   subst h316
   refine .cq ?_ ?_
   ·refine .op (bldV pN (by kernel_rfl:_=some (.agg [.p (.bool false),.p (.int .i64 0),.p (.int .u16 0),.p (.int .u32 0),.p (.int .u32 0),.p (.slice none 0 0),.p (.int .u16 0),.p (.slice none 0 0),.p (.slice none 0 0)]))) ?_
    obtain ⟨H318,e319,S320⟩:=S132.stGv (i:=0) (j:=0) (own:=true) (σ:=(1::0::1::0::1::1::0::1::1::1::1::1::1::1::1::1::1::0::σ)) (xs:=[.p (.bool false),.p (.int .i64 0),.p (.int .u16 0),.p (.int .u32 0),.p (.int .u32 0),.p (.slice none 0 0),.p (.int .u16 0),.p (.slice none 0 0),.p (.slice none 0 0)]) rfl rfl (sC (sB _) (sC (sI _ _) (sC (sI _ _) (sC (sI _ _) (sC (sI _ _) (sC (SlF.nil (dI .u32)).still (sC (sI _ _) (sC (SlF.nil (dI .u8)).still (sC (SlF.nil (dI .u8)).still sN))))))))) rfl rfl
    refine .op (sM e319) ?_
    have e321:ldO true 9 H318 (.ref ⟨h.length,2,0,s137,[]⟩ 0)=some (.agg [.p (.bool false),.p (.int .i64 0),.p (.int .u16 0),.p (.int .u32 0),.p (.int .u32 0),.p (.slice none 0 0),.p (.int .u16 0),.p (.slice none 0 0),.p (.slice none 0 0)]):=(S320.atG (i:=0) rfl).ldVs (j:=0) rfl rfl (by decide)
    refine .op (congrArg (Option.bind · _) e321) ?_
    exact .fin (S320.finN (lC (Stills.lv (z6.still (z6.mk (SlF.nil (dI .u32)) (SlF.nil (dI .u8)) (SlF.nil (dI .u8))))) (lC (sI _ _).lv lN))) ⟨_,(z6.mk (SlF.nil (dI .u32)) (SlF.nil (dI .u8)) (SlF.nil (dI .u8))),rfl⟩
   refine .bd fun a322 h323=>?_
   refine .op ((S132.low h134).iS h323 rfl) ?_
   obtain ⟨_,rfl,hE324⟩:=(S132.low h134).el h323 rfl
   refine .op (hE324.ld (j:=0) rfl) ?_
   refine .ci ?_
   refine .ch (P:=fun r y=>r=y) ?_ (fun b325 y326 h327 h328=>?_)
   ·refine .cq ?_ ?_
    ·refine .fa ?_
     refine .op ((S132.atG (i:=1) rfl).ld (j:=6) rfl) ?_
     refine .ci ?_
     exact .ret rfl rfl
    ·exact .ret rfl rfl
   subst h328
   refine .cq ?_ ?_
   ·refine .op (bldV pN (by kernel_rfl:_=some (.agg [.p (.bool false),.p (.int .i64 0),.p (.int .u16 0),.p (.int .u32 0),.p (.int .u32 0),.p (.slice none 0 0),.p (.int .u16 0),.p (.slice none 0 0),.p (.slice none 0 0)]))) ?_
    obtain ⟨H330,e331,S332⟩:=S132.stGv (i:=0) (j:=0) (own:=true) (σ:=(1::0::1::0::1::1::1::1::1::1::1::1::1::1::1::0::σ)) (xs:=[.p (.bool false),.p (.int .i64 0),.p (.int .u16 0),.p (.int .u32 0),.p (.int .u32 0),.p (.slice none 0 0),.p (.int .u16 0),.p (.slice none 0 0),.p (.slice none 0 0)]) rfl rfl (sC (sB _) (sC (sI _ _) (sC (sI _ _) (sC (sI _ _) (sC (sI _ _) (sC (SlF.nil (dI .u32)).still (sC (sI _ _) (sC (SlF.nil (dI .u8)).still (sC (SlF.nil (dI .u8)).still sN))))))))) rfl rfl
    refine .op (sM e331) ?_
    have e333:ldO true 9 H330 (.ref ⟨h.length,2,0,s137,[]⟩ 0)=some (.agg [.p (.bool false),.p (.int .i64 0),.p (.int .u16 0),.p (.int .u32 0),.p (.int .u32 0),.p (.slice none 0 0),.p (.int .u16 0),.p (.slice none 0 0),.p (.slice none 0 0)]):=(S332.atG (i:=0) rfl).ldVs (j:=0) rfl rfl (by decide)
    refine .op (congrArg (Option.bind · _) e333) ?_
    exact .fin (S332.finN (lC (Stills.lv (z6.still (z6.mk (SlF.nil (dI .u32)) (SlF.nil (dI .u8)) (SlF.nil (dI .u8))))) (lC (sI _ _).lv lN))) ⟨_,(z6.mk (SlF.nil (dI .u32)) (SlF.nil (dI .u8)) (SlF.nil (dI .u8))),rfl⟩
   have h334:SlF (dI .u8) ([]:List Int) (.fz [] 0 1 true):=SlF.lit (cs:=[]) RL.nil rfl rfl true
   refine .op (bldS pN (by kernel_rfl:_=some (vOf h334))) ?_
   refine .bd fun a335 h336=>?_
   refine .op ((S132.low h134).slS h336 rfl rfl rfl) ?_
   have S338:=S132.nil' (dI .u8) [] (e:=1) rfl
   refine .bd fun a339 h340=>?_
   obtain ⟨v341,H342,e343,S344⟩:=S338.app (i:=0) (d:=147) (e:=1) (own:=true) (σ:=(5::0::1::1::1::1::1::1::1::1::1::1::1::1::0::σ)) rfl ((S338.low h134).sub h336 (e:=1) rfl).y h340 rfl (by decide) (by decide) rfl
   refine .op (e343) ?_
   refine .fa ?_
   obtain ⟨c348,H345,e346,h349,h350,S347⟩:=S344.mvG (i:=1) (j:=8) (k:=0) (σ:=(7::0::1::1::1::1::1::1::1::1::1::1::1::1::0::σ)) rfl rfl rfl rfl rfl rfl
   refine .op (sM e346) ?_
   obtain ⟨v351,h352,h353⟩:=h140.fr
   obtain ⟨v354,h355,h356⟩:=h349.fr
   obtain ⟨w357,h364,h363,e359,e365⟩:=S347.cpV (i:=1) (n:=9) (ys:=[(.p (.bool yg79.Marker)),(.p (.int .i64 yg79.f_Type)),(.p (.int .u16 yg79.Seq)),(.p (.int .u32 yg79.Time)),(.p (.int .u32 yg79.Ssrc)),v351,(.p (.int .u16 yg79.Profile)),v142,v354]) rfl ⟨(FrC.v (sB _)),⟨(FrC.v (sI _ _)),⟨(FrC.v (sI _ _)),⟨(FrC.v (sI _ _)),⟨(FrC.v (sI _ _)),⟨h352,⟨(FrC.v (sI _ _)),⟨(FrC.v h143.still),⟨h355,trivial⟩⟩⟩⟩⟩⟩⟩⟩⟩ rfl
   obtain ⟨H358,e360,e361,S362⟩:=S347.frzX (i:=1) (ys:=[(.p (.bool yg79.Marker)),(.p (.int .i64 yg79.f_Type)),(.p (.int .u16 yg79.Seq)),(.p (.int .u32 yg79.Time)),(.p (.int .u32 yg79.Ssrc)),v351,(.p (.int .u16 yg79.Profile)),v142,v354]) rfl rfl ⟨(FrC.v (sB _)),⟨(FrC.v (sI _ _)),⟨(FrC.v (sI _ _)),⟨(FrC.v (sI _ _)),⟨(FrC.v (sI _ _)),⟨h352,⟨(FrC.v (sI _ _)),⟨(FrC.v h143.still),⟨h355,trivial⟩⟩⟩⟩⟩⟩⟩⟩⟩ h364
   refine .op (e359) ?_
   obtain ⟨H366,e367,S368⟩:=S347.stX (i:=0) (n:=9) (σ:=(1::0::1::1::1::1::1::1::1::1::1::1::1::1::1::0::σ)) rfl rfl e365 h363 rfl
   refine .op (sM e367) ?_
   obtain ⟨H369,e370,e371,S372⟩:=S368.frzX (i:=1) (ys:=[(.p (.bool yg79.Marker)),(.p (.int .i64 yg79.f_Type)),(.p (.int .u16 yg79.Seq)),(.p (.int .u32 yg79.Time)),(.p (.int .u32 yg79.Ssrc)),v351,(.p (.int .u16 yg79.Profile)),v142,v354]) rfl rfl ⟨(FrC.v (sB _)),⟨(FrC.v (sI _ _)),⟨(FrC.v (sI _ _)),⟨(FrC.v (sI _ _)),⟨(FrC.v (sI _ _)),⟨h352,⟨(FrC.v (sI _ _)),⟨(FrC.v h143.still),⟨h355,trivial⟩⟩⟩⟩⟩⟩⟩⟩⟩ h364
   have e373:ldO true 9 H366 (.ref ⟨h.length,2,0,s137,[]⟩ 0)=some (.agg w357):=AtC.ldX (S368.atG (i:=0) rfl) h363 (by decide)
   refine .op (congrArg (Option.bind · _) e373) ?_
   exact .fin (S372.finE (Ex.st (e370 _ _) (Ex.pl (sI _ _).lv Ex.nil))) ⟨_,(z6.mk h353 h143 h356),rfl⟩
  refine .bd fun a374 h375=>?_
  refine .op ((S132.low h134).iS h375 rfl) ?_
  obtain ⟨_,rfl,hE376⟩:=(S132.low h134).el h375 rfl
  refine .op (hE376.ld (j:=0) rfl) ?_
  refine .ci ?_
  refine .ch (P:=fun r y=>r=y) ?_ (fun b377 y378 h379 h380=>?_)
  ·refine .cq ?_ ?_
   ·refine .fa ?_
    refine .op ((S132.atG (i:=1) rfl).ld (j:=6) rfl) ?_
    refine .ci ?_
    exact .ret rfl rfl
   ·exact .ret rfl rfl
  subst h380
  refine .cq ?_ ?_
  ·refine .op (bldV pN (by kernel_rfl:_=some (.agg [.p (.bool false),.p (.int .i64 0),.p (.int .u16 0),.p (.int .u32 0),.p (.int .u32 0),.p (.slice none 0 0),.p (.int .u16 0),.p (.slice none 0 0),.p (.slice none 0 0)]))) ?_
   obtain ⟨H382,e383,S384⟩:=S132.stGv (i:=0) (j:=0) (own:=true) (σ:=(1::0::1::0::1::1::1::1::1::1::1::1::1::1::1::0::σ)) (xs:=[.p (.bool false),.p (.int .i64 0),.p (.int .u16 0),.p (.int .u32 0),.p (.int .u32 0),.p (.slice none 0 0),.p (.int .u16 0),.p (.slice none 0 0),.p (.slice none 0 0)]) rfl rfl (sC (sB _) (sC (sI _ _) (sC (sI _ _) (sC (sI _ _) (sC (sI _ _) (sC (SlF.nil (dI .u32)).still (sC (sI _ _) (sC (SlF.nil (dI .u8)).still (sC (SlF.nil (dI .u8)).still sN))))))))) rfl rfl
   refine .op (sM e383) ?_
   have e385:ldO true 9 H382 (.ref ⟨h.length,2,0,s137,[]⟩ 0)=some (.agg [.p (.bool false),.p (.int .i64 0),.p (.int .u16 0),.p (.int .u32 0),.p (.int .u32 0),.p (.slice none 0 0),.p (.int .u16 0),.p (.slice none 0 0),.p (.slice none 0 0)]):=(S384.atG (i:=0) rfl).ldVs (j:=0) rfl rfl (by decide)
   refine .op (congrArg (Option.bind · _) e385) ?_
   exact .fin (S384.finN (lC (Stills.lv (z6.still (z6.mk (SlF.nil (dI .u32)) (SlF.nil (dI .u8)) (SlF.nil (dI .u8))))) (lC (sI _ _).lv lN))) ⟨_,(z6.mk (SlF.nil (dI .u32)) (SlF.nil (dI .u8)) (SlF.nil (dI .u8))),rfl⟩
  have h386:SlF (dI .u8) ([]:List Int) (.fz [] 0 1 true):=SlF.lit (cs:=[]) RL.nil rfl rfl true
  refine .op (bldS pN (by kernel_rfl:_=some (vOf h386))) ?_
  refine .bd fun a387 h388=>?_
  refine .op ((S132.low h134).slS h388 rfl rfl rfl) ?_
  have S390:=S132.nil' (dI .u8) [] (e:=1) rfl
  refine .bd fun a391 h392=>?_
  obtain ⟨v393,H394,e395,S396⟩:=S390.app (i:=0) (d:=147) (e:=1) (own:=true) (σ:=(5::0::1::1::1::1::1::1::1::1::1::1::1::1::0::σ)) rfl ((S390.low h134).sub h388 (e:=1) rfl).y h392 rfl (by decide) (by decide) rfl
  refine .op (e395) ?_
  refine .fa ?_
  obtain ⟨c400,H397,e398,h401,h402,S399⟩:=S396.mvG (i:=1) (j:=8) (k:=0) (σ:=(7::0::1::1::1::1::1::1::1::1::1::1::1::1::0::σ)) rfl rfl rfl rfl rfl rfl
  refine .op (sM e398) ?_
  obtain ⟨v403,h404,h405⟩:=h140.fr
  obtain ⟨v406,h407,h408⟩:=h401.fr
  obtain ⟨w409,h416,h415,e411,e417⟩:=S399.cpV (i:=1) (n:=9) (ys:=[(.p (.bool yg79.Marker)),(.p (.int .i64 yg79.f_Type)),(.p (.int .u16 yg79.Seq)),(.p (.int .u32 yg79.Time)),(.p (.int .u32 yg79.Ssrc)),v403,(.p (.int .u16 yg79.Profile)),v142,v406]) rfl ⟨(FrC.v (sB _)),⟨(FrC.v (sI _ _)),⟨(FrC.v (sI _ _)),⟨(FrC.v (sI _ _)),⟨(FrC.v (sI _ _)),⟨h404,⟨(FrC.v (sI _ _)),⟨(FrC.v h143.still),⟨h407,trivial⟩⟩⟩⟩⟩⟩⟩⟩⟩ rfl
  obtain ⟨H410,e412,e413,S414⟩:=S399.frzX (i:=1) (ys:=[(.p (.bool yg79.Marker)),(.p (.int .i64 yg79.f_Type)),(.p (.int .u16 yg79.Seq)),(.p (.int .u32 yg79.Time)),(.p (.int .u32 yg79.Ssrc)),v403,(.p (.int .u16 yg79.Profile)),v142,v406]) rfl rfl ⟨(FrC.v (sB _)),⟨(FrC.v (sI _ _)),⟨(FrC.v (sI _ _)),⟨(FrC.v (sI _ _)),⟨(FrC.v (sI _ _)),⟨h404,⟨(FrC.v (sI _ _)),⟨(FrC.v h143.still),⟨h407,trivial⟩⟩⟩⟩⟩⟩⟩⟩⟩ h416
  refine .op (e411) ?_
  obtain ⟨H418,e419,S420⟩:=S399.stX (i:=0) (n:=9) (σ:=(1::0::1::1::1::1::1::1::1::1::1::1::1::1::1::0::σ)) rfl rfl e417 h415 rfl
  refine .op (sM e419) ?_
  obtain ⟨H421,e422,e423,S424⟩:=S420.frzX (i:=1) (ys:=[(.p (.bool yg79.Marker)),(.p (.int .i64 yg79.f_Type)),(.p (.int .u16 yg79.Seq)),(.p (.int .u32 yg79.Time)),(.p (.int .u32 yg79.Ssrc)),v403,(.p (.int .u16 yg79.Profile)),v142,v406]) rfl rfl ⟨(FrC.v (sB _)),⟨(FrC.v (sI _ _)),⟨(FrC.v (sI _ _)),⟨(FrC.v (sI _ _)),⟨(FrC.v (sI _ _)),⟨h404,⟨(FrC.v (sI _ _)),⟨(FrC.v h143.still),⟨h407,trivial⟩⟩⟩⟩⟩⟩⟩⟩⟩ h416
  have e425:ldO true 9 H418 (.ref ⟨h.length,2,0,s137,[]⟩ 0)=some (.agg w409):=AtC.ldX (S420.atG (i:=0) rfl) h415 (by decide)
  refine .op (congrArg (Option.bind · _) e425) ?_
  exact .fin (S424.finE (Ex.st (e422 _ _) (Ex.pl (sI _ _).lv Ex.nil))) ⟨_,(z6.mk h405 h143 h408),rfl⟩
end
end Go.Ev
namespace Go.Ev
namespace Lay
theorem wrapU {n:Int} (h1:0≤n) (h2:n<18446744073709551616):IntKind.wrap .u64 n=n:=z2k h1 h2
theorem wrap16 {n:Int} (h1:0≤n) (h2:n<65536):IntKind.wrap .u16 n=n:=by
 simp only [IntKind.wrap,IntKind.signed,IntKind.bits]
 simp
 omega
theorem wrap8 (n:Int):IntKind.wrap .u8 n=n % 256:=by
 simp only [IntKind.wrap,IntKind.signed,IntKind.bits]
 simp
theorem or_u64 {a b:Int} (ha:0≤a) (ha2:a<2^56) (hb:0≤b∧b<256):intBits .or .u64 (IntKind.wrap .u64 (a*2^8)) (IntKind.wrap .u64 b)=a*256+b:=by
 obtain ⟨m,rfl⟩:∃ m:Nat,a=m:=⟨a.toNat,by omega⟩
 obtain ⟨n,rfl⟩:∃ n:Nat,b=n:=⟨b.toNat,by omega⟩
 have w1:IntKind.wrap .u64 ((m:Int)*2^8)=((m*256:Nat):Int):=by rw [wrapU (by omega) (by omega)];omega
 have w2:IntKind.wrap .u64 (n:Int)=(n:Int):=wrapU (by omega) (by omega)
 rw [w1,w2]
 have hor:m*256 ||| n=m*256+n:=by
  have:=Nat.shiftLeft_add_eq_or_of_lt (b:=n) (i:=8) (by omega) m
  rw [Nat.shiftLeft_eq] at this
  exact this.symm
 have h1:(BitVec.ofInt 64 ((m*256:Nat):Int) ||| BitVec.ofInt 64 (n:Int)).toNat=m*256+n:=by
  rw [BitVec.toNat_or,BitVec.toNat_ofInt,BitVec.toNat_ofInt]
  have e1:(((m*256:Nat):Int) % ((2^64:Nat):Int)).toNat=m*256:=by rw [Int.emod_eq_of_lt (by omega) (by omega)];rfl
  have e2:(((n:Nat):Int) % ((2^64:Nat):Int)).toNat=n:=by rw [Int.emod_eq_of_lt (by omega) (by omega)];rfl
  rw [e1,e2,hor]
 show IntKind.wrap .u64 (((BitVec.ofInt 64 ((m*256:Nat):Int) ||| BitVec.ofInt 64 (n:Int)).toNat:Nat):Int)=_
 rw [h1,show ((m*256+n:Nat):Int)=(m:Int)*256+n by omega]
 exact wrapU (by omega) (by omega)
def octs (n:Int):Nat→List Int
 | 0=>[]
 | s+1=>IntKind.wrap .u8 (Int.fdiv n (2^(8*s)))::octs n s
theorem z3u (n:Int):∀ s,(octs n s).length=s
 | 0=>rfl
 | s+1=>by rw [octs,List.length_cons,z3u n s]
theorem put_l0 {β:Type} (kE:List Int→Option β) (n:Int):∀ (s k:Nat) (out:List Int),s≤8→s<k→out.length+s<1000000→z2l k kE n out ((s:Int)-1)=kE (out++octs n s)
 | 0,k,out,_,hk,_=>by
  obtain ⟨k,rfl⟩:∃ j,k=j+1:=⟨k-1,by omega⟩
  rw [z2l,decide_eq_false (by decide),cond_false,octs,List.append_nil]
 | s+1,k,out,hs,hk,ho=>by
  obtain ⟨k,rfl⟩:∃ j,k=j+1:=⟨k-1,by omega⟩
  have e1:((s+1:Nat):Int)-1=(s:Int):=by omega
  have e2:IntKind.wrap .i64 ((s:Int)-1)=(s:Int)-1:=wrap_i64 (by omega) (by omega)
  have e3:shP .shr .u64 n (IntKind.wrap .u64 (IntKind.wrap .i64 (8*(s:Int))))=some (Int.fdiv n (2^(8*s))):=by
   rw [wrap_i64 (by omega) (by omega),wrapU (by omega) (by omega)]
   unfold shP
   rw [if_neg (by omega)]
   have:min (8*(s:Int)).toNat IntKind.u64.bits=8*s:=by
    show min (8*(s:Int)).toNat 64=_
    omega
   simp only [this]
  rw [e1,z2l,decide_eq_true (by omega),cond_true,e3,Option.bind_some,ap_eq (by omega) (by simp only [List.length_cons,List.length_nil];omega),Option.bind_some,e2,
   put_l0 kE n s k _ (by omega) (by omega) (by rw [List.length_append];simp only [List.length_cons,List.length_nil];omega),octs,List.append_assoc]
  rfl
theorem put_ok {k:Nat} (hk:10≤k) {b:List Int} (hb:b.length<100000) (n:Int) {s:Nat} (h1:1≤s) (h8:s≤8):zn k b n (s:Int)=some (b++octs n s):=by
 unfold zn
 rw [ap_eq (by omega) (by simp only [List.length_nil];omega),Option.bind_some,List.nil_append,decide_eq_false (by omega),cond_false,decide_eq_false (by omega),Option.bind_some,cond_false,wrap_i64 (by omega) (by omega)]
 exact put_l0 _ n s k b h8 (by omega) (by omega)
theorem put2 {k:Nat} (hk:10≤k) {b:List Int} (hb:b.length<100000) (n:Int):zn k b n 2=some (b++octs n 2):=put_ok hk hb n (s:=2) (by omega) (by omega)
theorem put4 {k:Nat} (hk:10≤k) {b:List Int} (hb:b.length<100000) (n:Int):zn k b n 4=some (b++octs n 4):=put_ok hk hb n (s:=4) (by omega) (by omega)
def pkt (seq stamp ssrc:Int) (E pay:List Int):List Int:=144::96::(octs (IntKind.wrap .u64 seq) 2++octs (IntKind.wrap .u64 stamp) 4++octs (IntKind.wrap .u64 ssrc) 4++(190::222::0::1::(E++pay)))
theorem zil {seq stamp ssrc:Int} {E pay:List Int} (hE:E.length=4):(pkt seq stamp ssrc E pay).length=20+pay.length:=by
 unfold pkt
 simp only [List.length_cons,List.length_append,z3u,hE];omega
theorem zgr {k:Nat} (hk:12≤k) {seq stamp ssrc:Int} {E pay:List Int} (hE:E.length=4) (hp:pay.length≤1400) :
  z46 k ⟨false,96,seq,stamp,ssrc,[],48862,E,pay⟩=some (pkt seq stamp ssrc E pay,0):=by
 obtain ⟨k,rfl⟩:∃ j,k=j+1:=⟨k-1,by omega⟩
 have hr:z59 ⟨false,96,seq,stamp,ssrc,[],48862,E,pay⟩=some 0:=by
  unfold z59 z7c
  simp only [hE,List.length_nil]
  have e0:IntKind.wrap .i64 (4*((0:Nat):Int))=0:=rfl
  have e1:IntKind.wrap .i64 (12+0)=12:=rfl
  rw [e0,e1,wrap_i64 (n:=12+(pay.length:Int)) (by omega) (by omega),wrap_i64 (n:=12+(pay.length:Int)+4) (by omega) (by omega),wrap_i64 (n:=12+(pay.length:Int)+4+((4:Nat):Int)) (by omega) (by omega)]
  have c1:decide ((96:Int)<0)=false:=rfl
  have c2:decide ((96:Int)>127)=false:=rfl
  have c3:decide (((0:Nat):Int)>15)=false:=rfl
  have c4:(Int.tmod ((4:Nat):Int) 4 != 0)=false:=rfl
  have c5:((48862:Int)==0)=false:=rfl
  have c6:((48862:Int) != 0)=true:=rfl
  have c7:decide (12+(pay.length:Int)+4+((4:Nat):Int)>1500)=false:=decide_eq_false (by omega)
  simp only [c1,c2,c3,c4,c5,c6,c7,cond_false,cond_true,Option.bind_some]
 unfold z46
 rw [hr,Option.bind_some]
 have l1:∀ x:List Int,x.length<100000→∀ m s,s≤8→(x++octs m s).length=x.length+s:=fun x _ m s _=>by rw [List.length_append,z3u]
 have w1:[IntKind.wrap .u8 (intBits .or .i64 (intBits .or .i64 128 (((([]:List Int).length:Nat):Int))) 16),IntKind.wrap .u8 96]=[144,96]:=by decide
 simp only [bne_self_eq_false,cond_false]
 rw [show ((48862:Int) != 0)=true from rfl,cond_true,w1,put2 (by omega) (by simp),Option.bind_some,put4 (by omega) (by simp [z3u]),Option.bind_some,put4 (by omega) (by simp [z3u]),Option.bind_some,z1q,
  show decide ((0:Int)<(([]:List Int).length:Int))=false from rfl,cond_false]
 simp only
 have w2:IntKind.wrap .u64 (IntKind.wrap .i64 (Int.tdiv (E.length:Int) 4))=1:=by rw [hE];rfl
 rw [show ((48862:Int) != 0)=true from rfl,cond_true,put2 (by omega) (by simp [z3u]),Option.bind_some,w2,put2 (by omega) (by simp [z3u]),Option.bind_some,ap_eq (by omega) (by simp [z3u,hE]),Option.bind_some,ap_eq (by omega) (by simp [z3u,hE];omega),Option.bind_some]
 have o1:octs (IntKind.wrap .u64 48862) 2=[190,222]:=by decide
 have o2:octs 1 2=[0,1]:=by decide
 rw [o1,o2]
 unfold pkt
 simp
def HasExt (l:z7):Prop:=∃ E:List Int,E.length=4∧∀ j:Nat,z6l (j+30) 48862 [(⟨1,bytesS l.Rid⟩:zl)]=some (E,0)
theorem zjj {k:Nat} (hk:30≤k) {l:z7} (hl:HasExt l) {seq stamp size:Int} {key:Bool} (h1:1≤size) (h2:size≤1000) :
  ∃ E pay:List Int,E.length=4∧pay.length=size.toNat∧z49 k l seq stamp key size=some (pkt seq stamp l.Ssrc E pay):=by
 obtain ⟨E,hE,he⟩:=hl
 obtain ⟨j,rfl⟩:∃ j,k=j+30:=⟨k-30,by omega⟩
 have hmk:mk 1 (0:Int) size=some (List.replicate size.toNat 0):=by
  unfold mk;rw [if_pos ⟨by omega,by omega,by omega⟩]
 unfold z49
 rw [hmk,Option.bind_some,he j,Option.bind_some,decide_eq_true (show size>0 by omega)]
 cases key with
 | false =>
  simp only [cond_false,Option.bind_some]
  rw [zgr (by omega) hE (by rw [List.length_replicate];omega),Option.bind_some]
  exact ⟨E,_,hE,List.length_replicate,rfl⟩
 | true =>
  simp only [cond_true,Option.bind_some]
  have h0:(List.replicate size.toNat (0:Int))[0]?=some 0:=by rw [List.getElem?_replicate,if_pos (by omega)]
  have hi:ix (List.replicate size.toNat (0:Int)) 0=some 0:=ix_at (i:=0) h0
  have hs:stx (List.replicate size.toNat (0:Int)) 0 1=some ((List.replicate size.toNat (0:Int)).set 0 1):=by
   unfold stx;rw [if_pos ⟨by omega,by rw [List.length_replicate];omega⟩];rfl
  rw [hi,Option.bind_some,hs,Option.bind_some,zgr (by omega) hE (by rw [List.length_set,List.length_replicate];omega),Option.bind_some]
  exact ⟨E,_,hE,by rw [List.length_set,List.length_replicate],rfl⟩
theorem get_l0 {β:Type} {x0:List Int} {a s:Nat} (kE:Int→Option β) (h:a+s≤x0.length) (hl:x0.length<100000):∀ m i k:Nat,∀ v:Int,i+m=s→m<k→∃ w,z1g k kE x0 (a:Int) (s:Int) v (i:Int)=kE w:=by
 intro m
 induction m with
 | zero =>
  intro i k v hi hk
  obtain ⟨k,rfl⟩:∃ j,k=j+1:=⟨k-1,by omega⟩
  rw [z1g,decide_eq_false (by omega),cond_false]
  exact ⟨v,rfl⟩
 | succ m ih =>
  intro i k v hi hk
  obtain ⟨k,rfl⟩:∃ j,k=j+1:=⟨k-1,by omega⟩
  have hx:ix x0 (IntKind.wrap .i64 ((a:Int)+(i:Int)))=some (x0[a+i]'(by omega)):=by
   rw [wrap_i64 (by omega) (by omega)]
   exact ix_at (i:=a+i) (List.getElem?_eq_getElem (by omega))
  rw [z1g,decide_eq_true (by omega),cond_true,hx,Option.bind_some,show IntKind.wrap .i64 ((i:Int)+1)=((i+1:Nat):Int) from wrap_i64 (by omega) (by omega)]
  exact ih (i+1) k _ (by omega) (by omega)
theorem zgn {x0:List Int} {a s:Nat} {k:Nat} (h:a+s≤x0.length) (hl:x0.length<100000) (h1:1≤s) (h8:s≤8):z5l k x0 (a:Int) (s:Int)=z1g k (fun r=>some (r,true)) x0 (a:Int) (s:Int) 0 0:=by
 unfold z5l
 rw [decide_eq_false (by omega),cond_false,decide_eq_false (by omega),Option.bind_some,cond_false,decide_eq_false (by omega),Option.bind_some,cond_false,decide_eq_false (by omega),Option.bind_some,cond_false,wrap_i64 (by omega) (by omega),decide_eq_false (by omega),Option.bind_some,cond_false]
theorem zh5 {x0:List Int} {a s:Nat} {k:Nat} (hk:20≤k) (h:a+s≤x0.length) (hl:x0.length<100000) (h1:1≤s) (h8:s≤8):∃ v,z19 k x0 (a:Int) (s:Int)=some v:=by
 obtain ⟨w,e⟩:=get_l0 (x0:=x0) (a:=a) (s:=s) (fun r=>some (r,true)) h hl s 0 k 0 (by omega) (by omega)
 unfold z19
 rw [zgn h hl h1 h8]
 have e':z1g k (fun r=>some (r,true)) x0 (a:Int) (s:Int) 0 0=some (w,true):=e
 rw [e',Option.bind_some]
 exact ⟨_,rfl⟩
theorem num2 {x0:List Int} {a:Nat} {k:Nat} (hk:20≤k) (h:a+2≤x0.length) (hl:x0.length<100000) {b c:Int} (hb:x0[a]?=some b) (hc:x0[a+1]?=some c) (b0:0≤b∧b<256) (c0:0≤c∧c<256):z19 k x0 (a:Int) 2=some (b*256+c):=by
 unfold z19
 have hh:=zgn (k:=k) (s:=2) h hl (by omega) (by omega)
 have hh':z5l k x0 (a:Int) 2=_:=hh
 obtain ⟨k,rfl⟩:∃ j,k=j+3:=⟨k-3,by omega⟩
 have i0:ix x0 (IntKind.wrap .i64 ((a:Int)+0))=some b:=by
  rw [wrap_i64 (by omega) (by omega),Int.add_zero];exact ix_at hb
 have i1:ix x0 (IntKind.wrap .i64 ((a:Int)+1))=some c:=by
  rw [wrap_i64 (by omega) (by omega)];exact ix_at (i:=a+1) hc
 have w1:IntKind.wrap .i64 ((0:Int)+1)=1:=rfl
 have w2:IntKind.wrap .i64 ((1:Int)+1)=2:=rfl
 have o1:intBits .or .u64 (IntKind.wrap .u64 ((0:Int)*2^8)) (IntKind.wrap .u64 b)=b:=by
  have:=or_u64 (a:=0) (b:=b) (by omega) (by omega) b0
  rw [this];omega
 have d0:decide ((0:Int)<((2:Nat):Int))=true:=rfl
 have d1:decide ((1:Int)<((2:Nat):Int))=true:=rfl
 have d2:decide ((2:Int)<((2:Nat):Int))=false:=rfl
 rw [hh',z1g,d0,cond_true,i0,Option.bind_some,o1,w1,z1g,d1,cond_true,i1,Option.bind_some,or_u64 b0.1 (by omega) c0,w2,z1g,d2,cond_false,Option.bind_some]
theorem zlh {seq stamp ssrc:Int} {E pay:List Int} (hs:0≤seq∧seq<65536):(pkt seq stamp ssrc E pay)[0]?=some 144∧(pkt seq stamp ssrc E pay)[1]?=some 96∧(pkt seq stamp ssrc E pay)[2]?=some (seq / 256)∧(pkt seq stamp ssrc E pay)[3]?=some (seq % 256) ∧
  (pkt seq stamp ssrc E pay)[12]?=some 190∧(pkt seq stamp ssrc E pay)[13]?=some 222∧(pkt seq stamp ssrc E pay)[14]?=some 0∧(pkt seq stamp ssrc E pay)[15]?=some 1:=by
 refine ⟨rfl,rfl,?_,?_,rfl,rfl,rfl,rfl⟩
 ·show some (IntKind.wrap .u8 (Int.fdiv (IntKind.wrap .u64 seq) (2^(8*1))))=_
  rw [wrapU (by omega) (by omega),Int.fdiv_eq_ediv_of_nonneg _ (by decide),wrap8]
  congr 1
  omega
 ·show some (IntKind.wrap .u8 (Int.fdiv (IntKind.wrap .u64 seq) (2^(8*0))))=_
  rw [wrapU (by omega) (by omega),Int.fdiv_eq_ediv_of_nonneg _ (by decide),wrap8]
  congr 1
  omega
theorem zbc {k:Nat} (hk:30≤k) {seq stamp ssrc:Int} {E pay:List Int} (hE:E.length=4) (hp:pay.length≤1400) (hs:0≤seq∧seq<65536) :
  ∃ p:TaiRtp,z4y k (pkt seq stamp ssrc E pay)=some (p,0)∧p.Seq=seq:=by
 obtain ⟨g0,g1,g2,g3,g12,g13,g14,g15⟩:=zlh (stamp:=stamp) (ssrc:=ssrc) (E:=E) (pay:=pay) hs
 have hlen:=zil (seq:=seq) (stamp:=stamp) (ssrc:=ssrc) (pay:=pay) hE
 generalize pkt seq stamp ssrc E pay=b at *
 obtain ⟨k,rfl⟩:∃ j,k=j+1:=⟨k-1,by omega⟩
 have i0:ix b 0=some 144:=ix_at (i:=0) g0
 have i1:ix b 1=some 96:=ix_at (i:=1) g1
 have n2:z19 (k+1) b 2 2=some seq:=by
  have:=num2 (a:=2) (k:=k+1) (by omega) (by omega) (by omega) g2 g3 ⟨by omega,by omega⟩ ⟨by omega,by omega⟩
  have e:seq / 256*256+seq % 256=seq:=by omega
  rw [e] at this;exact this
 obtain ⟨v4,n4⟩:=zh5 (x0:=b) (a:=4) (s:=4) (k:=k+1) (by omega) (by omega) (by omega) (by omega) (by omega)
 have n4:z19 (k+1) b 4 4=some v4:=n4
 obtain ⟨v8,n8⟩:=zh5 (x0:=b) (a:=8) (s:=4) (k:=k+1) (by omega) (by omega) (by omega) (by omega) (by omega)
 have n8:z19 (k+1) b 8 4=some v8:=n8
 have n14:z19 (k+1) b 14 2=some 1:=num2 (a:=14) (k:=k+1) (by omega) (by omega) (by omega) g14 g15 ⟨by omega,by omega⟩ ⟨by omega,by omega⟩
 have n12:z19 (k+1) b 12 2=some 48862:=num2 (a:=12) (k:=k+1) (by omega) (by omega) (by omega) g12 g13 ⟨by omega,by omega⟩ ⟨by omega,by omega⟩
 have hcut:z6s b 16 4=some ((b.drop 16).take 4,true):=by
  unfold z6s
  have hs:sub b 16 20=some ((b.drop 16).take 4):=sub_eq (a:=16) (n:=4) (by omega)
  rw [show decide ((16:Int)<0)=false from rfl,cond_false,show decide ((4:Int)<0)=false from rfl,Option.bind_some,cond_false,decide_eq_false (by omega),Option.bind_some,cond_false,wrap_i64 (by omega) (by omega),decide_eq_false (by omega),Option.bind_some,cond_false,show IntKind.wrap .i64 ((16:Int)+4)=20 from rfl,hs,Option.bind_some,ap_eq (by omega) (by rw [List.length_take];simp only [List.length_nil];omega),Option.bind_some,List.nil_append]
 have hsub:sub b 20 (b.length:Int)=some ((b.drop 20).take (b.length-20)):=by
  have:=sub_eq (xs:=b) (a:=20) (n:=b.length-20) (by omega)
  have e:((20+(b.length-20):Nat):Int)=(b.length:Int):=by omega
  rw [e] at this;exact this
 have a1:intBits .and .u8 144 15=0:=by decide
 have a2:intBits .and .u8 144 16=16:=by decide
 have a3:intBits .and .u8 144 32=0:=by decide
 have f1:Int.fdiv (144:Int) (2^6)=2:=by decide
 have w0:IntKind.wrap .i64 (12+IntKind.wrap .i64 (4*IntKind.wrap .i64 0))=12:=by decide
 have w1:IntKind.wrap .i64 ((12:Int)+2)=14:=by decide
 have w2:IntKind.wrap .i64 ((12:Int)+4)=16:=by decide
 have w3:IntKind.wrap .i64 (4*IntKind.wrap .i64 1)=4:=by decide
 have w4:IntKind.wrap .i64 (IntKind.wrap .i64 ((12:Int)+4)+4)=20:=by decide
 have w5:IntKind.wrap .u16 48862=48862:=by decide
 unfold z4y
 rw [decide_eq_false (by omega),cond_false,beq_eq_false_iff_ne.2 (by omega:¬ (b.length:Int)=0),cond_false,i0,Option.bind_some,f1,show ((2:Int) != 2)=false from rfl,cond_false,Option.bind_some,a1,w0,decide_eq_false (by omega),cond_false,i1,Option.bind_some,Option.bind_some,n2,Option.bind_some,n4,Option.bind_some,n8,Option.bind_some,z42,show decide ((12:Int)<12)=false from rfl,cond_false]
 simp only
 rw [i0,Option.bind_some,a2,show ((16:Int) != 0)=true from rfl,cond_true,w1,n14,Option.bind_some,w3,w2,hcut,Option.bind_some]
 simp only [Bool.not_true,cond_false]
 rw [n12,Option.bind_some,Option.bind_some,a3,show ((0:Int) != 0)=false from rfl,cond_false,Option.bind_some,a2,show ((16:Int) != 0)=true from rfl,cond_true,w5,show ((48862:Int)==0)=false from rfl,Option.bind_some,cond_false,show IntKind.wrap .i64 (16+(4:Int))=20 from rfl,hsub,Option.bind_some,ap_eq (by omega) (by rw [List.length_take];simp only [List.length_nil];omega),Option.bind_some]
 exact ⟨_,rfl,wrap16 hs.1 hs.2⟩
end Lay
end Go.Ev
namespace Go.Ev
open Go.Proofs
set_option linter.unusedVariables false
set_option linter.unusedSimpArgs false
set_option maxRecDepth 100000
noncomputable section
abbrev KT6:=Exit→Env→H→Option (List C × H)
variable (rec : CallF) (loop : LoopV) (σ : Stamp)
theorem z71 (x0:V) (x1:Int) (x2:V) (x3:Int) (x4:Int) (h:H):cvBody G rec loop 45 σ [x0,(.p (.int .i64 x1)),x2,(.p (.int .i64 x3)),(.p (.int .i64 x4))] h =
(boxO true (0::0::0::σ) 7 (List.replicate 57 []::h) x2).bind fun q1 =>
(callO rec 96 (2::0::0::1::0::σ) [x0,(.p (.int .i64 x1))] q1.2 (some 17)).bind fun q2 =>
(asB q2.1).bind fun b3 =>
bif !b3 then (
fin false σ q2.2 [(.p (.int .i64 0)),(.p (.bool false))])
else (
(nilChk x0).bind fun t4 =>
(fA t4 0).bind fun t5 =>
(ldO false 1 q2.2 t5).bind fun t6 =>
(iS 10 t6 x1).bind fun t7 =>
(nilChk t7).bind fun t8 =>
(fA t8 3).bind fun t9 =>
(ldO false 1 q2.2 t9).bind fun t10 =>
(fA q1.1 2).bind fun t11 =>
(ldO false 1 q2.2 t11).bind fun t12 =>
(castI .u16 t12).bind fun n13 =>
(callO rec 97 (6::0::1::1::1::0::σ) [t10,(.p (.int .u16 n13))] q2.2 (some 32)).bind fun q14 =>
(extV q14.1 0).bind fun t15 =>
(castI .i64 t15).bind fun n16 =>
(extV q14.1 1).bind fun t17 =>
(asB t17).bind fun b18 =>
bif !b18 then (
fin false σ q14.2 [(.p (.int .i64 0)),(.p (.bool false))])
else (
(nilChk t7).bind fun t19 =>
(fA t19 4).bind fun t20 =>
(ldO false 1 q14.2 t20).bind fun t21 =>
(callO rec 98 (7::0::1::1::1::1::1::0::σ) [t21,(.p (.int .i64 (IntKind.wrap .i64 (x3+28)))),(.p (.int .i64 x4))] q14.2 (some 44)).bind fun q22 =>
(callO rec 99 (4::0::1::1::1::1::1::1::0::σ) [(.p (.int .i64 x4))] q22.2 (some 49)).bind fun q23 =>
(castI .i64 q23.1).bind fun n24 =>
(nilChk t7).bind fun t25 =>
(fA t25 5).bind fun t26 =>
((stO true 1 (7::0::1::1::1::1::1::1::0::σ) q23.2 t26 (.p (.bool true))).map fun h=>(udf,h)).bind fun q27 =>
(nilChk t7).bind fun t28 =>
(fA t28 6).bind fun t29 =>
((stO true 1 (10::0::1::1::1::1::1::1::0::σ) q27.2 t29 (.p (.int .i64 n24))).map fun h=>(udf,h)).bind fun q30 =>
(nilChk t7).bind fun t31 =>
(fA t31 8).bind fun t32 =>
((stO true 1 (13::0::1::1::1::1::1::1::0::σ) q30.2 t32 (.p (.bool false))).map fun h=>(udf,h)).bind fun q33 =>
fin false σ q33.2 [(.p (.int .i64 n16)),(.p (.bool true))])):=by kernel_rfl
theorem z97 (x0:V) (x1:Int) (h:H):cvBody G rec loop 96 σ [x0,(.p (.int .i64 x1))] h =
(bif decide (x1≥0) then ((nilChk x0).bind fun t1 =>
(fA t1 0).bind fun t2 =>
(ldO false 1 (List.replicate 16 []::h) t2).bind fun t3 =>
(lenO t3).bind fun t4 =>
(castI .i64 t4).bind fun n5 =>
some (decide (x1<n5))) else (some false)).bind fun b6 =>
fin false σ (List.replicate 16 []::h) [(.p (.bool b6))]:=by kernel_rfl
end
end Go.Ev
namespace Go.Ev
open Go.Proofs
set_option linter.unusedVariables false
set_option linter.unusedSimpArgs false
set_option maxRecDepth 100000
section
variable {β α : Type} {Q : β→α→Prop} {K : Exit × Env × H→Option α}
def zy (x0:z5) (x1:Int):Option (Bool) :=
(bif decide (x1≥0) then (some (decide (x1<((x0.l.length:Int))))) else (some false)).bind fun b1 =>
some (b1)
theorem z1n {h:H} {σ:Stamp} (x0:z5) {c0_0:C} (hc0_0:RsC z9 x0.l c0_0) {l0:Loc} {o0:Nat} (ha0:AtC h l0 o0 ([c0_0])) (x1:Int):Sim (zy x0 x1) (ev G X0 96 σ [(.ref l0 o0),(.p (.int .i64 x1))] h) (fun r s=>s=([.v (.p (.bool r))],h)):=by
 refine .ev rfl (Sim.ext (z97 _ _ _ _ _ _) ?_)
 rw [zy]
 have S0:Fm 16 h [] [] [] (List.replicate 16 []::h):=Fm.start0
 refine .ch (P:=fun r y=>r=y) ?_ (fun b1 y2 h3 h4=>?_)
 ·refine .cq ?_ ?_
  ·refine .nc ?_
   refine .fa ?_
   refine .op (RsC.ld hc0_0 (S0.lowA ha0) (j:=0) rfl) ?_
   refine .op (RsC.len hc0_0 _ _) ?_
   refine .ci ?_
   exact .ret rfl rfl
  ·exact .ret rfl rfl
 subst h4
 exact .fin (S0.finN (lC (sB _).lv lN)) rfl
end
end Go.Ev
namespace Go.Ev
open Go.Proofs
set_option linter.unusedVariables false
set_option linter.unusedSimpArgs false
set_option maxRecDepth 100000
noncomputable section
abbrev KT7:=Exit→Env→H→Option (List C × H)
variable (rec : CallF) (loop : LoopV) (σ : Stamp)
theorem zbp (x0:Int) (h:H):cvBody G rec loop 99 σ [(.p (.int .i64 x0))] h =
bif decide (x0<0) then (
fin false σ (List.replicate 9 []::h) [(.p (.int .i64 (IntKind.wrap .i64 (x0+300000))))])
else (
(callO rec 129 (1::0::1::1::0::σ) [(.p (.int .i64 x0)),(.p (.int .i64 300000))] (List.replicate 9 []::h) (some 8)).bind fun q1 =>
(castI .i64 q1.1).bind fun n2 =>
fin false σ q1.2 [(.p (.int .i64 n2))]):=by kernel_rfl
theorem zdp (x0:Int) (x1:Int) (h:H):cvBody G rec loop 129 σ [(.p (.int .i64 x0)),(.p (.int .i64 x1))] h =
(callO rec 130 (1::0::1::0::σ) [(.p (.int .i64 x0))] (List.replicate 12 []::h) (some 6)).bind fun q1 =>
(castI .u64 q1.1).bind fun n2 =>
(callO rec 130 (3::0::1::0::σ) [(.p (.int .i64 x1))] q1.2 (some 8)).bind fun q3 =>
(castI .u64 q3.1).bind fun n4 =>
fin false σ q3.2 [(.p (.int .i64 (IntKind.wrap .i64 ((if 9223372036854775807<(IntKind.wrap .u64 (n2+n4)) then 9223372036854775807 else (IntKind.wrap .u64 (n2+n4)))))))]:=by kernel_rfl
theorem ze7 (x0:Int) (h:H):cvBody G rec loop 130 σ [(.p (.int .i64 x0))] h =
fin false σ (List.replicate 6 []::h) [(.p (.int .u64 (IntKind.wrap .u64 ((if x0>0 then x0 else 0)))))]:=by kernel_rfl
end
end Go.Ev
namespace Go.Ev
open Go.Proofs
set_option linter.unusedVariables false
set_option linter.unusedSimpArgs false
set_option maxRecDepth 100000
section
variable {β α : Type} {Q : β→α→Prop} {K : Exit × Env × H→Option α}
def z1v (x0:Int):Option (Int) :=
some ((IntKind.wrap .u64 ((if x0>0 then x0 else 0))))
theorem z44 {h:H} {σ:Stamp} (x0:Int):Sim (z1v x0) (ev G X0 130 σ [(.p (.int .i64 x0))] h) (fun r s=>s=([.v (.p (.int .u64 r))],h)):=by
 refine .ev rfl (Sim.ext (ze7 _ _ _ _ _) ?_)
 rw [z1v]
 have S0:Fm 6 h [] [] [] (List.replicate 6 []::h):=Fm.start0
 exact .fin (S0.finN (lC (sI _ _).lv lN)) rfl
def z2i (x0:Int) (x1:Int):Option (Int) :=
(z1v x0).bind fun r1 =>
(z1v x1).bind fun r6 =>
some ((IntKind.wrap .i64 ((if 9223372036854775807<(IntKind.wrap .u64 (r1+r6)) then 9223372036854775807 else (IntKind.wrap .u64 (r1+r6))))))
theorem z63 {h:H} {σ:Stamp} (x0:Int) (x1:Int):Sim (z2i x0 x1) (ev G X0 129 σ [(.p (.int .i64 x0)),(.p (.int .i64 x1))] h) (fun r s=>s=([.v (.p (.int .i64 r))],h)):=by
 refine .ev rfl (Sim.ext (zdp _ _ _ _ _ _) ?_)
 rw [z2i]
 have S0:Fm 12 h [] [] [] (List.replicate 12 []::h):=Fm.start0
 refine .call (z44 x0) fun r1 cs2 H3 h4 q5=>?_
 cases q5
 refine .ci ?_
 refine .call (z44 x1) fun r6 cs7 H8 h9 q10=>?_
 cases q10
 refine .ci ?_
 exact .fin (S0.finN (lC (sI _ _).lv lN)) rfl
def z5b (x0:Int):Option (Int) :=
bif decide (x0<0) then (
some ((IntKind.wrap .i64 (x0+300000))))
else (
(z2i x0 300000).bind fun r2 =>
some (r2))
theorem zei {h:H} {σ:Stamp} (x0:Int):Sim (z5b x0) (ev G X0 99 σ [(.p (.int .i64 x0))] h) (fun r s=>s=([.v (.p (.int .i64 r))],h)):=by
 refine .ev rfl (Sim.ext (zbp _ _ _ _ _) ?_)
 rw [z5b]
 have S0:Fm 9 h [] [] [] (List.replicate 9 []::h):=Fm.start0
 refine .cq ?_ ?_
 ·exact .fin (S0.finN (lC (sI _ _).lv lN)) rfl
 refine .call (z63 x0 300000) fun r2 cs3 H4 h5 q6=>?_
 cases q6
 refine .ci ?_
 exact .fin (S0.finN (lC (sI _ _).lv lN)) rfl
end
end Go.Ev
namespace Go.Ev
open Go.Proofs
set_option linter.unusedVariables false
set_option linter.unusedSimpArgs false
set_option maxRecDepth 100000
noncomputable section
abbrev KT8:=Exit→Env→H→Option (List C × H)
variable (rec : CallF) (loop : LoopV) (σ : Stamp)
def z2y:Code:=(codeAt (bodyOf Try.f98) [1,1,0,1,0,0])
def z30:Lv:=⟨67,0,[(0,67)]⟩
def z6t:KT8:=(kBlock 0 (kSeq G rec loop (codeAt (bodyOf Try.f98) [1,1,1]) ⟨0,0,[]⟩ (1::1::0::σ) (finC G false Try.f98 (1::σ))))
theorem z8w (x0:V) (x1:Int) (x2:Int) (h:H):cvBody G rec loop 98 σ [x0,(.p (.int .i64 x1)),(.p (.int .i64 x2))] h =
bif decide (x1<0) then (
fin false σ (List.replicate 64 []::h) [])
else (
(nilChk x0).bind fun t1 =>
(fA t1 5).bind fun t2 =>
(ldO false 1 (List.replicate 64 []::h) t2).bind fun t3 =>
(castI .i64 t3).bind fun n4 =>
(callO rec 128 (5::0::1::0::σ) [(.p (.int .i64 x2))] (List.replicate 64 []::h) (some 15)).bind fun q5 =>
(castI .i64 q5.1).bind fun n6 =>
need (ldO false 1 q5.2 t2=some (.p (.int .i64 n4))) (
(nilChk x0).bind fun t7 =>
(fA t7 5).bind fun t8 =>
(ldO false 1 q5.2 t8).bind fun t9 =>
(castI .i64 t9).bind fun n10 =>
(loop z2y z30 (1::0::1::1::0::σ) (envL [(0,x0),(1,(.p (.int .i64 x1))),(6,(.p (.int .i64 ((if n6>n4 then n6 else n4))))),(23,(.p (.int .i64 ((if 5<(IntKind.wrap .i64 (((if n6>n4 then n6 else n4))-n10)) then 5 else (IntKind.wrap .i64 (((if n6>n4 then n6 else n4))-n10))))))),(24,(.p (.int .i64 0)))]) q5.2).bind fun r11=>z6t rec loop σ r11.1 r11.2.1 r11.2.2)):=by kernel_rfl
theorem zac (x0:V) (x1:Int) (x6:Int) (x23:Int) (x24:Int) (h:H):z1a G rec loop z2y z30 σ (envL [(0,x0),(1,(.p (.int .i64 x1))),(6,(.p (.int .i64 x6))),(23,(.p (.int .i64 x23))),(24,(.p (.int .i64 x24)))]) h =
bif decide (x24<x23) then (
(nilChk x0).bind fun t12 =>
(fA t12 0).bind fun t13 =>
(iA 5 1 t13 (Int.tmod (IntKind.wrap .i64 (x6-x24)) 5)).bind fun t14 =>
((stO true 1 (8::1::0::1::1::0::σ) h t14 (.p (.int .i64 0))).map fun h=>(udf,h)).bind fun q15 =>
loop z2y z30 (1::σ) (envL [(0,x0),(1,(.p (.int .i64 x1))),(6,(.p (.int .i64 x6))),(23,(.p (.int .i64 x23))),(24,(.p (.int .i64 (IntKind.wrap .i64 (x24+1)))))]) q15.2)
else (
some ((.exit 0),(envL [(0,x0),(1,(.p (.int .i64 x1))),(6,(.p (.int .i64 x6)))]),h)):=by kernel_rfl
theorem z9m (x0:V) (x1:Int) (x6:Int) (h:H):z6t rec loop σ (.exit 0) (envL [(0,x0),(1,(.p (.int .i64 x1))),(6,(.p (.int .i64 x6)))]) h =
(nilChk x0).bind fun t16 =>
(fA t16 5).bind fun t17 =>
((stO true 1 (4::0::1::1::1::0::σ) h t17 (.p (.int .i64 x6))).map fun h=>(udf,h)).bind fun q18 =>
(nilChk x0).bind fun t19 =>
(fA t19 0).bind fun t20 =>
(iA 5 1 t20 (Int.tmod x6 5)).bind fun t21 =>
(ldO false 1 q18.2 t21).bind fun t22 =>
(castI .i64 t22).bind fun n23 =>
(nilChk x0).bind fun t24 =>
(fA t24 0).bind fun t25 =>
(callO rec 129 (11::0::1::1::1::1::0::σ) [(.p (.int .i64 n23)),(.p (.int .i64 x1))] q18.2 (some 51)).bind fun q26 =>
(castI .i64 q26.1).bind fun n27 =>
(iA 5 1 t25 (Int.tmod x6 5)).bind fun t28 =>
((stO true 1 (15::0::1::1::1::1::0::σ) q26.2 t28 (.p (.int .i64 n27))).map fun h=>(udf,h)).bind fun q29 =>
(nilChk x0).bind fun t30 =>
(fA t30 6).bind fun t31 =>
(ldO false 1 q29.2 t31).bind fun t32 =>
(castI .i64 t32).bind fun n33 =>
(callO rec 129 (6::1::1::1::1::1::0::σ) [(.p (.int .i64 n33)),(.p (.int .i64 x1))] q29.2 (some 61)).bind fun q34 =>
(castI .i64 q34.1).bind fun n35 =>
(nilChk x0).bind fun t36 =>
(fA t36 6).bind fun t37 =>
((stO true 1 (9::1::1::1::1::1::0::σ) q34.2 t37 (.p (.int .i64 n35))).map fun h=>(udf,h)).bind fun q38 =>
fin false σ q38.2 []:=by kernel_rfl
theorem zcs (x0:Int) (h:H):cvBody G rec loop 128 σ [(.p (.int .i64 x0))] h =
fin false σ (List.replicate 6 []::h) [(.p (.int .i64 (IntKind.wrap .i64 (Int.tdiv ((if x0>0 then x0 else 0)) 100000))))]:=by kernel_rfl
end
end Go.Ev
namespace Go.Ev
open Go.Proofs
set_option linter.unusedVariables false
set_option linter.unusedSimpArgs false
set_option maxRecDepth 100000
section
variable {β α : Type} {Q : β→α→Prop} {K : Exit × Env × H→Option α}
def z3i (x0:Int):Option (Int) :=
some ((IntKind.wrap .i64 (Int.tdiv ((if x0>0 then x0 else 0)) 100000)))
theorem za2 {h:H} {σ:Stamp} (x0:Int):Sim (z3i x0) (ev G X0 128 σ [(.p (.int .i64 x0))] h) (fun r s=>s=([.v (.p (.int .i64 r))],h)):=by
 refine .ev rfl (Sim.ext (zcs _ _ _ _ _) ?_)
 rw [z3i]
 have S0:Fm 6 h [] [] [] (List.replicate 6 []::h):=Fm.start0
 exact .fin (S0.finN (lC (sI _ _).lv lN)) rfl
def z1o {β:Type} (k:Nat) (kE0:Int→Int→z4→Option β) (x1:Int) (x6:Int) (x23:Int) (x24:Int) (zp0:z4):Option β:=match k with
| 0=>none
| k+1 =>
bif decide (x24<x23) then (
(ix [((zp0.slots.getD 0 0)),((zp0.slots.getD 1 0)),((zp0.slots.getD 2 0)),((zp0.slots.getD 3 0)),((zp0.slots.getD 4 0))] (Int.tmod (IntKind.wrap .i64 (x6-x24)) 5)).bind fun a10 =>
(stx [((zp0.slots.getD 0 0)),((zp0.slots.getD 1 0)),((zp0.slots.getD 2 0)),((zp0.slots.getD 3 0)),((zp0.slots.getD 4 0))] (Int.tmod (IntKind.wrap .i64 (x6-x24)) 5) 0).bind fun a15 =>
z1o k kE0 x1 x6 x23 (IntKind.wrap .i64 (x24+1)) ((⟨[((a15.getD 0 0)),((a15.getD 1 0)),((a15.getD 2 0)),((a15.getD 3 0)),((a15.getD 4 0))],zp0.last,zp0.total⟩:z4)))
else (
kE0 x1 x6 ((⟨[((zp0.slots.getD 0 0)),((zp0.slots.getD 1 0)),((zp0.slots.getD 2 0)),((zp0.slots.getD 3 0)),((zp0.slots.getD 4 0))],zp0.last,zp0.total⟩:z4)))
def z2f (k:Nat) (x0:z4) (x1:Int) (x2:Int):Option (z4) :=
bif decide (x1<0) then (
some ((⟨[((x0.slots.getD 0 0)),((x0.slots.getD 1 0)),((x0.slots.getD 2 0)),((x0.slots.getD 3 0)),((x0.slots.getD 4 0))],x0.last,x0.total⟩:z4)))
else (
(z3i x2).bind fun r2 =>
z1o k (fun r19_1 r19_6 zp0 =>
(ix [((zp0.slots.getD 0 0)),((zp0.slots.getD 1 0)),((zp0.slots.getD 2 0)),((zp0.slots.getD 3 0)),((zp0.slots.getD 4 0))] (Int.tmod r19_6 5)).bind fun a25 =>
(z2i a25 r19_1).bind fun r27 =>
(ix [((zp0.slots.getD 0 0)),((zp0.slots.getD 1 0)),((zp0.slots.getD 2 0)),((zp0.slots.getD 3 0)),((zp0.slots.getD 4 0))] (Int.tmod r19_6 5)).bind fun a32 =>
(stx [((zp0.slots.getD 0 0)),((zp0.slots.getD 1 0)),((zp0.slots.getD 2 0)),((zp0.slots.getD 3 0)),((zp0.slots.getD 4 0))] (Int.tmod r19_6 5) r27).bind fun a37 =>
(z2i zp0.total r19_1).bind fun r39 =>
some ((⟨[((a37.getD 0 0)),((a37.getD 1 0)),((a37.getD 2 0)),((a37.getD 3 0)),((a37.getD 4 0))],r19_6,r39⟩:z4))) x1 ((if r2>x0.last then r2 else x0.last)) ((if 5<(IntKind.wrap .i64 (((if r2>x0.last then r2 else x0.last))-x0.last)) then 5 else (IntKind.wrap .i64 (((if r2>x0.last then r2 else x0.last))-x0.last)))) 0 ((⟨[((x0.slots.getD 0 0)),((x0.slots.getD 1 0)),((x0.slots.getD 2 0)),((x0.slots.getD 3 0)),((x0.slots.getD 4 0))],x0.last,x0.total⟩:z4)))
theorem z8v {h:H} {l0:Loc} {o0:Nat} {kE0:Int→Int→z4→Option β} (hE0:∀ (q1:Int) (q6:Int) (zp0:z4) (H17:Go.Ev.H) (_:Fm 64 h [⟨l0,o0,List.map C.v [(.p (.int .i64 ((zp0.slots.getD 0 0)))),(.p (.int .i64 ((zp0.slots.getD 1 0)))),(.p (.int .i64 ((zp0.slots.getD 2 0)))),(.p (.int .i64 ((zp0.slots.getD 3 0)))),(.p (.int .i64 ((zp0.slots.getD 4 0)))),(.p (.int .i64 zp0.last)),(.p (.int .i64 zp0.total))]⟩] [] [] H17),Sim (kE0 q1 q6 zp0) (K ((.exit 0),(envL [(0,(.ref l0 o0)),(1,(.p (.int .i64 q1))),(6,(.p (.int .i64 q6)))]),H17)) Q) (k:Nat):∀ (x1:Int) (x6:Int) (x23:Int) (x24:Int) (zp0:z4) (H7:Go.Ev.H) (_:Fm 64 h [⟨l0,o0,List.map C.v [(.p (.int .i64 ((zp0.slots.getD 0 0)))),(.p (.int .i64 ((zp0.slots.getD 1 0)))),(.p (.int .i64 ((zp0.slots.getD 2 0)))),(.p (.int .i64 ((zp0.slots.getD 3 0)))),(.p (.int .i64 ((zp0.slots.getD 4 0)))),(.p (.int .i64 zp0.last)),(.p (.int .i64 zp0.total))]⟩] [] [] H7) {σ:Stamp},Sim (z1o k kE0 x1 x6 x23 x24 zp0) ((cvL G X0 z2y z30 σ (envL [(0,(.ref l0 o0)),(1,(.p (.int .i64 x1))),(6,(.p (.int .i64 x6))),(23,(.p (.int .i64 x23))),(24,(.p (.int .i64 x24)))]) H7).bind K) Q:=by
 induction k with
 | zero=>intros;exact .no
 | succ k ih =>
  intro x1 x6 x23 x24 zp0 H7 S8 σ
  rw [z1o]
  refine .round (Sim.ext (zac _ _ _ _ _ _ _ _ _) ?_)
  refine .cq ?_ ?_
  ·refine .nc ?_
   refine .fa ?_
   refine .bd fun a10 h11=>?_
   refine .op (iA_ok h11 rfl) ?_
   refine .bd fun a15 h16=>?_
   obtain ⟨H12,e13,S14⟩:=S8.stIxB (i:=0) (j:=0) (n:=5) (own:=true) (σ:=(8::1::0::1::1::0::σ)) (xs:=[((zp0.slots.getD 0 0)),((zp0.slots.getD 1 0)),((zp0.slots.getD 2 0)),((zp0.slots.getD 3 0)),((zp0.slots.getD 4 0))]) (f:=fun z=>.p (.int .i64 z)) (y:=0) rfl (fun _=>sI _ _) rfl h16 rfl 0
   refine .op (sM e13) ?_
   exact ih x1 x6 x23 (IntKind.wrap .i64 (x24+1)) ((⟨[((a15.getD 0 0)),((a15.getD 1 0)),((a15.getD 2 0)),((a15.getD 3 0)),((a15.getD 4 0))],zp0.last,zp0.total⟩:z4)) H12 (S14.wk2 aN aN)
  exact hE0 x1 x6 ((⟨[((zp0.slots.getD 0 0)),((zp0.slots.getD 1 0)),((zp0.slots.getD 2 0)),((zp0.slots.getD 3 0)),((zp0.slots.getD 4 0))],zp0.last,zp0.total⟩:z4)) H7 (S8.wk2 aN aN)
theorem zb9 (k:Nat) {h:H} {σ:Stamp} (x0:z4)  {l0:Loc} {o0:Nat} (ha0:AtC h l0 o0 (List.map C.v [(.p (.int .i64 ((x0.slots.getD 0 0)))),(.p (.int .i64 ((x0.slots.getD 1 0)))),(.p (.int .i64 ((x0.slots.getD 2 0)))),(.p (.int .i64 ((x0.slots.getD 3 0)))),(.p (.int .i64 ((x0.slots.getD 4 0)))),(.p (.int .i64 x0.last)),(.p (.int .i64 x0.total))])) (x1:Int) (x2:Int):Sim (z2f k x0 x1 x2) (ev G X0 98 σ [(.ref l0 o0),(.p (.int .i64 x1)),(.p (.int .i64 x2))] h) (fun r s=>s=([],pts h [⟨l0,o0,[.v (.p (.int .i64 (r.slots.getD 0 0))),.v (.p (.int .i64 (r.slots.getD 1 0))),.v (.p (.int .i64 (r.slots.getD 2 0))),.v (.p (.int .i64 (r.slots.getD 3 0))),.v (.p (.int .i64 (r.slots.getD 4 0))),.v (.p (.int .i64 r.last)),.v (.p (.int .i64 r.total))]⟩])):=by
 refine .ev rfl (Sim.ext (z8w _ _ _ _ _ _ _) ?_)
 rw [z2f]
 have S0:Fm 64 h [⟨l0,o0,List.map C.v [(.p (.int .i64 ((x0.slots.getD 0 0)))),(.p (.int .i64 ((x0.slots.getD 1 0)))),(.p (.int .i64 ((x0.slots.getD 2 0)))),(.p (.int .i64 ((x0.slots.getD 3 0)))),(.p (.int .i64 ((x0.slots.getD 4 0)))),(.p (.int .i64 x0.last)),(.p (.int .i64 x0.total))]⟩] [] [] (List.replicate 64 []::h):=Fm.start1 ha0
 refine .cq ?_ ?_
 ·exact .fin (S0.finN lN) rfl
 refine .nc ?_
 refine .fa ?_
 refine .op ((S0.atB (i:=0) rfl).ld (j:=5) rfl) ?_
 refine .ci ?_
 refine .call (za2 x2) fun r2 cs3 H4 h5 q6=>?_
 cases q6
 refine .ci ?_
 refine .nd ((S0.atB (i:=0) rfl).ld (j:=5) rfl) ?_
 refine .nc ?_
 refine .fa ?_
 refine .op ((S0.atB (i:=0) rfl).ld (j:=5) rfl) ?_
 refine .ci ?_
 refine .as (z8v ?_ k x1 ((if r2>x0.last then r2 else x0.last)) ((if 5<(IntKind.wrap .i64 (((if r2>x0.last then r2 else x0.last))-x0.last)) then 5 else (IntKind.wrap .i64 (((if r2>x0.last then r2 else x0.last))-x0.last)))) 0 ((⟨[((x0.slots.getD 0 0)),((x0.slots.getD 1 0)),((x0.slots.getD 2 0)),((x0.slots.getD 3 0)),((x0.slots.getD 4 0))],x0.last,x0.total⟩:z4)) (List.replicate 64 []::h) (S0.wk2 aN aN))
 ·intro r19_1 r19_6 zp0 H20 S21
  refine .ext (z9m _ _ _ _ _ _ _) ?_
  refine .nc ?_
  refine .fa ?_
  obtain ⟨H22,e23,S24⟩:=S21.stB (i:=0) (j:=5) (own:=true) (σ:=(4::0::1::1::1::0::σ)) (x:=(.p (.int .i64 r19_6))) rfl (sI _ _) rfl
  refine .op (sM e23) ?_
  refine .nc ?_
  refine .fa ?_
  refine .bd fun a25 h26=>?_
  refine .op (iA_ok h26 rfl) ?_
  refine .op ((S24.atB (i:=0) rfl).ldIx (xs:=[((zp0.slots.getD 0 0)),((zp0.slots.getD 1 0)),((zp0.slots.getD 2 0)),((zp0.slots.getD 3 0)),((zp0.slots.getD 4 0))]) (j:=0) (n:=5) (f:=fun z=>.p (.int .i64 z)) rfl h26 rfl) ?_
  refine .ci ?_
  refine .nc ?_
  refine .fa ?_
  refine .call (z63 a25 r19_1) fun r27 cs28 H29 h30 q31=>?_
  cases q31
  refine .ci ?_
  refine .bd fun a32 h33=>?_
  refine .op (iA_ok h33 rfl) ?_
  refine .bd fun a37 h38=>?_
  obtain ⟨H34,e35,S36⟩:=S24.stIxB (i:=0) (j:=0) (n:=5) (own:=true) (σ:=(15::0::1::1::1::1::0::σ)) (xs:=[((zp0.slots.getD 0 0)),((zp0.slots.getD 1 0)),((zp0.slots.getD 2 0)),((zp0.slots.getD 3 0)),((zp0.slots.getD 4 0))]) (f:=fun z=>.p (.int .i64 z)) (y:=r27) rfl (fun _=>sI _ _) rfl h38 rfl 0
  refine .op (sM e35) ?_
  refine .nc ?_
  refine .fa ?_
  refine .op ((S36.atB (i:=0) rfl).ld (j:=6) rfl) ?_
  refine .ci ?_
  refine .call (z63 zp0.total r19_1) fun r39 cs40 H41 h42 q43=>?_
  cases q43
  refine .ci ?_
  refine .nc ?_
  refine .fa ?_
  obtain ⟨H44,e45,S46⟩:=S36.stB (i:=0) (j:=6) (own:=true) (σ:=(9::1::1::1::1::1::0::σ)) (x:=(.p (.int .i64 r39))) rfl (sI _ _) rfl
  refine .op (sM e45) ?_
  exact .fin (S46.finN lN) rfl
end
end Go.Ev
namespace Go.Ev
open Go.Proofs
set_option linter.unusedVariables false
set_option linter.unusedSimpArgs false
set_option maxRecDepth 100000
noncomputable section
abbrev KT9:=Exit→Env→H→Option (List C × H)
variable (rec : CallF) (loop : LoopV) (σ : Stamp)
theorem zbb (x0:V) (x1:Int) (h:H):cvBody G rec loop 97 σ [x0,(.p (.int .u16 x1))] h =
(nilChk x0).bind fun t1 =>
(fA t1 1).bind fun t2 =>
(ldO false 1 (List.replicate 109 []::h) t2).bind fun t3 =>
(castI .i64 t3).bind fun n4 =>
(callO rec 127 (5::0::1::0::σ) [(.p (.int .i64 n4)),(.p (.int .u16 x1))] (List.replicate 109 []::h) (some 12)).bind fun q5 =>
(castI .i64 q5.1).bind fun n6 =>
(nilChk x0).bind fun t7 =>
(fA t7 1).bind fun t8 =>
(ldO false 1 q5.2 t8).bind fun t9 =>
(castI .i64 t9).bind fun n10 =>
bif decide (n10<0) then (
(nilChk x0).bind fun t11 =>
(fA t11 0).bind fun t12 =>
((stO true 1 (7::1::0::1::1::0::σ) q5.2 t12 (.p (.int .i64 n6))).map fun h=>(udf,h)).bind fun q13 =>
(nilChk x0).bind fun t14 =>
(fA t14 1).bind fun t15 =>
((stO true 1 (10::1::0::1::1::0::σ) q13.2 t15 (.p (.int .i64 n6))).map fun h=>(udf,h)).bind fun q16 =>
(nilChk x0).bind fun t17 =>
(fA t17 3).bind fun t18 =>
((stO true 1 (13::1::0::1::1::0::σ) q16.2 t18 (.p (.int .u64 1))).map fun h=>(udf,h)).bind fun q19 =>
(nilChk x0).bind fun t20 =>
(fA t20 0).bind fun t21 =>
(ldO false 1 q19.2 t21).bind fun t22 =>
(castI .i64 t22).bind fun n23 =>
bif decide (n6≥n23) then (
(nilChk x0).bind fun t24 =>
(fA t24 2).bind fun t25 =>
(ldO false 1 q19.2 t25).bind fun t26 =>
(castI .i64 t26).bind fun n27 =>
(nilChk x0).bind fun t28 =>
(fA t28 2).bind fun t29 =>
((stO true 1 (7::1::0::1::1::1::0::σ) q19.2 t29 (.p (.int .i64 (IntKind.wrap .i64 (n27+1))))).map fun h=>(udf,h)).bind fun q30 =>
fin false σ q30.2 [(.p (.int .i64 n6)),(.p (.bool true))])
else (
fin false σ q19.2 [(.p (.int .i64 n6)),(.p (.bool true))]))
else (
(nilChk x0).bind fun t31 =>
(fA t31 1).bind fun t32 =>
(ldO false 1 q5.2 t32).bind fun t33 =>
(castI .i64 t33).bind fun n34 =>
bif decide (n6>n34) then (
(nilChk x0).bind fun t35 =>
(fA t35 3).bind fun t36 =>
(ldO false 1 q5.2 t36).bind fun t37 =>
(castI .u64 t37).bind fun n38 =>
(nilChk x0).bind fun t39 =>
(fA t39 1).bind fun t40 =>
(ldO false 1 q5.2 t40).bind fun t41 =>
(castI .i64 t41).bind fun n42 =>
(shiftV .shl .u64 n38 ((if 64<(IntKind.wrap .i64 (n6-n42)) then 64 else (IntKind.wrap .i64 (n6-n42))))).bind fun t43 =>
(castI .u64 t43).bind fun n44 =>
(nilChk x0).bind fun t45 =>
(fA t45 3).bind fun t46 =>
((stO true 1 (16::0::1::1::0::1::1::0::σ) q5.2 t46 (.p (.int .u64 (intBits .or .u64 n44 1)))).map fun h=>(udf,h)).bind fun q47 =>
(nilChk x0).bind fun t48 =>
(fA t48 1).bind fun t49 =>
((stO true 1 (4::1::1::1::0::1::1::0::σ) q47.2 t49 (.p (.int .i64 n6))).map fun h=>(udf,h)).bind fun q50 =>
(nilChk x0).bind fun t51 =>
(fA t51 0).bind fun t52 =>
(ldO false 1 q50.2 t52).bind fun t53 =>
(castI .i64 t53).bind fun n54 =>
bif decide (n6≥n54) then (
(nilChk x0).bind fun t55 =>
(fA t55 2).bind fun t56 =>
(ldO false 1 q50.2 t56).bind fun t57 =>
(castI .i64 t57).bind fun n58 =>
(nilChk x0).bind fun t59 =>
(fA t59 2).bind fun t60 =>
((stO true 1 (7::1::0::1::1::1::0::σ) q50.2 t60 (.p (.int .i64 (IntKind.wrap .i64 (n58+1))))).map fun h=>(udf,h)).bind fun q61 =>
fin false σ q61.2 [(.p (.int .i64 n6)),(.p (.bool true))])
else (
fin false σ q50.2 [(.p (.int .i64 n6)),(.p (.bool true))]))
else (
(nilChk x0).bind fun t62 =>
(fA t62 1).bind fun t63 =>
(ldO false 1 q5.2 t63).bind fun t64 =>
(castI .i64 t64).bind fun n65 =>
(bif decide ((IntKind.wrap .i64 (n65-n6))>63) then (some true) else ((nilChk x0).bind fun t66 =>
(fA t66 3).bind fun t67 =>
(ldO false 1 q5.2 t67).bind fun t68 =>
(castI .u64 t68).bind fun n69 =>
(nilChk x0).bind fun t70 =>
(fA t70 1).bind fun t71 =>
(ldO false 1 q5.2 t71).bind fun t72 =>
(castI .i64 t72).bind fun n73 =>
(shiftV .shr .u64 n69 (IntKind.wrap .i64 (n73-n6))).bind fun t74 =>
(castI .u64 t74).bind fun n75 =>
some ((intBits .and .u64 n75 1)==1))).bind fun b76 =>
bif b76 then (
fin false σ q5.2 [(.p (.int .i64 n6)),(.p (.bool false))])
else (
(nilChk x0).bind fun t77 =>
(fA t77 3).bind fun t78 =>
(ldO false 1 q5.2 t78).bind fun t79 =>
(castI .u64 t79).bind fun n80 =>
(nilChk x0).bind fun t81 =>
(fA t81 1).bind fun t82 =>
(ldO false 1 q5.2 t82).bind fun t83 =>
(castI .i64 t83).bind fun n84 =>
(shiftV .shl .u64 1 (IntKind.wrap .i64 (n84-n6))).bind fun t85 =>
(castI .u64 t85).bind fun n86 =>
(nilChk x0).bind fun t87 =>
(fA t87 3).bind fun t88 =>
((stO true 1 (14::1::1::1::0::1::1::0::σ) q5.2 t88 (.p (.int .u64 (intBits .or .u64 n80 n86)))).map fun h=>(udf,h)).bind fun q89 =>
(nilChk x0).bind fun t90 =>
(fA t90 0).bind fun t91 =>
(ldO false 1 q89.2 t91).bind fun t92 =>
(castI .i64 t92).bind fun n93 =>
bif decide (n6≥n93) then (
(nilChk x0).bind fun t94 =>
(fA t94 2).bind fun t95 =>
(ldO false 1 q89.2 t95).bind fun t96 =>
(castI .i64 t96).bind fun n97 =>
(nilChk x0).bind fun t98 =>
(fA t98 2).bind fun t99 =>
((stO true 1 (7::1::0::1::1::1::0::σ) q89.2 t99 (.p (.int .i64 (IntKind.wrap .i64 (n97+1))))).map fun h=>(udf,h)).bind fun q100 =>
fin false σ q100.2 [(.p (.int .i64 n6)),(.p (.bool true))])
else (
fin false σ q89.2 [(.p (.int .i64 n6)),(.p (.bool true))])))):=by kernel_rfl
theorem zca (x0:Int) (x1:Int) (h:H):cvBody G rec loop 127 σ [(.p (.int .i64 x0)),(.p (.int .u16 x1))] h =
(callO rec 137 (3::0::1::0::σ) [(.p (.int .i64 x0)),(.p (.int .i64 (IntKind.wrap .i64 x1))),(.p (.int .i64 16))] (List.replicate 9 []::h) (some 8)).bind fun q1 =>
(castI .i64 q1.1).bind fun n2 =>
fin false σ q1.2 [(.p (.int .i64 n2))]:=by kernel_rfl
theorem zcm (x0:Int) (x1:Int) (x2:Int) (h:H):cvBody G rec loop 137 σ [(.p (.int .i64 x0)),(.p (.int .i64 x1)),(.p (.int .i64 x2))] h =
(shiftV .shl .i64 1 x2).bind fun t1 =>
(castI .i64 t1).bind fun n2 =>
bif decide (x0<0) then (
fin false σ (List.replicate 46 []::h) [(.p (.int .i64 x1))])
else (
(bif decide ((intBits .and .i64 (IntKind.wrap .i64 ((IntKind.wrap .i64 (x1-(intBits .and .i64 x0 (IntKind.wrap .i64 (n2-1)))))+n2)) (IntKind.wrap .i64 (n2-1)))>(IntKind.wrap .i64 (Int.tdiv n2 2))) then (some true) else (some (decide (x0>(IntKind.wrap .i64 (9223372036854775807-(intBits .and .i64 (IntKind.wrap .i64 ((IntKind.wrap .i64 (x1-(intBits .and .i64 x0 (IntKind.wrap .i64 (n2-1)))))+n2)) (IntKind.wrap .i64 (n2-1))))))))).bind fun b3 =>
bif b3 then (
bif decide ((IntKind.wrap .i64 (x0+(IntKind.wrap .i64 ((intBits .and .i64 (IntKind.wrap .i64 ((IntKind.wrap .i64 (x1-(intBits .and .i64 x0 (IntKind.wrap .i64 (n2-1)))))+n2)) (IntKind.wrap .i64 (n2-1)))-n2))))<0) then (
fin false σ (List.replicate 46 []::h) [(.p (.int .i64 x1))])
else (
fin false σ (List.replicate 46 []::h) [(.p (.int .i64 (IntKind.wrap .i64 (x0+(IntKind.wrap .i64 ((intBits .and .i64 (IntKind.wrap .i64 ((IntKind.wrap .i64 (x1-(intBits .and .i64 x0 (IntKind.wrap .i64 (n2-1)))))+n2)) (IntKind.wrap .i64 (n2-1)))-n2))))))]))
else (
bif decide ((IntKind.wrap .i64 (x0+(intBits .and .i64 (IntKind.wrap .i64 ((IntKind.wrap .i64 (x1-(intBits .and .i64 x0 (IntKind.wrap .i64 (n2-1)))))+n2)) (IntKind.wrap .i64 (n2-1)))))<0) then (
fin false σ (List.replicate 46 []::h) [(.p (.int .i64 x1))])
else (
fin false σ (List.replicate 46 []::h) [(.p (.int .i64 (IntKind.wrap .i64 (x0+(intBits .and .i64 (IntKind.wrap .i64 ((IntKind.wrap .i64 (x1-(intBits .and .i64 x0 (IntKind.wrap .i64 (n2-1)))))+n2)) (IntKind.wrap .i64 (n2-1)))))))]))):=by kernel_rfl
end
end Go.Ev
namespace Go.Ev
open Go.Proofs
set_option linter.unusedVariables false
set_option linter.unusedSimpArgs false
set_option maxRecDepth 100000
section
variable {β α : Type} {Q : β→α→Prop} {K : Exit × Env × H→Option α}
def z64 (x0:Int) (x1:Int) (x2:Int):Option (Int) :=
(shP .shl .i64 1 x2).bind fun n1 =>
bif decide (x0<0) then (
some (x1))
else (
(bif decide ((intBits .and .i64 (IntKind.wrap .i64 ((IntKind.wrap .i64 (x1-(intBits .and .i64 x0 (IntKind.wrap .i64 (n1-1)))))+n1)) (IntKind.wrap .i64 (n1-1)))>(IntKind.wrap .i64 (Int.tdiv n1 2))) then (some true) else (some (decide (x0>(IntKind.wrap .i64 (9223372036854775807-(intBits .and .i64 (IntKind.wrap .i64 ((IntKind.wrap .i64 (x1-(intBits .and .i64 x0 (IntKind.wrap .i64 (n1-1)))))+n1)) (IntKind.wrap .i64 (n1-1))))))))).bind fun b4 =>
bif b4 then (
bif decide ((IntKind.wrap .i64 (x0+(IntKind.wrap .i64 ((intBits .and .i64 (IntKind.wrap .i64 ((IntKind.wrap .i64 (x1-(intBits .and .i64 x0 (IntKind.wrap .i64 (n1-1)))))+n1)) (IntKind.wrap .i64 (n1-1)))-n1))))<0) then (
some (x1))
else (
some ((IntKind.wrap .i64 (x0+(IntKind.wrap .i64 ((intBits .and .i64 (IntKind.wrap .i64 ((IntKind.wrap .i64 (x1-(intBits .and .i64 x0 (IntKind.wrap .i64 (n1-1)))))+n1)) (IntKind.wrap .i64 (n1-1)))-n1)))))))
else (
bif decide ((IntKind.wrap .i64 (x0+(intBits .and .i64 (IntKind.wrap .i64 ((IntKind.wrap .i64 (x1-(intBits .and .i64 x0 (IntKind.wrap .i64 (n1-1)))))+n1)) (IntKind.wrap .i64 (n1-1)))))<0) then (
some (x1))
else (
some ((IntKind.wrap .i64 (x0+(intBits .and .i64 (IntKind.wrap .i64 ((IntKind.wrap .i64 (x1-(intBits .and .i64 x0 (IntKind.wrap .i64 (n1-1)))))+n1)) (IntKind.wrap .i64 (n1-1)))))))))
theorem zfi {h:H} {σ:Stamp} (x0:Int) (x1:Int) (x2:Int):Sim (z64 x0 x1 x2) (ev G X0 137 σ [(.p (.int .i64 x0)),(.p (.int .i64 x1)),(.p (.int .i64 x2))] h) (fun r s=>s=([.v (.p (.int .i64 r))],h)):=by
 refine .ev rfl (Sim.ext (zcm _ _ _ _ _ _ _) ?_)
 rw [z64]
 have S0:Fm 46 h [] [] [] (List.replicate 46 []::h):=Fm.start0
 refine .bd fun n1 h2=>?_
 refine .op (shP_ok h2) ?_
 refine .ci ?_
 refine .cq ?_ ?_
 ·exact .fin (S0.finN (lC (sI _ _).lv lN)) rfl
 refine .ch (P:=fun r y=>r=y) ?_ (fun b4 y5 h6 h7=>?_)
 ·refine .cq ?_ ?_
  ·exact .ret rfl rfl
  ·exact .ret rfl rfl
 subst h7
 refine .cq ?_ ?_
 ·refine .cq ?_ ?_
  ·exact .fin (S0.finN (lC (sI _ _).lv lN)) rfl
  exact .fin (S0.finN (lC (sI _ _).lv lN)) rfl
 refine .cq ?_ ?_
 ·exact .fin (S0.finN (lC (sI _ _).lv lN)) rfl
 exact .fin (S0.finN (lC (sI _ _).lv lN)) rfl
def z4j (x0:Int) (x1:Int):Option (Int) :=
(z64 x0 (IntKind.wrap .i64 x1) 16).bind fun r1 =>
some (r1)
theorem zg3 {h:H} {σ:Stamp} (x0:Int) (x1:Int):Sim (z4j x0 x1) (ev G X0 127 σ [(.p (.int .i64 x0)),(.p (.int .u16 x1))] h) (fun r s=>s=([.v (.p (.int .i64 r))],h)):=by
 refine .ev rfl (Sim.ext (zca _ _ _ _ _ _) ?_)
 rw [z4j]
 have S0:Fm 9 h [] [] [] (List.replicate 9 []::h):=Fm.start0
 refine .call (zfi x0 (IntKind.wrap .i64 x1) 16) fun r1 cs2 H3 h4 q5=>?_
 cases q5
 refine .ci ?_
 exact .fin (S0.finN (lC (sI _ _).lv lN)) rfl
def z3j (x0:z1e) (x1:Int):Option (Int×Bool×z1e) :=
(z4j x0.last x1).bind fun r1 =>
bif decide (x0.last<0) then (
bif decide (r1≥r1) then (
some (r1,true,(⟨r1,r1,(IntKind.wrap .i64 (x0.count+1)),1⟩:z1e)))
else (
some (r1,true,(⟨r1,r1,x0.count,1⟩:z1e))))
else (
bif decide (r1>x0.last) then (
(shP .shl .u64 x0.mask ((if 64<(IntKind.wrap .i64 (r1-x0.last)) then 64 else (IntKind.wrap .i64 (r1-x0.last))))).bind fun n21 =>
bif decide (r1≥x0.first) then (
some (r1,true,(⟨x0.first,r1,(IntKind.wrap .i64 (x0.count+1)),(intBits .or .u64 n21 1)⟩:z1e)))
else (
some (r1,true,(⟨x0.first,r1,x0.count,(intBits .or .u64 n21 1)⟩:z1e))))
else (
(bif decide ((IntKind.wrap .i64 (x0.last-r1))>63) then (some true) else ((shP .shr .u64 x0.mask (IntKind.wrap .i64 (x0.last-r1))).bind fun n33 =>
some ((intBits .and .u64 n33 1)==1))).bind fun b35 =>
bif b35 then (
some (r1,false,x0))
else (
(shP .shl .u64 1 (IntKind.wrap .i64 (x0.last-r1))).bind fun n40 =>
bif decide (r1≥x0.first) then (
some (r1,true,(⟨x0.first,x0.last,(IntKind.wrap .i64 (x0.count+1)),(intBits .or .u64 x0.mask n40)⟩:z1e)))
else (
some (r1,true,(⟨x0.first,x0.last,x0.count,(intBits .or .u64 x0.mask n40)⟩:z1e))))))
theorem zd6 {h:H} {σ:Stamp} (x0:z1e)  {l0:Loc} {o0:Nat} (ha0:AtC h l0 o0 (List.map C.v [(.p (.int .i64 x0.first)),(.p (.int .i64 x0.last)),(.p (.int .i64 x0.count)),(.p (.int .u64 x0.mask))])) (x1:Int):Sim (z3j x0 x1) (ev G X0 97 σ [(.ref l0 o0),(.p (.int .u16 x1))] h) (fun r s=>s=([.v (.p (.int .i64 r.1)),.v (.p (.bool r.2.1))],pts h [⟨l0,o0,[.v (.p (.int .i64 r.2.2.first)),.v (.p (.int .i64 r.2.2.last)),.v (.p (.int .i64 r.2.2.count)),.v (.p (.int .u64 r.2.2.mask))]⟩])):=by
 refine .ev rfl (Sim.ext (zbb _ _ _ _ _ _) ?_)
 rw [z3j]
 have S0:Fm 109 h [⟨l0,o0,List.map C.v [(.p (.int .i64 x0.first)),(.p (.int .i64 x0.last)),(.p (.int .i64 x0.count)),(.p (.int .u64 x0.mask))]⟩] [] [] (List.replicate 109 []::h):=Fm.start1 ha0
 refine .nc ?_
 refine .fa ?_
 refine .op ((S0.atB (i:=0) rfl).ld (j:=1) rfl) ?_
 refine .ci ?_
 refine .call (zg3 x0.last x1) fun r1 cs2 H3 h4 q5=>?_
 cases q5
 refine .ci ?_
 refine .nc ?_
 refine .fa ?_
 refine .op ((S0.atB (i:=0) rfl).ld (j:=1) rfl) ?_
 refine .ci ?_
 refine .cq ?_ ?_
 ·refine .nc ?_
  refine .fa ?_
  obtain ⟨H7,e8,S9⟩:=S0.stB (i:=0) (j:=0) (own:=true) (σ:=(7::1::0::1::1::0::σ)) (x:=(.p (.int .i64 r1))) rfl (sI _ _) rfl
  refine .op (sM e8) ?_
  refine .nc ?_
  refine .fa ?_
  obtain ⟨H10,e11,S12⟩:=S9.stB (i:=0) (j:=1) (own:=true) (σ:=(10::1::0::1::1::0::σ)) (x:=(.p (.int .i64 r1))) rfl (sI _ _) rfl
  refine .op (sM e11) ?_
  refine .nc ?_
  refine .fa ?_
  obtain ⟨H13,e14,S15⟩:=S12.stB (i:=0) (j:=3) (own:=true) (σ:=(13::1::0::1::1::0::σ)) (x:=(.p (.int .u64 1))) rfl (sI _ _) rfl
  refine .op (sM e14) ?_
  refine .nc ?_
  refine .fa ?_
  refine .op ((S15.atB (i:=0) rfl).ld (j:=0) rfl) ?_
  refine .ci ?_
  refine .cq ?_ ?_
  ·refine .nc ?_
   refine .fa ?_
   refine .op ((S15.atB (i:=0) rfl).ld (j:=2) rfl) ?_
   refine .ci ?_
   refine .nc ?_
   refine .fa ?_
   obtain ⟨H17,e18,S19⟩:=S15.stB (i:=0) (j:=2) (own:=true) (σ:=(7::1::0::1::1::1::0::σ)) (x:=(.p (.int .i64 (IntKind.wrap .i64 (x0.count+1))))) rfl (sI _ _) rfl
   refine .op (sM e18) ?_
   exact .fin (S19.finN (lC (sI _ _).lv (lC (sB _).lv lN))) rfl
  exact .fin (S15.finN (lC (sI _ _).lv (lC (sB _).lv lN))) rfl
 refine .nc ?_
 refine .fa ?_
 refine .op ((S0.atB (i:=0) rfl).ld (j:=1) rfl) ?_
 refine .ci ?_
 refine .cq ?_ ?_
 ·refine .nc ?_
  refine .fa ?_
  refine .op ((S0.atB (i:=0) rfl).ld (j:=3) rfl) ?_
  refine .ci ?_
  refine .nc ?_
  refine .fa ?_
  refine .op ((S0.atB (i:=0) rfl).ld (j:=1) rfl) ?_
  refine .ci ?_
  refine .bd fun n21 h22=>?_
  refine .op (shP_ok h22) ?_
  refine .ci ?_
  refine .nc ?_
  refine .fa ?_
  obtain ⟨H23,e24,S25⟩:=S0.stB (i:=0) (j:=3) (own:=true) (σ:=(16::0::1::1::0::1::1::0::σ)) (x:=(.p (.int .u64 (intBits .or .u64 n21 1)))) rfl (sI _ _) rfl
  refine .op (sM e24) ?_
  refine .nc ?_
  refine .fa ?_
  obtain ⟨H26,e27,S28⟩:=S25.stB (i:=0) (j:=1) (own:=true) (σ:=(4::1::1::1::0::1::1::0::σ)) (x:=(.p (.int .i64 r1))) rfl (sI _ _) rfl
  refine .op (sM e27) ?_
  refine .nc ?_
  refine .fa ?_
  refine .op ((S28.atB (i:=0) rfl).ld (j:=0) rfl) ?_
  refine .ci ?_
  refine .cq ?_ ?_
  ·refine .nc ?_
   refine .fa ?_
   refine .op ((S28.atB (i:=0) rfl).ld (j:=2) rfl) ?_
   refine .ci ?_
   refine .nc ?_
   refine .fa ?_
   obtain ⟨H30,e31,S32⟩:=S28.stB (i:=0) (j:=2) (own:=true) (σ:=(7::1::0::1::1::1::0::σ)) (x:=(.p (.int .i64 (IntKind.wrap .i64 (x0.count+1))))) rfl (sI _ _) rfl
   refine .op (sM e31) ?_
   exact .fin (S32.finN (lC (sI _ _).lv (lC (sB _).lv lN))) rfl
  exact .fin (S28.finN (lC (sI _ _).lv (lC (sB _).lv lN))) rfl
 refine .nc ?_
 refine .fa ?_
 refine .op ((S0.atB (i:=0) rfl).ld (j:=1) rfl) ?_
 refine .ci ?_
 refine .ch (P:=fun r y=>r=y) ?_ (fun b35 y36 h37 h38=>?_)
 ·refine .cq ?_ ?_
  ·exact .ret rfl rfl
  ·refine .nc ?_
   refine .fa ?_
   refine .op ((S0.atB (i:=0) rfl).ld (j:=3) rfl) ?_
   refine .ci ?_
   refine .nc ?_
   refine .fa ?_
   refine .op ((S0.atB (i:=0) rfl).ld (j:=1) rfl) ?_
   refine .ci ?_
   refine .bd fun n33 h34=>?_
   refine .op (shP_ok h34) ?_
   refine .ci ?_
   exact .ret rfl rfl
 subst h38
 refine .cq ?_ ?_
 ·exact .fin (S0.finN (lC (sI _ _).lv (lC (sB _).lv lN))) rfl
 refine .nc ?_
 refine .fa ?_
 refine .op ((S0.atB (i:=0) rfl).ld (j:=3) rfl) ?_
 refine .ci ?_
 refine .nc ?_
 refine .fa ?_
 refine .op ((S0.atB (i:=0) rfl).ld (j:=1) rfl) ?_
 refine .ci ?_
 refine .bd fun n40 h41=>?_
 refine .op (shP_ok h41) ?_
 refine .ci ?_
 refine .nc ?_
 refine .fa ?_
 obtain ⟨H42,e43,S44⟩:=S0.stB (i:=0) (j:=3) (own:=true) (σ:=(14::1::1::1::0::1::1::0::σ)) (x:=(.p (.int .u64 (intBits .or .u64 x0.mask n40)))) rfl (sI _ _) rfl
 refine .op (sM e43) ?_
 refine .nc ?_
 refine .fa ?_
 refine .op ((S44.atB (i:=0) rfl).ld (j:=0) rfl) ?_
 refine .ci ?_
 refine .cq ?_ ?_
 ·refine .nc ?_
  refine .fa ?_
  refine .op ((S44.atB (i:=0) rfl).ld (j:=2) rfl) ?_
  refine .ci ?_
  refine .nc ?_
  refine .fa ?_
  obtain ⟨H46,e47,S48⟩:=S44.stB (i:=0) (j:=2) (own:=true) (σ:=(7::1::0::1::1::1::0::σ)) (x:=(.p (.int .i64 (IntKind.wrap .i64 (x0.count+1))))) rfl (sI _ _) rfl
  refine .op (sM e47) ?_
  exact .fin (S48.finN (lC (sI _ _).lv (lC (sB _).lv lN))) rfl
 exact .fin (S44.finN (lC (sI _ _).lv (lC (sB _).lv lN))) rfl
def z18 (k:Nat) (x0:z5) (x1:Int) (x2:TaiRtp) (x3:Int) (x4:Int):Option (Int×Bool×z5) :=
(zy x0 x1).bind fun r11 =>
bif !r11 then (
some (0,false,x0))
else (
(ix x0.l x1).bind fun a17 =>
(z3j a17.seen x2.Seq).bind fun r27 =>
bif !r27.2.1 then (
some (0,false,(⟨((x0.l.set (Int.toNat x1) ((⟨a17.told,r27.2.2,(⟨[((a17.meter.slots.getD 0 0)),((a17.meter.slots.getD 1 0)),((a17.meter.slots.getD 2 0)),((a17.meter.slots.getD 3 0)),((a17.meter.slots.getD 4 0))],a17.meter.last,a17.meter.total⟩:z4),a17.came,a17.f_until,a17.resting,a17.woken,a17.kept⟩:zc))))⟩:z5)))
else (
(z2f k (⟨[((a17.meter.slots.getD 0 0)),((a17.meter.slots.getD 1 0)),((a17.meter.slots.getD 2 0)),((a17.meter.slots.getD 3 0)),((a17.meter.slots.getD 4 0))],a17.meter.last,a17.meter.total⟩:z4) (IntKind.wrap .i64 (x3+28)) x4).bind fun r38 =>
(z5b x4).bind fun r44 =>
some (r27.1,true,(⟨((x0.l.set (Int.toNat x1) ((⟨a17.told,r27.2.2,(⟨[((r38.slots.getD 0 0)),((r38.slots.getD 1 0)),((r38.slots.getD 2 0)),((r38.slots.getD 3 0)),((r38.slots.getD 4 0))],r38.last,r38.total⟩:z4),true,r44,a17.resting,false,a17.kept⟩:zc))))⟩:z5))))
theorem z37 (k:Nat) {h:H} {σ:Stamp} (x0:z5) {c0_0:C} (hc0_0:RsC z9 x0.l c0_0) {l0:Loc} {o0:Nat} (ha0:AtC h l0 o0 ([c0_0])) (x1:Int) (x2:TaiRtp) {u2:List V} (hu2:z6.R x2 u2) (x3:Int) (x4:Int):Sim (z18 k x0 x1 x2 x3 x4) (ev G X0 45 σ [(.ref l0 o0),(.p (.int .i64 x1)),(.agg u2),(.p (.int .i64 x3)),(.p (.int .i64 x4))] h) (fun r s=>∃ (cb0_0:C),RsC z9 r.2.2.l cb0_0∧s=([.v (.p (.int .i64 r.1)),.v (.p (.bool r.2.1))],pts h [⟨l0,o0,[cb0_0]⟩])):=by
 refine .ev rfl (Sim.ext (z71 _ _ _ _ _ _ _ _ _) ?_)
 rw [z18]
 obtain ⟨v1,v3,v5,rfl,h2,h4,h6⟩:=z6.inv hu2
 have S0:Fm 57 h [⟨l0,o0,[c0_0]⟩] [] [] (List.replicate 57 []::h):=Fm.start1 ha0
 obtain ⟨H7,e8,S9⟩:=S0.box (own:=true) (d:=7) (s:=(0::0::0::σ)) (xs:=[(.p (.bool x2.Marker)),(.p (.int .i64 x2.f_Type)),(.p (.int .u16 x2.Seq)),(.p (.int .u32 x2.Time)),(.p (.int .u32 x2.Ssrc)),v1,(.p (.int .u16 x2.Profile)),v3,v5]) (sC (sB _) (sC (sI _ _) (sC (sI _ _) (sC (sI _ _) (sC (sI _ _) (sC h2.still (sC (sI _ _) (sC h4.still (sC h6.still sN))))))))) (by decide) rfl
 refine .op (e8) ?_
 refine .call (z1n x0 hc0_0 (S9.atB (i:=0) rfl) x1) fun r11 cs12 H13 h14 q15=>?_
 cases q15
 refine .ab ?_
 refine .cq ?_ ?_
 ·exact .fin (S9.finN (lC (sI _ _).lv (lC (sB _).lv lN))) ⟨c0_0,hc0_0,rfl⟩
 refine .nc ?_
 refine .fa ?_
 refine .op (RsC.ld hc0_0 (S9.atB (i:=0) rfl) (j:=0) rfl) ?_
 refine .bd fun a17 h18=>?_
 obtain ⟨s19,P20,w21,Q22,rfl,h23,h24,h25⟩:=hc0_0.open h18 (e:=10) rfl
 obtain ⟨s25_3,s25_4,rfl⟩:=h24
 refine .op (iS_arr h18 _ _ _ _ _) ?_
 refine .nc ?_
 refine .fa ?_
 refine .op ((S9.atF (Foc.arr (Foc.of (i:=0) rfl) (j:=0) rfl h23)).ldOwn (j:=3) rfl) ?_
 refine .fa ?_
 refine .op ((S9.atG (i:=0) rfl).ld (j:=2) rfl) ?_
 refine .ci ?_
 refine .call (zd6 a17.seen (S9.atF (Foc.own (Foc.arr (Foc.of (i:=0) rfl) (j:=0) rfl h23) (j:=3) rfl)) x2.Seq) fun r27 cs28 H29 h30 q31=>?_
 cases q31
 have S32:Fm _ _ _ _ _ (pts H7 [⟨((l0.hop (o0+0) s19).hop ((Int.toNat x1*10)+3) s25_3),0,List.map C.v [(.p (.int .i64 r27.2.2.first)),(.p (.int .i64 r27.2.2.last)),(.p (.int .i64 r27.2.2.count)),(.p (.int .u64 r27.2.2.mask))]⟩]):=S9.setF (Foc.own (Foc.arr (Foc.of (i:=0) rfl) (j:=0) rfl h23) (j:=3) rfl) (cs':=List.map C.v [(.p (.int .i64 r27.2.2.first)),(.p (.int .i64 r27.2.2.last)),(.p (.int .i64 r27.2.2.count)),(.p (.int .u64 r27.2.2.mask))]) (by rfl)
 refine .or ?_
 refine .ci ?_
 refine .or ?_
 refine .ab ?_
 refine .cq ?_ ?_
 ·obtain ⟨c34,e35,h36⟩:∃ c,c=.arr s19 x0.l.length 10 (P20++[.v (.p (.string a17.told.Rid)),.v (.p (.int .u32 a17.told.Ssrc)),.v (.p (.int .i64 a17.told.Height)),.own s25_3 (List.map C.v [(.p (.int .i64 r27.2.2.first)),(.p (.int .i64 r27.2.2.last)),(.p (.int .i64 r27.2.2.count)),(.p (.int .u64 r27.2.2.mask))]),.own s25_4 (List.map C.v [(.p (.int .i64 ((a17.meter.slots.getD 0 0)))),(.p (.int .i64 ((a17.meter.slots.getD 1 0)))),(.p (.int .i64 ((a17.meter.slots.getD 2 0)))),(.p (.int .i64 ((a17.meter.slots.getD 3 0)))),(.p (.int .i64 ((a17.meter.slots.getD 4 0)))),(.p (.int .i64 a17.meter.last)),(.p (.int .i64 a17.meter.total))]),.v (.p (.bool a17.came)),.v (.p (.int .i64 a17.f_until)),.v (.p (.bool a17.resting)),.v (.p (.bool a17.woken)),.v (.p (.int .i64 a17.kept))]++Q22)∧RsC z9 ((x0.l.set (Int.toNat x1) ((⟨a17.told,r27.2.2,(⟨[((a17.meter.slots.getD 0 0)),((a17.meter.slots.getD 1 0)),((a17.meter.slots.getD 2 0)),((a17.meter.slots.getD 3 0)),((a17.meter.slots.getD 4 0))],a17.meter.last,a17.meter.total⟩:z4),a17.came,a17.f_until,a17.resting,a17.woken,a17.kept⟩:zc)))) c:=⟨_,rfl,h25 ((⟨a17.told,r27.2.2,(⟨[((a17.meter.slots.getD 0 0)),((a17.meter.slots.getD 1 0)),((a17.meter.slots.getD 2 0)),((a17.meter.slots.getD 3 0)),((a17.meter.slots.getD 4 0))],a17.meter.last,a17.meter.total⟩:z4),a17.came,a17.f_until,a17.resting,a17.woken,a17.kept⟩:zc)) [.v (.p (.string a17.told.Rid)),.v (.p (.int .u32 a17.told.Ssrc)),.v (.p (.int .i64 a17.told.Height)),.own s25_3 (List.map C.v [(.p (.int .i64 r27.2.2.first)),(.p (.int .i64 r27.2.2.last)),(.p (.int .i64 r27.2.2.count)),(.p (.int .u64 r27.2.2.mask))]),.own s25_4 (List.map C.v [(.p (.int .i64 ((a17.meter.slots.getD 0 0)))),(.p (.int .i64 ((a17.meter.slots.getD 1 0)))),(.p (.int .i64 ((a17.meter.slots.getD 2 0)))),(.p (.int .i64 ((a17.meter.slots.getD 3 0)))),(.p (.int .i64 ((a17.meter.slots.getD 4 0)))),(.p (.int .i64 a17.meter.last)),(.p (.int .i64 a17.meter.total))]),.v (.p (.bool a17.came)),.v (.p (.int .i64 a17.f_until)),.v (.p (.bool a17.resting)),.v (.p (.bool a17.woken)),.v (.p (.int .i64 a17.kept))] ⟨s25_3,s25_4,rfl⟩⟩
  have S37:Fm 57 h [⟨l0,o0,[c34]⟩] [(7,(0::0::0::σ),List.map C.v [(.p (.bool x2.Marker)),(.p (.int .i64 x2.f_Type)),(.p (.int .u16 x2.Seq)),(.p (.int .u32 x2.Time)),(.p (.int .u32 x2.Ssrc)),v1,(.p (.int .u16 x2.Profile)),v3,v5])] [] (pts H7 [⟨((l0.hop (o0+0) s19).hop ((Int.toNat x1*10)+3) s25_3),0,List.map C.v [(.p (.int .i64 r27.2.2.first)),(.p (.int .i64 r27.2.2.last)),(.p (.int .i64 r27.2.2.count)),(.p (.int .u64 r27.2.2.mask))]⟩]):=by rw [e35];exact S32
  exact .fin (S37.finN (lC (sI _ _).lv (lC (sB _).lv lN))) ⟨c34,h36,rfl⟩
 refine .nc ?_
 refine .fa ?_
 refine .op ((S32.atF (Foc.arr (Foc.of (i:=0) rfl) (j:=0) rfl h23)).ldOwn (j:=4) rfl) ?_
 refine .call (zb9 k (⟨[((a17.meter.slots.getD 0 0)),((a17.meter.slots.getD 1 0)),((a17.meter.slots.getD 2 0)),((a17.meter.slots.getD 3 0)),((a17.meter.slots.getD 4 0))],a17.meter.last,a17.meter.total⟩:z4) (S32.atF (Foc.own (Foc.arr (Foc.of (i:=0) rfl) (j:=0) rfl h23) (j:=4) rfl)) (IntKind.wrap .i64 (x3+28)) x4) fun r38 cs39 H40 h41 q42=>?_
 cases q42
 have S43:Fm _ _ _ _ _ (pts (pts H7 [⟨((l0.hop (o0+0) s19).hop ((Int.toNat x1*10)+3) s25_3),0,List.map C.v [(.p (.int .i64 r27.2.2.first)),(.p (.int .i64 r27.2.2.last)),(.p (.int .i64 r27.2.2.count)),(.p (.int .u64 r27.2.2.mask))]⟩]) [⟨((l0.hop (o0+0) s19).hop ((Int.toNat x1*10)+4) s25_4),0,List.map C.v [(.p (.int .i64 ((r38.slots.getD 0 0)))),(.p (.int .i64 ((r38.slots.getD 1 0)))),(.p (.int .i64 ((r38.slots.getD 2 0)))),(.p (.int .i64 ((r38.slots.getD 3 0)))),(.p (.int .i64 ((r38.slots.getD 4 0)))),(.p (.int .i64 r38.last)),(.p (.int .i64 r38.total))]⟩]):=S32.setF (Foc.own (Foc.arr (Foc.of (i:=0) rfl) (j:=0) rfl h23) (j:=4) rfl) (cs':=List.map C.v [(.p (.int .i64 ((r38.slots.getD 0 0)))),(.p (.int .i64 ((r38.slots.getD 1 0)))),(.p (.int .i64 ((r38.slots.getD 2 0)))),(.p (.int .i64 ((r38.slots.getD 3 0)))),(.p (.int .i64 ((r38.slots.getD 4 0)))),(.p (.int .i64 r38.last)),(.p (.int .i64 r38.total))]) (by rfl)
 refine .call (zei x4) fun r44 cs45 H46 h47 q48=>?_
 cases q48
 refine .ci ?_
 refine .nc ?_
 refine .fa ?_
 obtain ⟨H49,e50,S51⟩:=S43.stF (Foc.arr (Foc.of (i:=0) rfl) (j:=0) rfl h23) (j:=5) (own:=true) (σ:=(7::0::1::1::1::1::1::1::0::σ)) (x:=(.p (.bool true))) (sB _) rfl
 refine .op (sM e50) ?_
 refine .nc ?_
 refine .fa ?_
 obtain ⟨H52,e53,S54⟩:=S51.stF (Foc.arr (Foc.of (i:=0) rfl) (j:=0) rfl h23) (j:=6) (own:=true) (σ:=(10::0::1::1::1::1::1::1::0::σ)) (x:=(.p (.int .i64 r44))) (sI _ _) rfl
 refine .op (sM e53) ?_
 refine .nc ?_
 refine .fa ?_
 obtain ⟨H55,e56,S57⟩:=S54.stF (Foc.arr (Foc.of (i:=0) rfl) (j:=0) rfl h23) (j:=8) (own:=true) (σ:=(13::0::1::1::1::1::1::1::0::σ)) (x:=(.p (.bool false))) (sB _) rfl
 refine .op (sM e56) ?_
 obtain ⟨c58,e59,h60⟩:∃ c,c=.arr s19 x0.l.length 10 (P20++[.v (.p (.string a17.told.Rid)),.v (.p (.int .u32 a17.told.Ssrc)),.v (.p (.int .i64 a17.told.Height)),.own s25_3 (List.map C.v [(.p (.int .i64 r27.2.2.first)),(.p (.int .i64 r27.2.2.last)),(.p (.int .i64 r27.2.2.count)),(.p (.int .u64 r27.2.2.mask))]),.own s25_4 (List.map C.v [(.p (.int .i64 ((r38.slots.getD 0 0)))),(.p (.int .i64 ((r38.slots.getD 1 0)))),(.p (.int .i64 ((r38.slots.getD 2 0)))),(.p (.int .i64 ((r38.slots.getD 3 0)))),(.p (.int .i64 ((r38.slots.getD 4 0)))),(.p (.int .i64 r38.last)),(.p (.int .i64 r38.total))]),.v (.p (.bool true)),.v (.p (.int .i64 r44)),.v (.p (.bool a17.resting)),.v (.p (.bool false)),.v (.p (.int .i64 a17.kept))]++Q22)∧RsC z9 ((x0.l.set (Int.toNat x1) ((⟨a17.told,r27.2.2,(⟨[((r38.slots.getD 0 0)),((r38.slots.getD 1 0)),((r38.slots.getD 2 0)),((r38.slots.getD 3 0)),((r38.slots.getD 4 0))],r38.last,r38.total⟩:z4),true,r44,a17.resting,false,a17.kept⟩:zc)))) c:=⟨_,rfl,h25 ((⟨a17.told,r27.2.2,(⟨[((r38.slots.getD 0 0)),((r38.slots.getD 1 0)),((r38.slots.getD 2 0)),((r38.slots.getD 3 0)),((r38.slots.getD 4 0))],r38.last,r38.total⟩:z4),true,r44,a17.resting,false,a17.kept⟩:zc)) [.v (.p (.string a17.told.Rid)),.v (.p (.int .u32 a17.told.Ssrc)),.v (.p (.int .i64 a17.told.Height)),.own s25_3 (List.map C.v [(.p (.int .i64 r27.2.2.first)),(.p (.int .i64 r27.2.2.last)),(.p (.int .i64 r27.2.2.count)),(.p (.int .u64 r27.2.2.mask))]),.own s25_4 (List.map C.v [(.p (.int .i64 ((r38.slots.getD 0 0)))),(.p (.int .i64 ((r38.slots.getD 1 0)))),(.p (.int .i64 ((r38.slots.getD 2 0)))),(.p (.int .i64 ((r38.slots.getD 3 0)))),(.p (.int .i64 ((r38.slots.getD 4 0)))),(.p (.int .i64 r38.last)),(.p (.int .i64 r38.total))]),.v (.p (.bool true)),.v (.p (.int .i64 r44)),.v (.p (.bool a17.resting)),.v (.p (.bool false)),.v (.p (.int .i64 a17.kept))] ⟨s25_3,s25_4,rfl⟩⟩
 have S61:Fm 57 h [⟨l0,o0,[c58]⟩] [(7,(0::0::0::σ),List.map C.v [(.p (.bool x2.Marker)),(.p (.int .i64 x2.f_Type)),(.p (.int .u16 x2.Seq)),(.p (.int .u32 x2.Time)),(.p (.int .u32 x2.Ssrc)),v1,(.p (.int .u16 x2.Profile)),v3,v5])] [] H55:=by rw [e59];exact S57
 exact .fin (S61.finN (lC (sI _ _).lv (lC (sB _).lv lN))) ⟨c58,h60,rfl⟩
end
end Go.Ev
