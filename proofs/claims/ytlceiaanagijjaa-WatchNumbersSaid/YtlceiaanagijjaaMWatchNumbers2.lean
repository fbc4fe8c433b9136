/- A part of the proof that follows: the watch keeps to the document in forty scripts and at bounds -/
import Derived.Test.YtlceiaanagijjaaMWatchNumbers1
import Derived.Laws.RangeAny
import Derived.Laws.Runes
import Derived.Shelf.Spec.SlicesInsertGrow
import Derived.Test.YtlceiaanagijjaaRows
import Derived.ProofKit
namespace Go.Ev
def OwnA {α:Type} (D:List Nat) (h:H) (dt:Dt α) (xs:List α) (v:V):Prop:=∃ cs L h1,h=L::h1∧dt.L xs cs∧GrowS D L h1.length v dt.sz xs.length cs
def KillA (D:List Nat) (h h':H):Prop:=∃ L L' h1,h=L::h1∧h'=L'::h1∧L'.length=L.length∧∀ j,j∉D→L'[j]?=L[j]?
theorem OwnA.h {α:Type} {D:List Nat} {h:H} {dt:Dt α} {xs:List α} {v:V} (ho:OwnA D h dt xs v):SlH h dt xs v:=by
 obtain ⟨cs,L,h1,rfl,hl,hg⟩:=ho
 exact ⟨cs,hg.sl,hl⟩
theorem OwnA.refl {α:Type} {D:List Nat} {h:H} {dt:Dt α} {xs:List α} {v:V} (ho:OwnA D h dt xs v):KillA D h h:=by
 obtain ⟨cs,L,h1,rfl,_,_⟩:=ho
 exact ⟨L,L,h1,rfl,rfl,rfl,fun _ _=>rfl⟩
theorem GrowS.copy {D:List Nat} {L:Layer} {h:H} {v:V} {k n:Nat} {xs:List V} (ha:GrowS D L h.length v k n xs) (hD:noLit D=true) {a b m:Nat} (hab:a≤b) (hb:b≤n) {y:V} {ys:List V} (hy:IsSl (L::h) y k m ys) (hs:Stills ys) :
  ∃ L',cpO k (L::h) (subV k v a b) y=some (.p (.int .i64 ((min m (b-a):Nat):Int)),L'::h)∧GrowS D L' h.length v k n (xs.take (a*k)++ys.take (min m (b-a)*k)++xs.drop (a*k+min m (b-a)*k))∧L'.length=L.length∧∀ j,j∉D→L'[j]?=L[j]?:=by
 have hyl:=hy.clen
 by_cases h0:min m (b-a)=0
 ·refine ⟨L,?_,?_,rfl,fun j _=>rfl⟩
  ·have h1:=(ha.sl.sub hab hb).len
   have hsl:isSl (subV k v a b)=true:=by
    rcases ha with ⟨_,_,rfl | rfl⟩ | ⟨_,_,_,_,_,rfl,_⟩ | ⟨rfl,_⟩<;>rfl
   unfold cpO
   rw [h1,Option.bind_some,hy.len,Option.bind_some,hy.cells,Option.bind_some,if_neg (by rw [hyl];simp),if_neg (by rw [hsl];simp),if_pos h0,h0]
   rfl
  ·rw [h0,Nat.zero_mul,List.take_zero,List.append_nil,Nat.add_zero,List.take_append_drop]
   exact ha
 ·rcases ha with ⟨rfl,_,_⟩ | ⟨h2,d',hd',s,tl,rfl,h3⟩ | ⟨_,_,_,hd⟩
  ·omega
  ·generalize hq:min m (b-a)=q at h0 ⊢
   have hlt:=(List.getElem?_eq_some_iff.1 h3).1
   have hqk:q*k≤m*k:=Nat.mul_le_mul_right _ (by omega)
   have hqb:a*k+q*k≤n*k:=by rw [← Nat.add_mul];exact Nat.mul_le_mul_right _ (by omega)
   have hyt:(ys.take (q*k)).length=q*k:=by rw [List.length_take,hyl];omega
   have hst:Stills (ys.take (q*k)):=fun x hx=>hs x (List.mem_of_mem_take hx)
   have hlen:(xs.take (a*k)++ys.take (q*k)++xs.drop (a*k+q*k)).length=n*k:=by
    rw [List.length_append,List.length_append,hyt,List.length_take,List.length_drop];omega
   refine ⟨L.set d' (.arr s n k ((xs.take (a*k)++ys.take (q*k)++xs.drop (a*k+q*k)).map .v)::tl),?_,.inr (.inl ⟨hlen,d',hd',s,tl,rfl,by simp [hlt]⟩),by simp,fun j hj=>?_⟩
   ·unfold cpO
    rw [subV,hy.len,hy.cells]
    simp only [lenOf,Option.bind_some]
    rw [if_neg (by rw [hyl];simp),if_neg (by simp [isSl]),if_neg (by rw [hq];exact h0),if_pos (by simp [eszIs]),hq]
    simp only [cpO.ovO]
    rw [if_neg (by rw [hyt];omega),z22 true (L::h) hst,Option.bind_some,nd_arr h3,Option.bind_some]
    simp only [List.length_map,hyt]
    rw [if_pos (by omega),zad h3,Option.map_some]
    simp [List.map_take,List.map_drop]
   ·rw [List.getElem?_set_ne (fun e=>hj (by rw [← e];exact hd'))]
  ·exact (z6k hD hd).elim
theorem SlF.int1 (k:IntKind) (n:Int):SlF (dI k) [n] (.fz [.p (.int k n)] 1 1 true):=SlF.lit (cs:=[.p (.int k n)]) (RL.cons (show (dI k).R n [.p (.int k n)] from rfl) RL.nil) rfl rfl true
abbrev vOf {α:Type} {d:Dt α} {xs:List α} {v:V} (_:SlF d xs v):V:=v
section
variable {β α γ δ:Type} {Q:β→α→Prop} {x:Option β} {K:δ→Option α}
theorem Sim.ci {k:IntKind} {n:Int} {f:Int→Option δ} (s:Sim x ((f n).bind K) Q):Sim x (((castI k (.p (.int k n))).bind f).bind K) Q:=Sim.op (castI_p _ _) s
theorem Sim.ab {b:Bool} {f:Bool→Option δ} (s:Sim x ((f b).bind K) Q):Sim x (((asB (.p (.bool b))).bind f).bind K) Q:=Sim.op (asB_p _) s
theorem Sim.nc {l:Loc} {o:Nat} {f:V→Option δ} (s:Sim x ((f (.ref l o)).bind K) Q):Sim x (((nilChk (.ref l o)).bind f).bind K) Q:=Sim.op (nilChk_ref _ _) s
theorem Sim.fa {l:Loc} {o k:Nat} {f:V→Option δ} (s:Sim x ((f (.ref l (o+k))).bind K) Q):Sim x (((fA (.ref l o) k).bind f).bind K) Q:=Sim.op (fA_ref _ _ _) s
theorem Sim.or {v:γ} {g:γ→Option δ} (s:Sim x ((g v).bind K) Q):Sim x (((some v).bind g).bind K) Q:=s
theorem Sim.cq {c:Bool} {a b:Option β} {A B:Option δ} (s:Sim a (A.bind K) Q) (t:Sim b (B.bind K) Q):Sim (bif c then a else b) ((bif c then A else B).bind K) Q:=Sim.cd (fun _=>s) (fun _=>t)
theorem Sim.cqk {c:Bool} {a b:Option β} {A B:Option γ} {g:γ→Option δ} (s:Sim a ((A.bind g).bind K) Q) (t:Sim b ((B.bind g).bind K) Q):Sim (bif c then a else b) (((bif c then A else B).bind g).bind K) Q:=Sim.cdk (fun _=>s) (fun _=>t)
end
abbrev Nn (c:C) (k:Nat):Prop:=∀ v,c=.v v→v=.p (.slice none 0 0)∨v=.fz [] 0 k true
end Go.Ev
namespace Go.Ev
def Nq (c:C) (k:Nat):Prop:=c=.v (.p (.slice none 0 0))∨∃ s n ws,c=.arr s (n+1) k ws
def neO {α:Type} (xs:List α):Option Unit:=if xs.isEmpty then none else some ()
theorem Nq.nil {k:Nat}:Nq (.v (.p (.slice none 0 0))) k:=.inl rfl
theorem Nq.nn {c:C} {k:Nat} (h:Nq c k):Nn c k:=fun v e=>by
 rcases h with h | ⟨s,n,ws,h⟩
 ·rw [h] at e;cases e;exact .inl rfl
 ·rw [h] at e;cases e
theorem SlF.nil_len {α:Type} {d:Dt α} {xs:List α} {v:V} (h:SlF d xs v) (hv:v=.p (.slice none 0 0)∨v=.fz [] 0 d.sz true):xs=[]:=by
 obtain ⟨cs,h1,h2⟩:=h
 have h3:=(h1 []).len
 rcases hv with rfl | rfl
 ·exact List.eq_nil_of_length_eq_zero (Option.some.inj h3).symm
 ·exact List.eq_nil_of_length_eq_zero (Option.some.inj h3).symm
theorem Nq.mk {α:Type} {d:Dt α} {xs:List α} {c:C} {k:Nat} {u:Unit} (hS:SoC d xs c) (nt:Nn c k) (hk:d.sz=k) (hne:neO xs=some u):Nq c k:=by
 unfold neO at hne
 rcases hS with ⟨v,rfl,hv⟩ | ⟨s,ws,rfl,_⟩
 ·have:=hv.nil_len (by rw [hk];exact nt v rfl)
  subst this
  cases hne
 ·cases xs with
  | nil=>cases hne
  | cons x xs=>exact .inr ⟨s,xs.length,_,by rw [hk];rfl⟩
section
variable {N:Nat} {h0 Hp:H} {B:List Rt} {Γ:List (Nat×Stamp×List C)} {Δ:List Gw}
theorem Fm.expG (S:Fm N h0 B Γ Δ Hp) {i d:Nat} {s:Stamp} {cs:List C} (hi:Γ[i]?=some (d,s,cs)) (hf:(freeG (Γ.eraseIdx i) d&&freeD Δ d)=true) {frz:Bool} {τ:Stamp} :
  ∃ H',expF frz τ Hp (.ref ⟨h0.length,d,0,s,[]⟩ 0)=some (.own s cs,H')∧Fm N h0 B (Γ.eraseIdx i) Δ H':=by
 have S':Fm N h0 B (Γ.eraseIdx i) Δ Hp:=S.wk (fun _ h=>mem_erase h) (fun _ h=>h)
 obtain ⟨L,rfl,h2,h3,h4,h5⟩:=S
 have h6:=h4 _ (List.mem_of_getElem? hi)
 simp only at h6
 have hlt:=(List.getElem?_eq_some_iff.1 h6).1
 have ht:top (L::pts h0 B)=h0.length:=by simp [top,zj]
 have hr:rootC (L::pts h0 B) ⟨h0.length,d,0,s,[]⟩=some (.own s cs):=by
  simp [rootC,zj,h6]
 have ha:at_ (L::pts h0 B) ⟨h0.length,d,0,s,[]⟩=some (.own s cs):=by
  simp [at_,hr,find,C.node]
 refine ⟨L.set d [.dead]::pts h0 B,?_,z7q S' hf [.dead]⟩
 have hs:setAt (L::pts h0 B) ⟨h0.length,d,0,s,[]⟩ .dead=L.set d [.dead]::pts h0 B:=by
  simp [setAt,hr,repl,z9,zj,h6]
 cases frz<;>simp only [expF,expC,ht,ha,hs,if_true]
theorem Fm.landG (S:Fm N h0 B Γ Δ Hp) {d:Nat} {s:Stamp} {cs:List C} (hd:d<N) (hf:(freeG Γ d&&freeD Δ d)=true) :
  ∃ H',Ev.land Hp (some d) [.own s cs]=(.ref ⟨h0.length,d,0,s,[]⟩ 0,H')∧Fm N h0 B ((d,s,cs)::Γ) Δ H':=by
 refine ⟨_,?_,S.add hd hf⟩
 obtain ⟨L,rfl,_⟩:=S
 simp [Ev.land,resVs,tupV,z3z,top,zj]
end
theorem Dt.setL {α:Type} {d:Dt α} {xs zs:List α} {cs:List V} (q1:d.L xs cs) {k:Int} {old x:α} (ho:ix xs k=some old) (hz:stx xs k x=some zs) {off:Nat} {nv:List V} (hoff:off+nv.length≤d.sz)
  (hx:∀ ws,d.R old ws→d.R x (ws.take off++nv++ws.drop (off+nv.length))):d.L zs (cs.take (k.toNat*d.sz+off)++nv++cs.drop (k.toNat*d.sz+off+nv.length))∧k.toNat*d.sz+off+nv.length≤cs.length:=by
 obtain ⟨⟨hk0,hk1⟩,rfl⟩:=zas hz
 have hcl:=RL.length (fun h=>d.len h) q1
 obtain ⟨_,hix,hold⟩:=z7w ho
 obtain ⟨ws,hR,hw⟩:=RL.get (fun h=>d.len h) q1 hix
 rw [hold] at hR
 have hwl:=d.len hR
 have hin:k.toNat*d.sz+d.sz≤cs.length:=by
  have:=Nat.mul_le_mul_right d.sz (Nat.succ_le_of_lt hix)
  rw [Nat.succ_mul] at this;omega
 refine ⟨?_,by omega⟩
 have:=RL.set (k:=d.sz) (fun h=>d.len h) (i:=k.toNat) (y:=x) q1 hix (hx ws hR)
 have hsplit:cs=cs.take (k.toNat*d.sz)++(ws++cs.drop (k.toNat*d.sz+d.sz)):=by
  rw [← hw,← List.drop_drop,List.take_append_drop,List.take_append_drop]
 have hA:(cs.take (k.toNat*d.sz)).length=k.toNat*d.sz:=by rw [List.length_take];omega
 generalize cs.take (k.toNat*d.sz)=A at hsplit hA this
 generalize cs.drop (k.toNat*d.sz+d.sz)=Bc at hsplit this
 rw [hsplit]
 rw [List.take_append,List.take_append,List.drop_append,List.drop_append,hA,hwl]
 rw [List.take_of_length_le (l:=A) (by omega),List.drop_of_length_le (l:=A) (by omega)]
 have t1:k.toNat*d.sz+off-k.toNat*d.sz=off:=by omega
 have t2:k.toNat*d.sz+off+nv.length-k.toNat*d.sz=off+nv.length:=by omega
 have t3:off-d.sz=0:=by omega
 have t4:off+nv.length-d.sz=0:=by omega
 rw [t1,t2,t3,t4,List.take_zero,List.drop_zero,List.append_nil,List.nil_append]
 simp only [List.append_assoc] at this ⊢
 exact this
theorem Dt.whole {α:Type} {d:Dt α} {old x:α} {nv:List V} {n:Nat} (hR:d.R x nv) (hn:d.sz=n):∀ ws,d.R old ws→d.R x (ws.take 0++nv++ws.drop (0+n)):=fun ws hw=>by
 have:=d.len hw
 rw [List.take_zero,List.nil_append,Nat.zero_add,List.drop_of_length_le (by omega),List.append_nil]
 exact hR
theorem zdo {Hp:H} {l:Loc} {off0 j:Nat} {cs0:List C} {c:C} {α:Type} {d:Dt α} {xs zs:List α} {own:Bool} {σ:Stamp} {k:Int} {old x:α} {nv:List V} {xv:V} {n e off:Nat} (ha:AtC Hp l off0 cs0) (hj:cs0[j]?=some c) (hS:SoC d xs c) (nt:Nn c e)
  (ho:ix xs k=some old) (hz:stx xs k x=some zs) (he:d.sz=e) (hn:nv.length=n) (hoff:off+n≤e) (hst:StN xv nv) (hx:∀ ws,d.R old ws→d.R x (ws.take off++nv++ws.drop (off+n))) :
  ∃ c',stO own n σ Hp (adr (cellV l (off0+j) c) (k.toNat*e+off)) xv=some (ptC Hp l off0 (cs0.set j c'))∧SoC d zs c'∧Nq c' e:=by
 subst he;subst hn
 obtain ⟨⟨hk0,hk1⟩,hzs⟩:=zas hz
 rcases hS with ⟨v,rfl,hv⟩ | ⟨s,ws,rfl,hl⟩
 ·have:=hv.nil_len (nt v rfl)
  subst this
  simp only [List.length_nil] at hk1;omega
 ·obtain ⟨hL,hle⟩:=Dt.setL hl ho hz hoff hx
  have hA:=ha.hop hj (s:=s) (ds:=ws.map .v) (by simp [C.node])
  obtain ⟨p,q,hnd,hp⟩:=hA
  have hp0:p=[]:=List.eq_nil_of_length_eq_zero hp
  subst hp0
  have e1:=hst own σ Hp (l.hop (off0+j) s) _ (k.toNat*d.sz+off) hnd (by simp only [List.nil_append,List.length_append,List.length_map];omega)
  have hlen:(ws.take (k.toNat*d.sz+off)++nv++ws.drop (k.toNat*d.sz+off+nv.length)).length=ws.length:=by
   simp only [List.length_append,List.length_take,List.length_drop];omega
  have hpt:=ha.hop_pt hj (s:=s) (ds:=ws.map .v) (ds':=(ws.take (k.toNat*d.sz+off)++nv++ws.drop (k.toNat*d.sz+off+nv.length)).map .v) (by simp [C.node]) (by simp only [List.length_map];exact hlen)
  refine ⟨.arr s xs.length d.sz ((ws.take (k.toNat*d.sz+off)++nv++ws.drop (k.toNat*d.sz+off+nv.length)).map .v),?_,.inr ⟨s,_,?_,hL⟩,?_⟩
  ·show stO own nv.length σ Hp (.ref (l.hop (off0+j) s) (0+(k.toNat*d.sz+off))) xv=_
   rw [Nat.zero_add,e1]
   congr 1
   refine Eq.trans ?_ hpt
   rw [ptC_eq (off:=0) (p:=[]) (cs:=ws.map .v) (cs':=(ws.take (k.toNat*d.sz+off)++nv++ws.drop (k.toNat*d.sz+off+nv.length)).map .v) hnd rfl (by simp only [List.length_map];exact hlen)]
   congr 1
   simp only [List.nil_append,List.map_append,List.map_take,List.map_drop]
   rw [List.take_append_of_le_length (by simp only [List.length_map];omega),List.drop_append_of_le_length (by simp only [List.length_map];omega)]
   simp only [List.append_assoc]
  ·rw [hzs,List.length_set]
  ·obtain ⟨m,hm⟩:∃ m,xs.length=m+1:=⟨xs.length-1,by omega⟩
   exact .inr ⟨s,m,_,by rw [hm]⟩
section
variable {N:Nat} {h0 Hp:H} {B:List Rt} {Γ:List (Nat×Stamp×List C)} {Δ:List Gw}
theorem Fm.seB (S:Fm N h0 B Γ Δ Hp) {i off0 j:Nat} {l:Loc} {cs0:List C} {c:C} {α:Type} {d:Dt α} {xs zs:List α} {own:Bool} {σ:Stamp} {k:Int} {old x:α} {nv:List V} {xv:V} {n e off:Nat} (hi:B[i]?=some ⟨l,off0,cs0⟩) (hj:cs0[j]?=some c) (hS:SoC d xs c) (nt:Nn c e)
  (ho:ix xs k=some old) (hz:stx xs k x=some zs) (he:d.sz=e) (hn:nv.length=n) (hoff:off+n≤e) (hst:StN xv nv) (hx:∀ ws,d.R old ws→d.R x (ws.take off++nv++ws.drop (off+n))) :
  ∃ c' H',stO own n σ Hp (adr (cellV l (off0+j) c) (k.toNat*e+off)) xv=some H'∧SoC d zs c'∧Nq c' e∧Fm N h0 (B.set i ⟨l,off0,cs0.set j c'⟩) Γ Δ H':=by
 obtain ⟨c',e1,h1,h2⟩:=zdo (own:=own) (σ:=σ) (S.atB hi) hj hS nt ho hz he hn hoff hst hx
 exact ⟨c',_,e1,h1,h2,S.setB hi (by simp)⟩
end
end Go.Ev
namespace Go.Ev
theorem lo_nil {H:Ev.H}:layCs true H []=some (([]:List C),H):=rfl
theorem lo_ow {H H1 H':Ev.H} {x:V} {c:C} {xs:List V} {cs:List C} (hx:layC true H x=some (c,H1)) (t:layCs true H1 xs=some (cs,H')):layCs true H (x::xs)=some (c::cs,H'):=by
 simp only [layCs,hx,Option.bind_some,t]
section
variable {N:Nat} {h0 Hp:H} {B:List Rt} {Γ:List (Nat×Stamp×List C)} {Δ:List Gw}
theorem Fm.layO (S:Fm N h0 B Γ Δ Hp) {k:Nat} {g:Gw} (hk:Δ[k]?=some g) (hD:noLit g.D=true) (hf:freeL g.D Γ (Δ.eraseIdx k)=true) :
  ∃ c H1,layC true Hp g.v=some (c,H1)∧SoC g.d g.xs c∧Nn c g.d.sz∧Fm N h0 B Γ (Δ.eraseIdx k) H1:=by
 have S':Fm N h0 B Γ (Δ.eraseIdx k) Hp:=S.wk (fun _ h=>h) (fun _ h=>mem_erase h)
 obtain ⟨L,rfl,h2,h3,h4,h5⟩:=S
 obtain ⟨ws,q1,q2⟩:=h5 g (List.mem_of_getElem? hk)
 rcases q2 with ⟨e1,e2,e3⟩ | ⟨q2,d',hd',s,tl,hv,h6⟩ | ⟨_,_,_,hd⟩
 ·have o:OwnS (.v g.v) g.d.sz g.xs.length ws:=⟨by rw [e1,e2];simp,.inl ⟨e1,e2,by rcases e3 with e | e<;>rw [e]<;>simp⟩⟩
  refine ⟨.v g.v,_,?_,SoC.own o q1,fun v hv=>?_,S'⟩
  ·rcases e3 with e | e<;>rw [e]<;>rfl
  ·cases hv;exact e3
 ·have hr:rootC (L::pts h0 B) ⟨h0.length,d',0,s,[]⟩=some (.arr s g.xs.length g.d.sz (ws.map .v)):=by simp [rootC,zj,h6]
  have hs:z9 (L::pts h0 B) ⟨h0.length,d',0,s,[]⟩ .dead=L.set d' (.dead::tl)::pts h0 B:=by simp [z9,zj,h6]
  have o:OwnS (.arr s g.xs.length g.d.sz (ws.map .v)) g.d.sz g.xs.length ws:=⟨q2,.inr ⟨s,rfl⟩⟩
  refine ⟨_,L.set d' (.dead::tl)::pts h0 B,?_,SoC.own o q1,?_,z7q S' (z9s hf hd') (.dead::tl)⟩
  ·rw [hv];simp [layC,zj,hr,hs]
  ·intro v hv;cases hv
 ·exact (z6k hD hd).elim
theorem Fm.boxL {H1:Ev.H} (S:Fm N h0 B Γ Δ H1) {d:Nat} {s:Stamp} {xs:List V} {cs:List C} (e:layCs true Hp xs=some (cs,H1)) (hd:d<N) (hf:(freeG Γ d&&freeD Δ d)=true) :
  ∃ H',boxO true s d Hp (.agg xs)=some (.ref ⟨h0.length,d,0,s,[]⟩ 0,H')∧Fm N h0 B ((d,s,cs)::Γ) Δ H' :=
 ⟨_,by unfold boxO;rw [show (V.agg xs).cells=xs from rfl,e];simp only [Option.bind_some];rw [S.newLoc],S.add hd hf⟩
end
end Go.Ev
namespace Go.Ev
def SlU {α:Type} (m:Nat) (h:H) (d:Dt α) (xs:List α) (v:V):Prop:=m≤h.length∧SlH (h.drop (h.length-m)) d xs v
theorem SlH.ups {α:Type} {d:Dt α} {xs:List α} {v:V}:∀ (k:Nat) {h:H},SlH (h.drop k) d xs v→SlH h d xs v
 | 0,_,hv=>hv
 | k+1,[],hv=>by simpa using hv
 | k+1,L::h,hv=>by
  obtain ⟨cs,q1,q2⟩:=SlH.ups k (h:=h) (by simpa using hv)
  exact ⟨cs,q1.up L,q2⟩
theorem SlU.sl {α:Type} {m:Nat} {h:H} {d:Dt α} {xs:List α} {v:V} (hu:SlU m h d xs v):SlH h d xs v:=SlH.ups _ hu.2
theorem SlH.cells {α:Type} {h:H} {d:Dt α} {xs:List α} {v:V} (hv:SlH h d xs v):v.cells=[v]:=by
 obtain ⟨cs,q1,_⟩:=hv
 rcases q1.cases with ⟨rfl,_,_⟩ | ⟨t,rfl⟩ | ⟨l,off,av,ds,rfl,_⟩<;>rfl
section
variable {N:Nat} {h0 Hp:H} {B:List Rt} {Γ:List (Nat×Stamp×List C)} {Δ:List Gw} {α:Type} {d:Dt α} {xs:List α} {v:V} {m:Nat}
end
end Go.Ev
namespace Go.Ev
def WL (l:Loc) (off:Nat) {α:Type} (d:Dt α) (xs:List α) (v:V) (cs:List C):Prop:=∃ ws a,cs=ws.map .v∧d.L xs ws∧v=.sl l off xs.length a d.sz∧xs.length≤a
theorem WL.len {l:Loc} {off:Nat} {α:Type} {d:Dt α} {xs:List α} {v:V} {cs:List C} (h:WL l off d xs v cs):cs.length=xs.length*d.sz:=by
 obtain ⟨ws,a,rfl,h2,_⟩:=h
 rw [List.length_map];exact RL.length (fun h=>d.len h) h2
theorem WL.same {l:Loc} {off:Nat} {α:Type} {d:Dt α} {xs ys:List α} {v:V} {cs cs':List C} (h:WL l off d xs v cs) (h':WL l off d ys v cs'):cs'.length=cs.length:=by
 rw [h.len,h'.len]
 obtain ⟨_,_,_,_,e,_⟩:=h
 obtain ⟨_,_,_,_,e',_⟩:=h'
 rw [e] at e'
 injection e' with _ _ e1
 rw [e1]
theorem WL.sl {H:Ev.H} {l:Loc} {off:Nat} {α:Type} {d:Dt α} {xs:List α} {v:V} {cs:List C} (ha:AtC H l off cs) (h:WL l off d xs v cs):SlH H d xs v:=by
 have hlen:=h.len
 obtain ⟨ws,a,rfl,h2,rfl,h4⟩:=h
 obtain ⟨p,q,hn,hp⟩:=ha
 refine ⟨ws,.mk_sl hn (by simp only [List.length_append,hlen];omega) ?_ h4,h2⟩
 rw [← hlen,← hp,List.append_assoc,List.drop_left,List.take_left,z3q]
def KN (v:V) (l:Loc):Prop:=∀ l' o n a e,v=.sl l' o n a e→l'.key≠l.key
section
variable {N:Nat} {h0 Hp:H} {B:List Rt} {Γ:List (Nat×Stamp×List C)} {Δ:List Gw} {α:Type} {d:Dt α} {xs zs:List α} {v:V}
theorem KN.key {l l':Loc} (hk:KN v l) (he:l'.key=l.key):KN v l':=fun _ _ _ _ _ hv=>by rw [he];exact hk _ _ _ _ _ hv
theorem KN.frz (hv:SlF d xs v) {l:Loc}:KN v l:=fun l' o n a e hv'=>by
 subst hv'
 obtain ⟨ws,q1,_⟩:=hv
 rcases (q1 []).cases with ⟨h,_,_⟩ | ⟨t,h⟩ | ⟨l2,off,av,ds,h,hn,_⟩
 ·cases h
 ·cases h
 ·have:=nd_lt hn
  simp at this
end
end Go.Ev
namespace Go.Ev
section
variable {N:Nat} {h0 Hp:H} {B:List Rt} {Γ:List (Nat×Stamp×List C)} {Δ:List Gw} {α:Type} {d:Dt α} {xs zs:List α} {v:V}
end
end Go.Ev
namespace Go.Ev
section
variable {N:Nat} {h0 Hp:H} {B:List Rt} {Γ:List (Nat×Stamp×List C)} {Δ:List Gw}
end
end Go.Ev
namespace Go.Ev
section
variable {N:Nat} {h0 Hp:H} {B:List Rt} {Γ:List (Nat×Stamp×List C)} {Δ:List Gw}
end
end Go.Ev
namespace Go.Ev
section
variable {N:Nat} {h0 Hp:H} {B:List Rt} {Γ:List (Nat×Stamp×List C)} {Δ:List Gw}
end
end Go.Ev
namespace Go.Ev
section
variable {N:Nat} {h0 Hp:H} {B:List Rt} {Γ:List (Nat×Stamp×List C)} {Δ:List Gw}
theorem zbj {s:Stamp} {cs:List C}:(C.own s cs).node s=some cs:=by simp [C.node]
theorem AtC.sub {h:H} {l:Loc} {off j:Nat} {cs ds:List C} {s:Stamp} (ha:AtC h l off cs) (hj:cs[j]?=some (.own s ds)):AtC h (l.hop (off+j) s) 0 ds:=ha.hop hj zbj
end
end Go.Ev
namespace Go.Ev
open Go.RowKit (Below)
set_option linter.unusedVariables false

theorem SimN.below {ι:Inj} {B:Nat} {w w':World} {ns:Nodes} (h:SimN ι B w.heap ns) (hb:Below w.heap.size w w'):SimN ι B w'.heap ns:=by
 refine ⟨h.nodup,fun s cs hm p hp=>?_,h.inj,fun b f hf=>?_,h.apart,h.nwb⟩
 ·obtain ⟨a1,c1,e1,a2,a3⟩:=h.lie s cs hm p hp
  exact ⟨a1,c1,e1,by rw [hb.block _ (Array.getElem?_eq_some_iff.1 a2).1];exact a2,a3⟩
 ·obtain ⟨c,e,fr,k1,k2⟩:=h.frz b f hf
  exact ⟨c,e,fr,by rw [hb.block _ (Array.getElem?_eq_some_iff.1 k1).1];exact k1,k2⟩
end Go.Ev
namespace Go.Ev
open Go.RowKit (Below)
open Go.Proofs
set_option linter.unusedVariables false

structure InsOk (G:Cfg) (f k bys:Nat) (own:Bool):Prop where
 fn : ∃ fn, G.P.funcs[f]? = some fn ∧ (fn.name == "runtime.NumGoroutine") = false ∧ fn.body.isNone = false
 shift:∀ (b off n c i vb voff m vc:Nat) (cs vs:List Value) (w:World),i<n→0<m→n+m≤c→n+m≤9223372036854775807→vb≠b→cs.length=n*k→vs.length=m*k →
  (∀ j v,cs[j]?=some v→w.cell? ⟨b,off+j,none⟩=some v)→(∀ j,j<(n+m)*k→(w.cell? ⟨b,off+j,none⟩).isSome=true)→(∀ j,w.frozen? ⟨b,j,none⟩=false) →
  (∀ j v,vs[j]?=some v→w.cell? ⟨vb,voff+j,none⟩=some v)→(∀ v∈cs,v.oneCell'=true)→(∀ v∈vs,v.oneCell'=true) →
  ∀ (tA tB:TypeId) (kA kB:Nat),w.shape? vb=some (tA,kA)→w.shape? b=some (tB,kB)→kA≠0→kB≠0 →
  Calls G.P f #[.slice (some ⟨b,off,none⟩) n c,.int .i64 i,.slice (some ⟨vb,voff,none⟩) m vc] w fun e w' =>
   e=.returned (.slice (some ⟨b,off,none⟩) (n+m) c)∧w'=(w.drew.setCells b (off+(i+m)*k) (cs.drop (i*k))).setCells b (off+i*k) vs
 grow:∀ (b off n c i vb voff m vc:Nat) (cs vs:List Value) (w:World),i<n→0<m→n≤c→c<n+m→(n+m)*bys≤140737488355328→cs.length=n*k→vs.length=m*k →
  (∀ j v,cs[j]?=some v→w.cell? ⟨b,off+j,none⟩=some v) →
  (∀ j v,vs[j]?=some v→w.cell? ⟨vb,voff+j,none⟩=some v)→(∀ v∈cs,v.oneCell'=true)→(∀ v∈vs,v.oneCell'=true) →
  Calls G.P f #[.slice (some ⟨b,off,none⟩) n c,.int .i64 i,.slice (some ⟨vb,voff,none⟩) m vc] w fun e w'=>∃ (g:Nat) (z z':Array Value) (ety:TypeId),n+m≤g∧z.size=(n+m-i)*k∧z'.size=(g-(n+m))*k ∧
   e=.returned (.slice (some ⟨w.heap.size,0,none⟩) (n+m) g) ∧
   w'=(((w.alloc (.cells ((cs.take (i*k)).toArray++z++z') ety)).drew.setCells w.heap.size (i*k) vs).drew).setCells w.heap.size ((i+m)*k) (cs.drop (i*k))
 tail:∃ t ty,(∀ σ d h x y,z7p G σ d h t t x y=apO own k bys σ d h x y) ∧
  (∀ (vb vo m vc:Nat) (r:Value) (w w':World),0<m→(Builtin.append_ #[t,t] ty #[.slice none 0 0,.slice (some ⟨vb,vo,none⟩) m vc]).run G.P w=.ok r w' →
   Calls G.P f #[.slice none 0 0,.int .i64 0,.slice (some ⟨vb,vo,none⟩) m vc] w fun e w2=>e=.returned r∧w2=w') ∧
  (∀ (a:Addr) (n c vb vo m vc:Nat) (r:Value) (w w':World),0<m→n≤c→(Builtin.append_ #[t,t] ty #[.slice (some a) n c,.slice (some ⟨vb,vo,none⟩) m vc]).run G.P w=.ok r w' →
   Calls G.P f #[.slice (some a) n c,.int .i64 n,.slice (some ⟨vb,vo,none⟩) m vc] w fun e w2=>e=.returned r∧w2=w')
end Go.Ev
namespace Go.Ev
set_option linter.unusedVariables false
section
variable {N:Nat} {h0 Hp:H} {B:List Rt} {Γ:List (Nat×Stamp×List C)} {Δ:List Gw}
end
end Go.Ev
namespace Go.Ev
set_option linter.unusedVariables false
section
variable {G:Cfg} {X:CallF} {c:Code} {lv:Lv} {own:Bool} {e N D7 D28 f:Nat} {z:List V} {caps:List V} {α:Type} {dt:Dt α} {p:α→Option Bool} {Hp:H} {LL:Loc} {v:V}
end
section
variable {G:Cfg} {X:CallF} {c:Code} {lv:Lv} {own:Bool} {e M D7 D28 f:Nat} {z:List V} {caps:List V} {α:Type} {dt:Dt α} {p:α→Option Bool}
variable {N:Nat} {h0 Hp:H} {B:List Rt} {Γ:List (Nat×Stamp×List C)} {Δ:List Gw}
end
end Go.Ev
namespace Go.Ev
set_option linter.unusedVariables false
set_option linter.unusedSimpArgs false
structure Ct (α:Type) where
 sz:Nat
 R:α→List C→Prop
 len:∀ {a cs},R a cs→cs.length=sz
theorem RL.split {α β:Type} {R:α→List β→Prop} {k:Nat} (hk:∀ {a vs},R a vs→vs.length=k) {xs:List α} {ds:List β} (h:RL R xs ds) {i:Nat} (hi:i<xs.length) :
  ∃ P ws Q,ds=P++ws++Q∧P.length=i*k∧R xs[i] ws∧∀ x' ws',R x' ws'→RL R (xs.set i x') (P++ws'++Q):=by
 obtain ⟨ws,h1,h2⟩:=RL.get hk h hi
 have hl:=RL.length hk h
 have hm:(i+1)*k≤xs.length*k:=Nat.mul_le_mul_right k hi
 rw [Nat.succ_mul] at hm
 refine ⟨ds.take (i*k),ws,ds.drop (i*k+k),?_,by rw [List.length_take];omega,h1,fun x' ws' hR=>RL.set hk h hi hR⟩
 rw [← h2,List.append_assoc,← List.drop_drop,List.take_append_drop,List.take_append_drop]
def RsC {α:Type} (d:Ct α) (xs:List α) (c:C):Prop :=
 (xs=[]∧(c=.v (.p (.slice none 0 0))∨c=.v (.fz [] 0 d.sz true)))∨∃ s ds,c=.arr s xs.length d.sz ds∧RL d.R xs ds
def RsH {α:Type} (h:H) (d:Ct α) (xs:List α) (v:V):Prop :=
 (xs=[]∧(v=.p (.slice none 0 0)∨v=.fz [] 0 d.sz true))∨∃ l ds,v=.sl l 0 xs.length xs.length d.sz∧nd h l=some ds∧RL d.R xs ds
section
variable {α:Type} {h:H} {l:Loc} {off j:Nat} {cs:List C} {c:C} {d:Ct α} {xs:List α} {v:V}
theorem RsC.nil:RsC d [] (.v (.p (.slice none 0 0))):=.inl ⟨rfl,.inl rfl⟩
theorem RsC.ld (hc:RsC d xs c) (ha:AtC h l off cs) (hj:cs[j]?=some c):ldO false 1 h (.ref l (off+j))=some (cellV l (off+j) c):=by
 rcases hc with ⟨_,rfl | rfl⟩ | ⟨s,ds,rfl,_⟩<;>exact ha.ldC hj rfl
theorem z8m {s:Stamp} {n e:Nat} {ds:List C}:(C.arr s n e ds).node s=some ds:=by simp [C.node]
theorem AtC.hopN (ha:AtC h l off cs) {s:Stamp} {ds:List C} (hj:cs[j]?=some c) (hd:c.node s=some ds):nd h (l.hop (off+j) s)=some ds:=by
 obtain ⟨p,q,hn,hp⟩:=ha
 exact nd_in hn (c:=c) (by rw [zc5 hp (List.getElem?_eq_some_iff.1 hj).1,hj]) hd
theorem RsC.len (hc:RsC d xs c) (l:Loc) (o:Nat):lenO (cellV l o c)=some (.p (.int .i64 xs.length)):=by
 rcases hc with ⟨rfl,rfl | rfl⟩ | ⟨s,ds,rfl,hl⟩<;>rfl
theorem RsH.len (hv:RsH h d xs v):lenO v=some (.p (.int .i64 xs.length)):=by
 rcases hv with ⟨rfl,rfl | rfl⟩ | ⟨s,ds,rfl,_⟩<;>rfl
theorem RsH.up (hv:RsH h d xs v) (L:Layer):RsH (L::h) d xs v:=by
 rcases hv with hv | ⟨l,ds,rfl,hn,hl⟩
 ·exact .inl hv
 ·exact .inr ⟨l,ds,rfl,nd_up hn L,hl⟩
theorem RsH.el (hv:RsH h d xs v) {i:Int} {x:α} (hx:ix xs i=some x) {e:Nat} (he:d.sz=e):∃ l ws,iS e v i=some (.ref l (i.toNat*e))∧d.R x ws∧AtC h l (i.toNat*e) ws:=by
 subst he
 obtain ⟨h0,hi,rfl⟩:=z7w hx
 rcases hv with ⟨rfl,_⟩ | ⟨l,ds,rfl,hn,hl⟩
 ·simp at hi
 ·obtain ⟨P,ws,Q,rfl,hP,hR,_⟩:=hl.split (fun h=>d.len h) hi
  refine ⟨l,ws,?_,hR,P,Q,hn,hP⟩
  simp only [iS]
  rw [if_pos ⟨trivial,h0,by omega⟩,Nat.zero_add]
theorem AtC.elem {s:Stamp} {n e k:Nat} {P ws Q:List C} (ha:AtC h l off cs) (hj:cs[j]?=some (.arr s n e (P++ws++Q))) (hP:P.length=k):AtC h (l.hop (off+j) s) k ws :=
 ⟨P,Q,ha.hopN hj z8m,hP⟩
end
def Foc (N:Nat) (h0:H) (B:List Rt) (l:Loc) (off:Nat) (cs:List C) (B':List C→List Rt):Prop :=
 ∀ {Γ:List (Nat×Stamp×List C)} {Δ:List Gw} {Hp:H},Fm N h0 B Γ Δ Hp→(AtC Hp l off cs∧l.lvl<h0.length)∧∀ cs',cs'.length=cs.length→Fm N h0 (B' cs') Γ Δ (ptC Hp l off cs')
section
variable {N:Nat} {h0 Hp:H} {B:List Rt} {Γ:List (Nat×Stamp×List C)} {Δ:List Gw} {l:Loc} {off j:Nat} {cs:List C} {B':List C→List Rt}
theorem Foc.arr (F:Foc N h0 B l off cs B') {s:Stamp} {n e k:Nat} {P ws Q:List C} (hj:cs[j]?=some (.arr s n e (P++ws++Q))) (hP:P.length=k) :
  Foc N h0 B (l.hop (off+j) s) k ws (fun ws'=>B' (cs.set j (.arr s n e (P++ws'++Q)))):=fun {Γ Δ Hp} S=>by
 obtain ⟨⟨ha,hlv⟩,hs⟩:=F S
 refine ⟨⟨ha.elem hj hP,hlv⟩,fun ws' hl=>?_⟩
 have h1:AtC Hp (l.hop (off+j) s) 0 (P++ws++Q):=ha.hop hj z8m
 have h2:ptC Hp (l.hop (off+j) s) k ws'=ptC Hp (l.hop (off+j) s) 0 (P++ws'++Q):=by
  have:=h1.seg_pt (j:=k) (m:=ws.length) (ds:=ws') (by simp;omega) hl
  rw [Nat.zero_add] at this
  rw [this,← hP]
  congr 2
  ·rw [List.append_assoc P,List.take_left'];rfl
  ·rw [← List.drop_drop,List.append_assoc,List.drop_left,List.drop_left]
 rw [h2,ha.hop_pt hj (ds':=P++ws'++Q) z8m (by simp [hl])]
 exact hs _ (by simp)
theorem Foc.own (F:Foc N h0 B l off cs B') {s:Stamp} {ds:List C} (hj:cs[j]?=some (.own s ds)) :
  Foc N h0 B (l.hop (off+j) s) 0 ds (fun ds'=>B' (cs.set j (.own s ds'))):=fun {Γ Δ Hp} S=>by
 obtain ⟨⟨ha,hlv⟩,hs⟩:=F S
 refine ⟨⟨ha.sub hj,hlv⟩,fun ds' hl=>?_⟩
 rw [ha.hop_pt hj (ds':=ds') zbj hl]
 exact hs _ (by simp)
end
section
variable {h:H} {l:Loc} {off j:Nat} {cs:List C}
def Low (x:V):Prop:=∀ own H,layC own H x=some (.v x,H)
theorem Still.low {x:V} (h:Still x):Low x:=fun own H=>h.lay own H
theorem Low.hop (l:Loc) (o:Nat) (s:Stamp):Low (.ref (l.hop o s) 0):=fun own H=>by
 simp [layC,Loc.hop]
end
section
variable {N:Nat} {h0 Hp:H} {B:List Rt} {Γ:List (Nat×Stamp×List C)} {Δ:List Gw}
end
end Go.Ev
namespace Go.Ev
end Go.Ev
namespace Go.Ev
end Go.Ev
namespace Go.Ev
theorem FrCs.vals {l:Loc}:∀ {cs:List C} {ys:List V} (o:Nat),FrCs cs ys→∃ xs,toVs l o cs=some xs∧∀ H,layCs true H xs=some (xs.map .v,H)
 | [],[],_,_=>⟨[],rfl,fun _=>rfl⟩
 | c::cs,y::ys,o,⟨h1,h2⟩=>by
  obtain ⟨xs,q1,q2⟩:=FrCs.vals (l:=l) (o+1) h2
  have hc:∃ x,toV l o c=some x∧∀ H,layC true H x=some (.v x,H):=by
   rcases h1 with ⟨rfl,hs⟩ | ⟨s,n,k,ws,rfl,_,rfl⟩
   ·exact ⟨y,rfl,fun H=>hs.lay true H⟩
   ·exact ⟨_,rfl,fun H=>by simp [layC,Loc.hop]⟩
  obtain ⟨x,e1,e2⟩:=hc
  refine ⟨x::xs,by simp only [toVs,e1,Option.bind_some,q1],fun H=>?_⟩
  simp only [layCs,e2,Option.bind_some,q2,List.map_cons]
 | [],_::_,_,h=>by cases h
 | _::_,[],_,h=>by cases h
section
variable {N:Nat} {h0 Hp:H} {B:List Rt} {Γ:List (Nat×Stamp×List C)} {Δ:List Gw}
end
end Go.Ev
namespace Go.Ev
section
variable {α β γ δ:Type} {x:Option β} {Q:β→α→Prop} {K:δ→Option α}
theorem Sim.asT {A B:Option γ} {g:γ→Option δ} (s:Sim x (A.bind fun v=>(g v).bind K) Q):Sim x (((bif true then A else B).bind g).bind K) Q:=Sim.as s
theorem Sim.asF {A B:Option γ} {g:γ→Option δ} (s:Sim x (B.bind fun v=>(g v).bind K) Q):Sim x (((bif false then A else B).bind g).bind K) Q:=Sim.as s
end
end Go.Ev
namespace Go.Ev
set_option linter.unusedVariables false
structure z6 where
 Kind:Int
 I:Int
 Now:Int
def z6.tp (x:z6):(Int×(Int×(Int×Unit))):=(x.Kind,(x.I,(x.Now,())))
def zm:Dt z6:=(dP (dI .i64) (dP (dI .i64) (dP (dI .i64) dU))).via z6.tp
theorem zm.inv {x:z6} {vs:List V} (h:zm.R x vs):vs=[.p (.int .i64 x.Kind),.p (.int .i64 x.I),.p (.int .i64 x.Now)]:=by
 obtain ⟨u0,w0,e0,h0,u1,w1,e1,h1,u2,w2,e2,h2,hend⟩:=h
 obtain rfl:u0=[.p (.int .i64 x.Kind)]:=h0
 obtain rfl:u1=[.p (.int .i64 x.I)]:=h1
 obtain rfl:u2=[.p (.int .i64 x.Now)]:=h2
 obtain rfl:=(show _=[] from hend)
 subst e2
 subst e1
 subst e0
 rfl
theorem zm.mk {y_Kind:Int} {y_I:Int} {y_Now:Int} :zm.R (⟨y_Kind,y_I,y_Now⟩:z6) [.p (.int .i64 y_Kind),.p (.int .i64 y_I),.p (.int .i64 y_Now)]:=⟨[.p (.int .i64 y_Kind)],[.p (.int .i64 y_I),.p (.int .i64 y_Now)],rfl,rfl,⟨[.p (.int .i64 y_I)],[.p (.int .i64 y_Now)],rfl,rfl,⟨[.p (.int .i64 y_Now)],[],rfl,rfl,rfl⟩⟩⟩
structure ze where
 f_At:(List Int)
 R:(List Bool)
def ze.tp (x:ze):((List Int)×((List Bool)×Unit)):=(x.f_At,(x.R,()))
structure zo where
 seen:Int
 rest:Bool
def zo.tp (x:zo):(Int×(Bool×Unit)):=(x.seen,(x.rest,()))
def z7:Dt zo:=(dP (dI .i64) (dP dB dU)).via zo.tp
theorem z7.inv {x:zo} {vs:List V} (h:z7.R x vs):vs=[.p (.int .i64 x.seen),.p (.bool x.rest)]:=by
 obtain ⟨u0,w0,e0,h0,u1,w1,e1,h1,hend⟩:=h
 obtain rfl:u0=[.p (.int .i64 x.seen)]:=h0
 obtain rfl:u1=[.p (.bool x.rest)]:=h1
 obtain rfl:=(show _=[] from hend)
 subst e1
 subst e0
 rfl
theorem z7.mk {y_seen:Int} {y_rest:Bool} :z7.R (⟨y_seen,y_rest⟩:zo) [.p (.int .i64 y_seen),.p (.bool y_rest)]:=⟨[.p (.int .i64 y_seen)],[.p (.bool y_rest)],rfl,rfl,⟨[.p (.bool y_rest)],[],rfl,rfl,rfl⟩⟩
structure z8 where
 l:(List zo)
def z8.tp (x:z8):((List zo)×Unit):=(x.l,())
end Go.Ev
namespace Go.Ev
open Go.Proofs
def ownT:TypeId→Bool:=fun t=>[67,70,80].contains t
def frzF:FuncId→Bool:=fun f=>[23,45,28].contains f
def frzIn:FuncId→Bool:=fun f=>[].contains f
def frzMk:TypeId→Bool:=fun t=>[].contains t
noncomputable def G:Cfg:=⟨Try.prog,ownT,frzF,frzIn,frzMk⟩
noncomputable def X0:CallF:=fun _ _ _ _=>none
theorem x_ok (B:Nat):CallOk G B X0:=no_ext B
theorem mixed:G.P.follows .mixedOrders=true:=by kernel_rfl
end Go.Ev
namespace Go.Ev
open Go.Proofs
set_option linter.unusedVariables false
set_option linter.unusedSimpArgs false
set_option maxRecDepth 100000
noncomputable section
abbrev KT1:=Exit→Env→H→Option (List C × H)
variable (rec : CallF) (loop : LoopV) (σ : Stamp)
def z1k:Code:=(codeAt (bodyOf Try.f7) [1,0,1,0,0])
def z1n:Lv:=⟨0,1,[(0,0)]⟩
def z2h:KT1:=(kBlock 0 (kSeq G rec loop (codeAt (bodyOf Try.f7) [1,1]) ⟨1,1,[]⟩ (1::0::σ) (finC G false Try.f7 (1::σ))))
def z1j:Code:=(codeAt (bodyOf Try.f7) [1,0,1,0,0,1,0,0,1,0,1,0,0])
def z1l:Lv:=⟨6,1,[(2,6),(1,2),(0,0)]⟩
def z3u:Exit→Env→H→Option (Exit×Env×H):=(kBlock 2 (kSeq G rec loop (codeAt (bodyOf Try.f7) [1,0,1,0,0,1,0,0,1,1]) ⟨2,1,[(1,2),(0,0)]⟩ (1::0::1::0::σ) (kBlock 1 (kSeq G rec loop (codeAt (bodyOf Try.f7) [1,0,1,0,0,1,1]) ⟨2,1,[(0,0)]⟩ (1::0::σ) (kRound loop (codeAt (bodyOf Try.f7) [1,0,1,0,0]) ⟨0,1,[(0,0)]⟩ σ)))))
theorem z54  (h:H):cvBody G rec loop 7 σ [] h =
(loop z1k z1n (1::0::1::0::σ) (envL [(1,(.p (.int .i64 0)))]) (List.replicate 51 []::h)).bind fun r1=>z2h rec loop σ r1.1 r1.2.1 r1.2.2:=by kernel_rfl
theorem z6i (x1:Int) (h:H):z1o G rec loop z1k z1n σ (envL [(1,(.p (.int .i64 x1)))]) h =
bif decide (x1<40) then (
(loop z1j z1l (1::0::1::0::1::0::σ) (envL [(1,(.p (.int .i64 x1))),(2,(.p (.slice .none 0 0))),(3,(.p (.int .i64 0)))]) h).bind fun r2=>z3u rec loop σ r2.1 r2.2.1 r2.2.2)
else (
some ((.exit 0),(envL []),h)):=by kernel_rfl
theorem z5m  (h:H):z2h rec loop σ (.exit 0) (envL []) h =
(buildV Try.prog 37 [(2,(.p (.int .i64 9223372036854775807)))]).bind fun t3 =>
(buildV Try.prog 37 [(0,(.p (.int .i64 4))),(2,(.p (.int .i64 (-9223372036854775808))))]).bind fun t4 =>
(buildV Try.prog 37 [(0,(.p (.int .i64 4))),(1,(.p (.int .i64 1))),(2,(.p (.int .i64 9223372036854775807)))]).bind fun t5 =>
(bSV Try.prog 35 3 [(0,t3),(1,t4),(2,t5)]).bind fun t6 =>
(callO rec 19 (4::0::1::1::0::σ) [(.p (.int .i64 2)),t6] h (some 47)).bind fun q7 =>
(asB q7.1).bind fun b8 =>
(bif b8 then ((callO rec 20 (6::0::1::1::0::σ) [] q7.2 (some 49)).bind fun q9 =>
(asB q9.1).bind fun b10 =>
some ((.p (.bool b10)),q9.2)) else (some ((.p (.bool false)),q7.2))).bind fun q11 =>
(asB q11.1).bind fun b12 =>
fin false σ q11.2 [(.p (.bool b12))]:=by kernel_rfl
theorem z4z (x0:Bool) (h:H):z2h rec loop σ .ret (envL [(0,(.p (.bool x0)))]) h =
fin false σ h [(.p (.bool x0))]:=by kernel_rfl
theorem z63 (x1:Int) (x2:V) (x3:Int) (h:H):z1o G rec loop z1j z1l σ (envL [(1,(.p (.int .i64 x1))),(2,x2),(3,(.p (.int .i64 x3)))]) h =
bif decide (x3<80) then (
(buildV Try.prog 37 [(0,(.p (.int .i64 (Int.tmod (IntKind.wrap .i64 ((IntKind.wrap .i64 (x3*x3))+x1)) 5)))),(1,(.p (.int .i64 (IntKind.wrap .i64 ((Int.tmod (IntKind.wrap .i64 ((IntKind.wrap .i64 (x3*3))+x1)) 5)-1))))),(2,(.p (.int .i64 (IntKind.wrap .i64 ((Int.tmod (IntKind.wrap .i64 (x3*x1)) 13)*130000)))))]).bind fun t13 =>
(bSV Try.prog 35 1 [(0,t13)]).bind fun t14 =>
(apO false 3 24 (20::0::1::0::σ) 32 h x2 t14).bind fun q15 =>
loop z1j z1l (1::σ) (envL [(1,(.p (.int .i64 x1))),(2,q15.1),(3,(.p (.int .i64 (IntKind.wrap .i64 (x3+1)))))]) q15.2)
else (
some ((.exit 2),(envL [(1,(.p (.int .i64 x1))),(2,x2)]),h)):=by kernel_rfl
theorem z5j (x1:Int) (x2:V) (h:H):z3u rec loop σ (.exit 2) (envL [(1,(.p (.int .i64 x1))),(2,x2)]) h =
(callO rec 19 (3::0::1::1::0::1::0::σ) [(.p (.int .i64 (Int.tmod x1 5))),x2] h (some 36)).bind fun q16 =>
(asB q16.1).bind fun b17 =>
(bif !b17 then (some ((.p (.bool true)),q16.2)) else ((callO rec 19 (7::0::1::1::0::1::0::σ) [(.p (.int .i64 3)),x2] q16.2 (some 40)).bind fun q18 =>
(asB q18.1).bind fun b19 =>
some ((.p (.bool (!b19))),q18.2))).bind fun q20 =>
(asB q20.1).bind fun b21 =>
bif b21 then (
some (.ret,(envL [(0,(.p (.bool false)))]),q20.2))
else (
loop z1k z1n (1::σ) (envL [(1,(.p (.int .i64 (IntKind.wrap .i64 (x1+1)))))]) q20.2):=by kernel_rfl
theorem z8s  (h:H):cvBody G rec loop 20 σ [] h =
(callO rec 21 (0::0::1::0::σ) [(.p (.int .i64 2))] (List.replicate 84 []::h) (some 9)).bind fun q1 =>
(binV Try.prog q1.2 .eql 39 q1.1 (.p (.pointer .none))).bind fun t2 =>
(asB t2).bind fun b3 =>
(bif b3 then (some ((.p (.bool true)),q1.2)) else ((callO rec 21 (3::0::0::1::1::0::σ) [(.p (.int .i64 0))] q1.2 (some 13)).bind fun q4 =>
(binV Try.prog q4.2 .neq 39 q4.1 (.p (.pointer .none))).bind fun t5 =>
(asB t5).bind fun b6 =>
some ((.p (.bool b6)),q4.2))).bind fun q7 =>
(asB q7.1).bind fun b8 =>
(bif b8 then (some ((.p (.bool true)),q7.2)) else ((callO rec 21 (7::0::0::1::1::0::σ) [(.p (.int .i64 4))] q7.2 (some 17)).bind fun q9 =>
(binV Try.prog q9.2 .neq 39 q9.1 (.p (.pointer .none))).bind fun t10 =>
(asB t10).bind fun b11 =>
some ((.p (.bool b11)),q9.2))).bind fun q12 =>
(asB q12.1).bind fun b13 =>
bif b13 then (
fin false σ q12.2 [(.p (.bool false))])
else (
(callO rec 23 (1::0::1::1::1::0::σ) [q1.1,(.p (.int .i64 500000))] q12.2 (some 21)).bind fun q14 =>
(callO rec 22 (1::0::1::1::1::1::0::σ) [q1.1,(.p (.int .i64 1)),(.p (.int .i64 5))] q14.2 (some 23)).bind fun q15 =>
(callO rec 23 (1::0::1::1::1::1::1::0::σ) [q1.1,(.p (.int .i64 500000))] q15.2 (some 25)).bind fun q16 =>
(callO rec 24 (1::0::1::1::1::1::1::1::0::σ) [q1.1,(.p (.int .i64 0))] q16.2 (some 27)).bind fun q17 =>
(asB q17.1).bind fun b18 =>
(callO rec 24 (3::0::1::1::1::1::1::1::0::σ) [q1.1,(.p (.int .i64 0))] q17.2 (some 29)).bind fun q19 =>
(asB q19.1).bind fun b20 =>
(callO rec 23 (1::0::1::1::1::1::1::1::1::0::σ) [q1.1,(.p (.int .i64 500000))] q19.2 (some 31)).bind fun q21 =>
(callO rec 26 (1::0::1::1::1::1::1::1::1::1::0::σ) [q1.1,(.p (.int .i64 0)),(.p (.int .i64 7))] q21.2 (some 33)).bind fun q22 =>
(asB q22.1).bind fun b23 =>
(callO rec 26 (3::0::1::1::1::1::1::1::1::1::0::σ) [q1.1,(.p (.int .i64 0)),(.p (.int .i64 8))] q22.2 (some 35)).bind fun q24 =>
(asB q24.1).bind fun b25 =>
(bSV Try.prog 24 2 [(0,(.p (.int .i64 0))),(1,(.p (.int .i64 1)))]).bind fun t26 =>
(callO rec 44 (2::0::1::1::1::1::1::1::1::1::1::0::σ) [q14.1,t26] q24.2 (some 38)).bind fun q27 =>
(asB q27.1).bind fun b28 =>
(bif b28 then ((bSV Try.prog 24 1 [(0,(.p (.int .i64 0)))]).bind fun t29 =>
(callO rec 44 (6::0::1::1::1::1::1::1::1::1::1::0::σ) [q16.1,t29] q27.2 (some 42)).bind fun q30 =>
(asB q30.1).bind fun b31 =>
some ((.p (.bool b31)),q30.2)) else (some ((.p (.bool false)),q27.2))).bind fun q32 =>
(asB q32.1).bind fun b33 =>
(bif b33 then (some b18) else (some false)).bind fun b34 =>
(bif b34 then (some (!b20)) else (some false)).bind fun b35 =>
(bif b35 then ((lenO q21.1).bind fun t36 =>
(castI .i64 t36).bind fun n37 =>
some (n37==0)) else (some false)).bind fun b38 =>
(bif b38 then (some b23) else (some false)).bind fun b39 =>
(bif b39 then (some (!b25)) else (some false)).bind fun b40 =>
(bif b40 then ((callO rec 25 (29::0::1::1::1::1::1::1::1::1::1::0::σ) [q1.1,(.p (.int .i64 0))] q32.2 (some 65)).bind fun q41 =>
(asB q41.1).bind fun b42 =>
some ((.p (.bool (!b42))),q41.2)) else (some ((.p (.bool false)),q32.2))).bind fun q43 =>
(asB q43.1).bind fun b44 =>
(bif b44 then ((callO rec 24 (34::0::1::1::1::1::1::1::1::1::1::0::σ) [q1.1,(.p (.int .i64 5))] q43.2 (some 70)).bind fun q45 =>
(asB q45.1).bind fun b46 =>
some ((.p (.bool (!b46))),q45.2)) else (some ((.p (.bool false)),q43.2))).bind fun q47 =>
(asB q47.1).bind fun b48 =>
(bif b48 then ((callO rec 25 (39::0::1::1::1::1::1::1::1::1::1::0::σ) [q1.1,(.p (.int .i64 (-1)))] q47.2 (some 75)).bind fun q49 =>
(asB q49.1).bind fun b50 =>
some ((.p (.bool (!b50))),q49.2)) else (some ((.p (.bool false)),q47.2))).bind fun q51 =>
(asB q51.1).bind fun b52 =>
(bif b52 then ((callO rec 23 (44::0::1::1::1::1::1::1::1::1::1::0::σ) [q1.1,(.p (.int .i64 500006))] q51.2 (some 80)).bind fun q53 =>
(bSV Try.prog 24 1 [(0,(.p (.int .i64 1)))]).bind fun t54 =>
(callO rec 44 (46::0::1::1::1::1::1::1::1::1::1::0::σ) [q53.1,t54] q53.2 (some 82)).bind fun q55 =>
(asB q55.1).bind fun b56 =>
some ((.p (.bool b56)),q55.2)) else (some ((.p (.bool false)),q51.2))).bind fun q57 =>
(asB q57.1).bind fun b58 =>
fin false σ q57.2 [(.p (.bool b58))]):=by kernel_rfl
def z3n:Code:=(codeAt (bodyOf Try.f44) [1,1,0,1,0,0])
def z3l:Lv:=⟨0,16,[(0,0)]⟩
def z4n:KT1:=(kBlock 0 (kSeq G rec loop (codeAt (bodyOf Try.f44) [1,1,1]) ⟨16,16,[]⟩ (1::1::0::σ) (finC G false Try.f44 (1::σ))))
theorem z95 (x0:V) (x1:V) (h:H):cvBody G rec loop 44 σ [x0,x1] h =
(lenO x0).bind fun t1 =>
(castI .i64 t1).bind fun n2 =>
(lenO x1).bind fun t3 =>
(castI .i64 t3).bind fun n4 =>
bif n2 != n4 then (
fin false σ (List.replicate 26 []::h) [(.p (.bool false))])
else (
(lenO x0).bind fun t5 =>
(castI .i64 t5).bind fun n6 =>
(loop z3n z3l (1::0::1::1::0::σ) (envL [(0,x0),(1,x1),(12,(.p (.int .i64 n6))),(13,(.p (.int .i64 0)))]) (List.replicate 26 []::h)).bind fun r7=>z4n rec loop σ r7.1 r7.2.1 r7.2.2):=by kernel_rfl
theorem zb5 (x0:V) (x1:V) (x12:Int) (x13:Int) (h:H):z1o G rec loop z3n z3l σ (envL [(0,x0),(1,x1),(12,(.p (.int .i64 x12))),(13,(.p (.int .i64 x13)))]) h =
bif decide (x13<x12) then (
(iS 1 x0 x13).bind fun t8 =>
(ldO false 1 h t8).bind fun t9 =>
(castI .i64 t9).bind fun n10 =>
(iS 1 x1 x13).bind fun t11 =>
(ldO false 1 h t11).bind fun t12 =>
(castI .i64 t12).bind fun n13 =>
bif n10 != n13 then (
some (.ret,(envL [(4,(.p (.bool false)))]),h))
else (
loop z3n z3l (1::σ) (envL [(0,x0),(1,x1),(12,(.p (.int .i64 x12))),(13,(.p (.int .i64 (IntKind.wrap .i64 (x13+1)))))]) h))
else (
some ((.exit 0),(envL []),h)):=by kernel_rfl
theorem z9k  (h:H):z4n rec loop σ (.exit 0) (envL []) h =
fin false σ h [(.p (.bool true))]:=by kernel_rfl
theorem z8e (x4:Bool) (h:H):z4n rec loop σ .ret (envL [(4,(.p (.bool x4)))]) h =
fin false σ h [(.p (.bool x4))]:=by kernel_rfl
end
end Go.Ev
namespace Go.Ev
open Go.Proofs
set_option linter.unusedVariables false
set_option linter.unusedSimpArgs false
set_option maxRecDepth 100000
section
variable {β α : Type} {Q : β→α→Prop} {K : Exit × Env × H→Option α}
def z32 {β:Type} (k:Nat) (kE0:Unit→Option β) (kE1:Bool→Option β) (x0:(List Int)) (x1:(List Int)) (x12:Int) (x13:Int):Option β:=match k with
| 0=>none
| k+1 =>
bif decide (x13<x12) then (
(ix x0 x13).bind fun a9 =>
(ix x1 x13).bind fun a12 =>
bif a9 != a12 then (
kE1 false)
else (
z32 k kE0 kE1 x0 x1 x12 (IntKind.wrap .i64 (x13+1))))
else (
kE0 ())
def zt (k:Nat) (x0:(List Int)) (x1:(List Int)):Option (Bool) :=
bif ((x0.length:Int)) != ((x1.length:Int)) then (
some (false))
else (
z32 k (fun (_:Unit) =>
some (true)) (fun r23_4 =>
some (r23_4)) x0 x1 ((x0.length:Int)) 0)
theorem z9d {h:H}  {kE0:Unit→Option β} {kE1:Bool→Option β} (hE0:∀ (_u:Unit) (H16:Go.Ev.H) (_:Fm 26 h [] [] [] H16),Sim (kE0 ()) (K ((.exit 0),(envL []),H16)) Q) (hE1:∀ (q4:Bool) (H18:Go.Ev.H) (_:Fm 26 h [] [] [] H18),Sim (kE1 q4) (K (.ret,(envL [(4,(.p (.bool q4)))]),H18)) Q) (k:Nat):∀ (x0:(List Int)) (x1:(List Int)) (x12:Int) (x13:Int) (v4:V) (h5:SlH h (dI .i64) x0 v4) (v6:V) (h7:SlH h (dI .i64) x1 v6) (H2:Go.Ev.H) (_:Fm 26 h [] [] [] H2) {σ:Stamp},Sim (z32 k kE0 kE1 x0 x1 x12 x13) ((cvL G X0 z3n z3l σ (envL [(0,v4),(1,v6),(12,(.p (.int .i64 x12))),(13,(.p (.int .i64 x13)))]) H2).bind K) Q:=by
 induction k with
 | zero=>intros;exact .no
 | succ k ih =>
  intro x0 x1 x12 x13 v4 h5 v6 h7 H2 S3 σ
  rw [z32]
  refine .round (Sim.ext (zb5 _ _ _ _ _ _ _ _) ?_)
  refine .cq ?_ ?_
  ·refine .bd fun a9 h10=>?_
   refine .op ((S3.low h5).iS h10 rfl) ?_
   obtain ⟨_,rfl,hE11⟩:=(S3.low h5).el h10 rfl
   refine .op (hE11.ld (j:=0) rfl) ?_
   refine .ci ?_
   refine .bd fun a12 h13=>?_
   refine .op ((S3.low h7).iS h13 rfl) ?_
   obtain ⟨_,rfl,hE14⟩:=(S3.low h7).el h13 rfl
   refine .op (hE14.ld (j:=0) rfl) ?_
   refine .ci ?_
   refine .cq ?_ ?_
   ·exact hE1 false H2 (S3.wk2 aN aN)
   exact ih x0 x1 x12 (IntKind.wrap .i64 (x13+1)) v4 h5 v6 h7 H2 (S3.wk2 aN aN)
  exact hE0 () H2 (S3.wk2 aN aN)
theorem zw (k:Nat) {h:H} {σ:Stamp} (x0:List Int) {u0:V} (hu0:SlH h (dI .i64) x0 u0) (x1:List Int) {u1:V} (hu1:SlH h (dI .i64) x1 u1):Sim (zt k x0 x1) (ev G X0 44 σ [u0,u1] h) (fun r s=>s=([.v (.p (.bool r))],h)):=by
 refine .ev rfl (Sim.ext (z95 _ _ _ _ _ _) ?_)
 rw [zt]
 have S0:Fm 26 h [] [] [] (List.replicate 26 []::h):=Fm.start0
 refine .op ((S0.low hu0).len) ?_
 refine .ci ?_
 refine .op ((S0.low hu1).len) ?_
 refine .ci ?_
 refine .cq ?_ ?_
 ·exact .fin (S0.finN (lC (sB _).lv lN)) rfl
 refine .op ((S0.low hu0).len) ?_
 refine .ci ?_
 refine .as (z9d ?_ ?_ k x0 x1 ((x0.length:Int)) 0 u0 hu0 u1 hu1 (List.replicate 26 []::h) (S0.wk2 aN aN))
 ·intro _u H21 S22
  refine .ext (z9k _ _ _ _) ?_
  exact .fin (S22.finN (lC (sB _).lv lN)) rfl
 ·intro r23_4 H24 S25
  refine .ext (z8e _ _ _ _ _) ?_
  exact .fin (S25.finN (lC (sB _).lv lN)) rfl
end
end Go.Ev
namespace Go.Ev
open Go.Proofs
set_option linter.unusedVariables false
set_option linter.unusedSimpArgs false
set_option maxRecDepth 100000
noncomputable section
abbrev KT2:=Exit→Env→H→Option (List C × H)
variable (rec : CallF) (loop : LoopV) (σ : Stamp)
theorem z8u (x0:Int) (h:H):cvBody G rec loop 21 σ [(.p (.int .i64 x0))] h =
(bif decide (x0<1) then (some true) else (some (decide (x0>3)))).bind fun b1 =>
bif b1 then (
fin false σ (List.replicate 13 []::h) [(.p (.pointer .none))])
else (
(mkO 2 16 [.p (.int .i64 0),.p (.bool false)] (1::0::1::1::0::σ) 10 (List.replicate 13 []::h) x0 x0).bind fun q2 =>
(buildV Try.prog 70 [(0,q2.1)]).bind fun t3 =>
(boxO true (3::0::1::1::0::σ) 12 q2.2 t3).bind fun q4 =>
fin false σ q4.2 [q4.1]):=by kernel_rfl
end
end Go.Ev
namespace Go.Ev
open Go.Proofs
set_option linter.unusedVariables false
set_option linter.unusedSimpArgs false
set_option maxRecDepth 100000
section
variable {β α : Type} {Q : β→α→Prop} {K : Exit × Env × H→Option α}
def z2i (x0:Int):Option ((Option z8)) :=
(bif decide (x0<1) then (some true) else (some (decide (x0>3)))).bind fun b1 =>
bif b1 then (
some (none))
else (
(mk 16 ((⟨0,false⟩:zo)) x0).bind fun a6 =>
some ((some ((⟨a6⟩:z8)))))
theorem z3m {h:H} {σ:Stamp} (x0:Int):Sim (z2i x0) (ev G X0 21 σ [(.p (.int .i64 x0))] h) (fun r s=>match r with | none=>s=([.v (.p (.pointer none))],h) | some r=>∃ (s0:Stamp),∃ (cr0_0:C),SoC z7 r.l cr0_0∧Nn cr0_0 2∧s=([.own s0 [cr0_0]],h)):=by
 refine .ev rfl (Sim.ext (z8u _ _ _ _ _) ?_)
 rw [z2i]
 have S0:Fm 13 h [] [] [] (List.replicate 13 []::h):=Fm.start0
 refine .ch (P:=fun r y=>r=y) ?_ (fun b1 y2 h3 h4=>?_)
 ·refine .cq ?_ ?_
  ·exact .ret rfl rfl
  ·exact .ret rfl rfl
 subst h4
 refine .cq ?_ ?_
 ·exact .fin (S0.finN (lC (Still.lv still_nilP) lN)) rfl
 refine .bd fun a6 h7=>?_
 obtain ⟨v8,H9,e10,S11⟩:=S0.mk (dt:=z7) (d:=10) (e:=2) (zv:=[.p (.int .i64 0),.p (.bool false)]) (σ:=(1::0::1::1::0::σ)) h7 (z7.mk) rfl (by decide) (by decide) rfl
 refine .op (e10) ?_
 obtain ⟨v13,H14,e15,h16,S17⟩:=S11.layD (i:=0) rfl rfl
 have e18:layCs false H9 [v8]=some (List.map C.v [v13],H14):=(lc_st e15 lc_nil)
 refine .op (bldV (pC (S11.cellsD (i:=0) rfl) pN) (by kernel_rfl:_=some (.agg [v8]))) ?_
 obtain ⟨c22,H23,e24,h25,h26,S27⟩:=S11.layO (k:=0) rfl rfl rfl
 obtain ⟨H19,e20,S21⟩:=S27.boxL (d:=12) (s:=(3::0::1::1::0::σ)) (xs:=[v8]) (lo_ow e24 lo_nil) (by decide) rfl
 refine .op (e20) ?_
 obtain ⟨H29,e30,S31⟩:=S21.expG (i:=0) (τ:=0::1::σ) rfl rfl
 exact .fin (S31.finE (Ex.st e30 Ex.nil)) ⟨(3::0::1::1::0::σ),c22,h25,h26,rfl⟩
end
end Go.Ev
namespace Go.Ev
open Go.Proofs
set_option linter.unusedVariables false
set_option linter.unusedSimpArgs false
set_option maxRecDepth 100000
noncomputable section
abbrev KT3:=Exit→Env→H→Option (List C × H)
variable (rec : CallF) (loop : LoopV) (σ : Stamp)
def z17:Code:=(codeAt (bodyOf Try.f23) [1,1,0,1,0,0])
def z18:Lv:=⟨32,16,[(0,32)]⟩
def z3x:KT3:=(kBlock 0 (kSeq G rec loop (codeAt (bodyOf Try.f23) [1,1,1]) ⟨16,16,[]⟩ (1::1::0::σ) (finC G true Try.f23 (1::σ))))
theorem z5f (x0:V) (x1:Int) (h:H):cvBody G rec loop 23 σ [x0,(.p (.int .i64 x1))] h =
(nilChk x0).bind fun t1 =>
(fA t1 0).bind fun t2 =>
(ldO false 1 (List.replicate 43 []::h) t2).bind fun t3 =>
(lenO t3).bind fun t4 =>
(castI .i64 t4).bind fun n5 =>
(loop z17 z18 (1::0::1::1::0::σ) (envL [(1,(.p (.int .i64 x1))),(5,(.p (.slice .none 0 0))),(11,t3),(12,(.p (.int .i64 n5))),(13,(.p (.int .i64 0)))]) (List.replicate 43 []::h)).bind fun r6=>z3x rec loop σ r6.1 r6.2.1 r6.2.2:=by kernel_rfl
theorem z6x (x1:Int) (x5:V) (x11:V) (x12:Int) (x13:Int) (h:H):z1o G rec loop z17 z18 σ (envL [(1,(.p (.int .i64 x1))),(5,x5),(11,x11),(12,(.p (.int .i64 x12))),(13,(.p (.int .i64 x13)))]) h =
bif decide (x13<x12) then (
(iS 2 x11 x13).bind fun t7 =>
(ldO true 2 h t7).bind fun t8 =>
(some (alO [.p (.int .i64 0),.p (.bool false)] (3::0::0::1::1::0::σ) 7 h)).bind fun q9 =>
((stO false 2 (5::0::0::1::1::0::σ) q9.2 q9.1 t8).map fun h=>(udf,h)).bind fun q10 =>
(fA q9.1 1).bind fun t11 =>
(ldO false 1 q10.2 t11).bind fun t12 =>
(asB t12).bind fun b13 =>
(bif !b13 then ((fA q9.1 0).bind fun t14 =>
(ldO false 1 q10.2 t14).bind fun t15 =>
(castI .i64 t15).bind fun n16 =>
some (decide (n16≤x1))) else (some false)).bind fun b17 =>
(bif b17 then ((fA q9.1 0).bind fun t18 =>
(ldO false 1 q10.2 t18).bind fun t19 =>
(castI .i64 t19).bind fun n20 =>
some (decide ((IntKind.wrap .u64 ((IntKind.wrap .u64 x1)-(IntKind.wrap .u64 n20)))≥500000))) else (some false)).bind fun b21 =>
bif b21 then (
(bSV Try.prog 24 1 [(0,(.p (.int .i64 x13)))]).bind fun t22 =>
(apO true 1 8 (3::1::1::0::1::1::0::σ) 39 q10.2 x5 t22).bind fun q23 =>
loop z17 z18 (1::σ) (envL [(1,(.p (.int .i64 x1))),(5,q23.1),(11,x11),(12,(.p (.int .i64 x12))),(13,(.p (.int .i64 (IntKind.wrap .i64 (x13+1)))))]) q23.2)
else (
loop z17 z18 (1::σ) (envL [(1,(.p (.int .i64 x1))),(5,x5),(11,x11),(12,(.p (.int .i64 x12))),(13,(.p (.int .i64 (IntKind.wrap .i64 (x13+1)))))]) q10.2))
else (
some ((.exit 0),(envL [(5,x5)]),h)):=by kernel_rfl
theorem z5y (x5:V) (h:H):z3x rec loop σ (.exit 0) (envL [(5,x5)]) h =
(callO rec 47 (1::0::1::1::1::0::σ) [x5] h (some 42)).bind fun q24 =>
fin true σ q24.2 [q24.1]:=by kernel_rfl
theorem z4a (x0:V) (h:H):cvBody G rec loop 47 σ [x0] h =
(lenO x0).bind fun t1 =>
(castI .i64 t1).bind fun n2 =>
(lenO x0).bind fun t3 =>
(castI .i64 t3).bind fun n4 =>
(slS 1 x0 none (some n2) (some n4)).bind fun t5 =>
fin false σ (List.replicate 9 []::h) [t5]:=by kernel_rfl
end
end Go.Ev
namespace Go.Ev
open Go.Proofs
set_option linter.unusedVariables false
set_option linter.unusedSimpArgs false
set_option maxRecDepth 100000
section
variable {β α : Type} {Q : β→α→Prop} {K : Exit × Env × H→Option α}
def zz {β:Type} (k:Nat) (kE0:(List Int)→Option β) (x1:Int) (x5:(List Int)) (x11:(List zo)) (x12:Int) (x13:Int):Option β:=match k with
| 0=>none
| k+1 =>
bif decide (x13<x12) then (
(ix x11 x13).bind fun a10 =>
(bif !a10.rest then (some (decide (a10.seen≤x1))) else (some false)).bind fun b22 =>
(bif b22 then (some (decide ((IntKind.wrap .u64 ((IntKind.wrap .u64 x1)-(IntKind.wrap .u64 a10.seen)))≥500000))) else (some false)).bind fun b26 =>
bif b26 then (
(ap 8 x5 ([x13])).bind fun a32 =>
zz k kE0 x1 a32 x11 x12 (IntKind.wrap .i64 (x13+1)))
else (
zz k kE0 x1 x5 x11 x12 (IntKind.wrap .i64 (x13+1))))
else (
kE0 x5)
def zc (k:Nat) (x0:z8) (x1:Int):Option ((List Int)) :=
zz k (fun r44_5 =>
some (r44_5)) x1 (([]:List Int)) x0.l ((x0.l.length:Int)) 0
theorem z4s {h:H}  {kE0:(List Int)→Option β} (hE0:∀ (q5:(List Int)) (v40:V) (H38:Go.Ev.H) (_:Fm 43 h [] [] [⟨[39],v40,(dI .i64),q5⟩] H38),Sim (kE0 q5) (K ((.exit 0),(envL [(5,v40)]),H38)) Q) (k:Nat):∀ (x1:Int) (x5:(List Int)) (x11:(List zo)) (x12:Int) (x13:Int) (v5:V) (v7:V) (h8:SlH h z7 x11 v7) (H3:Go.Ev.H) (_:Fm 43 h [] [] [⟨[39],v5,(dI .i64),x5⟩] H3) {σ:Stamp},Sim (zz k kE0 x1 x5 x11 x12 x13) ((cvL G X0 z17 z18 σ (envL [(1,(.p (.int .i64 x1))),(5,v5),(11,v7),(12,(.p (.int .i64 x12))),(13,(.p (.int .i64 x13)))]) H3).bind K) Q:=by
 induction k with
 | zero=>intros;exact .no
 | succ k ih =>
  intro x1 x5 x11 x12 x13 v5 v7 h8 H3 S4 σ
  rw [zz]
  refine .round (Sim.ext (z6x _ _ _ _ _ _ _ _ _) ?_)
  refine .cq ?_ ?_
  ·refine .bd fun a10 h11=>?_
   refine .op ((S4.low h8).iS h11 rfl) ?_
   obtain ⟨w13,h14,hE12⟩:=(S4.low h8).el h11 rfl
   obtain rfl:=z7.inv h14
   refine .op (hE12.all (by simp)) ?_
   obtain ⟨H15,e16,S17⟩:=S4.al (d:=7) (s:=(3::0::0::1::1::0::σ)) (z:=[(.p (.int .i64 0)),(.p (.bool false))]) (by decide) rfl
   refine .op (congrArg some e16) ?_
   obtain ⟨H19,e20,S21⟩:=S17.stGv (i:=0) (j:=0) (own:=false) (σ:=(5::0::0::1::1::0::σ)) (xs:=[.p (.int .i64 a10.seen),.p (.bool a10.rest)]) rfl rfl (sC (sI _ _) (sC (sB _) sN)) rfl rfl
   refine .op (sM e20) ?_
   refine .fa ?_
   refine .op ((S21.atG (i:=0) rfl).ld (j:=1) rfl) ?_
   refine .ab ?_
   refine .ch (P:=fun r y=>r=y) ?_ (fun b22 y23 h24 h25=>?_)
   ·refine .cq ?_ ?_
    ·refine .fa ?_
     refine .op ((S21.atG (i:=0) rfl).ld (j:=0) rfl) ?_
     refine .ci ?_
     exact .ret rfl rfl
    ·exact .ret rfl rfl
   subst h25
   refine .ch (P:=fun r y=>r=y) ?_ (fun b26 y27 h28 h29=>?_)
   ·refine .cq ?_ ?_
    ·refine .fa ?_
     refine .op ((S21.atG (i:=0) rfl).ld (j:=0) rfl) ?_
     refine .ci ?_
     exact .ret rfl rfl
    ·exact .ret rfl rfl
   subst h29
   refine .cq ?_ ?_
   ·have h31:=SlF.int1 .i64 x13
    refine .op (bldS (pC rfl pN) (by kernel_rfl:_=some (vOf h31))) ?_
    refine .bd fun a32 h33=>?_
    obtain ⟨v34,H35,e36,S37⟩:=S21.app (i:=0) (d:=39) (e:=1) (own:=true) (σ:=(3::1::1::0::1::1::0::σ)) rfl (h31.h H19).y h33 rfl (by decide) (by decide) rfl
    refine .op (e36) ?_
    exact ih x1 a32 x11 x12 (IntKind.wrap .i64 (x13+1)) v34 v7 h8 H35 (S37.wk2 aN (aC ⟨[39,39],by simp,aM 0 rfl⟩ aN))
   exact ih x1 x5 x11 x12 (IntKind.wrap .i64 (x13+1)) v5 v7 h8 H19 (S21.wk2 aN (aC ⟨[39],by simp,aM 0 rfl⟩ aN))
  exact hE0 x5 v5 H3 (S4.wk2 aN (aC ⟨[39],by simp,aM 0 rfl⟩ aN))
theorem zg (k:Nat) {h:H} {σ:Stamp} (x0:z8) {c0_0:C} (hc0_0:SoC z7 x0.l c0_0) (hn0_0:Nn c0_0 2) {l0:Loc} {o0:Nat} (ha0:AtC h l0 o0 ([c0_0])) (x1:Int):Sim (zc k x0 x1) (ev G X0 23 σ [(.ref l0 o0),(.p (.int .i64 x1))] h) (fun r s=>∃ (v0:V),SlF (dI .i64) r v0∧s=([.v v0],h)):=by
 refine .ev rfl (Sim.ext (z5f _ _ _ _ _ _) ?_)
 rw [zc]
 have S0:Fm 43 h [] [] [] (List.replicate 43 []::h):=Fm.start0
 refine .nc ?_
 refine .fa ?_
 refine .op (hc0_0.ld (S0.lowA ha0) (j:=0) rfl) ?_
 refine .op ((hc0_0.sl (S0.lowA ha0) (j:=0) rfl).len) ?_
 refine .ci ?_
 have S43:=S0.nil (dI .i64) []
 refine .as (z4s ?_ k x1 (([]:List Int)) x0.l ((x0.l.length:Int)) 0 (.p (.slice none 0 0)) (cellV l0 (o0+0) c0_0) (hc0_0.sl ha0 (j:=0) rfl) (List.replicate 43 []::h) (S43.wk2 aN (aC ⟨[],by simp,aM 0 rfl⟩ aN)))
 ·intro r44_5 v47 H45 S46
  refine .ext (z5y _ _ _ _ _) ?_
  obtain ⟨v49,e50,S51⟩:=clip_D (G:=G) (X:=X0) (i:=0) (f:=47) (fun x h=>z4a _ _ _ x h) S46 rfl rfl rfl
  refine .op (e50) ?_
  obtain ⟨v57,H52,e53,h55,S54⟩:=S51.expFrz (i:=0) (τ:=0::1::σ) rfl rfl
  exact .fin (S54.finE (Ex.st e53 Ex.nil)) ⟨v57,h55,rfl⟩
end
end Go.Ev
namespace Go.Ev
open Go.Proofs
set_option linter.unusedVariables false
set_option linter.unusedSimpArgs false
set_option maxRecDepth 100000
noncomputable section
abbrev KT4:=Exit→Env→H→Option (List C × H)
variable (rec : CallF) (loop : LoopV) (σ : Stamp)
theorem z5i (x0:V) (x1:Int) (h:H):cvBody G rec loop 24 σ [x0,(.p (.int .i64 x1))] h =
(callO rec 46 (2::0::0::1::0::σ) [x0,(.p (.int .i64 x1))] (List.replicate 26 []::h) (some 7)).bind fun q1 =>
(asB q1.1).bind fun b2 =>
(bif !b2 then (some true) else ((nilChk x0).bind fun t3 =>
(fA t3 0).bind fun t4 =>
(ldO false 1 q1.2 t4).bind fun t5 =>
(iS 2 t5 x1).bind fun t6 =>
(fA t6 1).bind fun t7 =>
(ldO false 1 q1.2 t7).bind fun t8 =>
(asB t8).bind fun b9 =>
some b9)).bind fun b10 =>
bif b10 then (
fin false σ q1.2 [(.p (.bool false))])
else (
(nilChk x0).bind fun t11 =>
(fA t11 0).bind fun t12 =>
(ldO false 1 q1.2 t12).bind fun t13 =>
(iS 2 t13 x1).bind fun t14 =>
(fA t14 1).bind fun t15 =>
((stO true 1 (7::0::1::1::0::σ) q1.2 t15 (.p (.bool true))).map fun h=>(udf,h)).bind fun q16 =>
fin false σ q16.2 [(.p (.bool true))]):=by kernel_rfl
theorem z6c (x0:V) (x1:Int) (h:H):cvBody G rec loop 46 σ [x0,(.p (.int .i64 x1))] h =
(bif decide (x1≥0) then ((nilChk x0).bind fun t1 =>
(fA t1 0).bind fun t2 =>
(ldO false 1 (List.replicate 16 []::h) t2).bind fun t3 =>
(lenO t3).bind fun t4 =>
(castI .i64 t4).bind fun n5 =>
some (decide (x1<n5))) else (some false)).bind fun b6 =>
fin false σ (List.replicate 16 []::h) [(.p (.bool b6))]:=by kernel_rfl
end
end Go.Ev
namespace Go.Ev
open Go.Proofs
set_option linter.unusedVariables false
set_option linter.unusedSimpArgs false
set_option maxRecDepth 100000
section
variable {β α : Type} {Q : β→α→Prop} {K : Exit × Env × H→Option α}
def z13 (x0:z8) (x1:Int):Option (Bool) :=
(bif decide (x1≥0) then (some (decide (x1<((x0.l.length:Int))))) else (some false)).bind fun b1 =>
some (b1)
theorem z1v {h:H} {σ:Stamp} (x0:z8) {c0_0:C} (hc0_0:SoC z7 x0.l c0_0) (hn0_0:Nn c0_0 2) {l0:Loc} {o0:Nat} (ha0:AtC h l0 o0 ([c0_0])) (x1:Int):Sim (z13 x0 x1) (ev G X0 46 σ [(.ref l0 o0),(.p (.int .i64 x1))] h) (fun r s=>s=([.v (.p (.bool r))],h)):=by
 refine .ev rfl (Sim.ext (z6c _ _ _ _ _ _) ?_)
 rw [z13]
 have S0:Fm 16 h [] [] [] (List.replicate 16 []::h):=Fm.start0
 refine .ch (P:=fun r y=>r=y) ?_ (fun b1 y2 h3 h4=>?_)
 ·refine .cq ?_ ?_
  ·refine .nc ?_
   refine .fa ?_
   refine .op (hc0_0.ld (S0.lowA ha0) (j:=0) rfl) ?_
   refine .op ((hc0_0.sl (S0.lowA ha0) (j:=0) rfl).len) ?_
   refine .ci ?_
   exact .ret rfl rfl
  ·exact .ret rfl rfl
 subst h4
 exact .fin (S0.finN (lC (sB _).lv lN)) rfl
def z12 (x0:z8) (x1:Int):Option (Bool×z8) :=
(z13 x0 x1).bind fun r1 =>
(bif !r1 then (some true) else ((ix x0.l x1).bind fun a6 =>
some a6.rest)).bind fun b14 =>
bif b14 then (
some (false,x0))
else (
(ix x0.l x1).bind fun a19 =>
(stx x0.l x1 ((⟨a19.seen,true⟩:zo))).bind fun a27 =>
some (true,(⟨a27⟩:z8)))
theorem z1u {h:H} {σ:Stamp} (x0:z8) {c0_0:C} (hc0_0:SoC z7 x0.l c0_0) (hn0_0:Nn c0_0 2) {l0:Loc} {o0:Nat} (ha0:AtC h l0 o0 ([c0_0])) (x1:Int):Sim (z12 x0 x1) (ev G X0 24 σ [(.ref l0 o0),(.p (.int .i64 x1))] h) (fun r s=>∃ (cb0_0:C),SoC z7 r.2.l cb0_0∧Nn cb0_0 2∧s=([.v (.p (.bool r.1))],pts h [⟨l0,o0,[cb0_0]⟩])):=by
 refine .ev rfl (Sim.ext (z5i _ _ _ _ _ _) ?_)
 rw [z12]
 have S0:Fm 26 h [⟨l0,o0,[c0_0]⟩] [] [] (List.replicate 26 []::h):=Fm.start1 ha0
 refine .call (z1v x0 hc0_0 hn0_0 (S0.atB (i:=0) rfl) x1) fun r1 cs2 H3 h4 q5=>?_
 cases q5
 refine .ab ?_
 refine .ch (P:=fun r y=>r=y) ?_ (fun b14 y15 h16 h17=>?_)
 ·refine .cq ?_ ?_
  ·exact .ret rfl rfl
  ·refine .nc ?_
   refine .fa ?_
   refine .op (hc0_0.ld (S0.atB (i:=0) rfl) (j:=0) rfl) ?_
   refine .bd fun a6 h7=>?_
   refine .op ((hc0_0.sl (S0.atB (i:=0) rfl) (j:=0) rfl).iS h7 rfl) ?_
   obtain ⟨w9,h10,hE8⟩:=(hc0_0.sl (S0.atB (i:=0) rfl) (j:=0) rfl).el h7 rfl
   obtain rfl:=z7.inv h10
   refine .op (hE8.fa (j:=1) (by simp)) ?_
   obtain ⟨w12,h13,hE11⟩:=(hc0_0.sl (S0.atB (i:=0) rfl) (j:=0) rfl).el h7 rfl
   obtain rfl:=z7.inv h13
   refine .op (hE11.ld (j:=1) rfl) ?_
   refine .ab ?_
   exact .ret rfl rfl
 subst h17
 refine .cq ?_ ?_
 ·exact .fin (S0.finN (lC (sB _).lv lN)) ⟨c0_0,hc0_0,hn0_0,rfl⟩
 refine .nc ?_
 refine .fa ?_
 refine .op (hc0_0.ld (S0.atB (i:=0) rfl) (j:=0) rfl) ?_
 refine .bd fun a19 h20=>?_
 refine .op ((hc0_0.sl (S0.atB (i:=0) rfl) (j:=0) rfl).iS h20 rfl) ?_
 obtain ⟨w22,h23,hE21⟩:=(hc0_0.sl (S0.atB (i:=0) rfl) (j:=0) rfl).el h20 rfl
 obtain rfl:=z7.inv h23
 refine .op (hE21.fa (j:=1) (by simp)) ?_
 refine .bd fun a27 h28=>?_
 obtain ⟨c29,H24,e25,h30,h31,S26⟩:=S0.seB (i:=0) (j:=0) (own:=true) (σ:=(7::0::1::1::0::σ)) (nv:=[(.p (.bool true))]) (xv:=(.p (.bool true))) (n:=1) (e:=2) (off:=1) rfl rfl hc0_0 hn0_0 h20 h28 rfl rfl (by decide) (z4h (sB _)) (fun ws hw=>by
   obtain rfl:=z7.inv hw
   exact (z7.mk))
 refine .op (sM e25) ?_
 exact .fin (S26.finN (lC (sB _).lv lN)) ⟨c29,h30,(Nq.nn h31),rfl⟩
end
end Go.Ev
namespace Go.Ev
open Go.Proofs
set_option linter.unusedVariables false
set_option linter.unusedSimpArgs false
set_option maxRecDepth 100000
noncomputable section
abbrev KT5:=Exit→Env→H→Option (List C × H)
variable (rec : CallF) (loop : LoopV) (σ : Stamp)
theorem z4f (x0:V) (x1:Int) (h:H):cvBody G rec loop 25 σ [x0,(.p (.int .i64 x1))] h =
(callO rec 46 (2::0::1::0::σ) [x0,(.p (.int .i64 x1))] (List.replicate 18 []::h) (some 7)).bind fun q1 =>
(asB q1.1).bind fun b2 =>
(bif b2 then ((nilChk x0).bind fun t3 =>
(fA t3 0).bind fun t4 =>
(ldO false 1 q1.2 t4).bind fun t5 =>
(iS 2 t5 x1).bind fun t6 =>
(fA t6 1).bind fun t7 =>
(ldO false 1 q1.2 t7).bind fun t8 =>
(asB t8).bind fun b9 =>
some b9) else (some false)).bind fun b10 =>
fin false σ q1.2 [(.p (.bool b10))]:=by kernel_rfl
end
end Go.Ev
namespace Go.Ev
open Go.Proofs
set_option linter.unusedVariables false
set_option linter.unusedSimpArgs false
set_option maxRecDepth 100000
section
variable {β α : Type} {Q : β→α→Prop} {K : Exit × Env × H→Option α}
def zx (x0:z8) (x1:Int):Option (Bool) :=
(z13 x0 x1).bind fun r1 =>
(bif r1 then ((ix x0.l x1).bind fun a6 =>
some a6.rest) else (some false)).bind fun b14 =>
some (b14)
theorem z1q {h:H} {σ:Stamp} (x0:z8) {c0_0:C} (hc0_0:SoC z7 x0.l c0_0) (hn0_0:Nn c0_0 2) {l0:Loc} {o0:Nat} (ha0:AtC h l0 o0 ([c0_0])) (x1:Int):Sim (zx x0 x1) (ev G X0 25 σ [(.ref l0 o0),(.p (.int .i64 x1))] h) (fun r s=>s=([.v (.p (.bool r))],h)):=by
 refine .ev rfl (Sim.ext (z4f _ _ _ _ _ _) ?_)
 rw [zx]
 have S0:Fm 18 h [] [] [] (List.replicate 18 []::h):=Fm.start0
 refine .call (z1v x0 hc0_0 hn0_0 (S0.lowA ha0) x1) fun r1 cs2 H3 h4 q5=>?_
 cases q5
 refine .ab ?_
 refine .ch (P:=fun r y=>r=y) ?_ (fun b14 y15 h16 h17=>?_)
 ·refine .cq ?_ ?_
  ·refine .nc ?_
   refine .fa ?_
   refine .op (hc0_0.ld (S0.lowA ha0) (j:=0) rfl) ?_
   refine .bd fun a6 h7=>?_
   refine .op ((hc0_0.sl (S0.lowA ha0) (j:=0) rfl).iS h7 rfl) ?_
   obtain ⟨w9,h10,hE8⟩:=(hc0_0.sl (S0.lowA ha0) (j:=0) rfl).el h7 rfl
   obtain rfl:=z7.inv h10
   refine .op (hE8.fa (j:=1) (by simp)) ?_
   obtain ⟨w12,h13,hE11⟩:=(hc0_0.sl (S0.lowA ha0) (j:=0) rfl).el h7 rfl
   obtain rfl:=z7.inv h13
   refine .op (hE11.ld (j:=1) rfl) ?_
   refine .ab ?_
   exact .ret rfl rfl
  ·exact .ret rfl rfl
 subst h17
 exact .fin (S0.finN (lC (sB _).lv lN)) rfl
end
end Go.Ev
namespace Go.Ev
open Go.Proofs
set_option linter.unusedVariables false
set_option linter.unusedSimpArgs false
set_option maxRecDepth 100000
noncomputable section
abbrev KT6:=Exit→Env→H→Option (List C × H)
variable (rec : CallF) (loop : LoopV) (σ : Stamp)
theorem z5h (x0:V) (x1:Int) (x2:Int) (h:H):cvBody G rec loop 22 σ [x0,(.p (.int .i64 x1)),(.p (.int .i64 x2))] h =
(callO rec 46 (2::0::0::σ) [x0,(.p (.int .i64 x1))] (List.replicate 26 []::h) (some 8)).bind fun q1 =>
(asB q1.1).bind fun b2 =>
bif b2 then (
(nilChk x0).bind fun t3 =>
(fA t3 0).bind fun t4 =>
(ldO false 1 q1.2 t4).bind fun t5 =>
(nilChk x0).bind fun t6 =>
(fA t6 0).bind fun t7 =>
(ldO false 1 q1.2 t7).bind fun t8 =>
(iS 2 t8 x1).bind fun t9 =>
(fA t9 0).bind fun t10 =>
(ldO false 1 q1.2 t10).bind fun t11 =>
(castI .i64 t11).bind fun n12 =>
(iS 2 t5 x1).bind fun t13 =>
(fA t13 0).bind fun t14 =>
((stO true 1 (17::1::0::σ) q1.2 t14 (.p (.int .i64 ((if x2>n12 then x2 else n12))))).map fun h=>(udf,h)).bind fun q15 =>
fin false σ q15.2 [])
else (
fin false σ q1.2 []):=by kernel_rfl
end
end Go.Ev
namespace Go.Ev
open Go.Proofs
set_option linter.unusedVariables false
set_option linter.unusedSimpArgs false
set_option maxRecDepth 100000
section
variable {β α : Type} {Q : β→α→Prop} {K : Exit × Env × H→Option α}
def z1e (x0:z8) (x1:Int) (x2:Int):Option (z8) :=
(z13 x0 x1).bind fun r1 =>
bif r1 then (
(ix x0.l x1).bind fun a7 =>
(ix x0.l x1).bind fun a15 =>
(stx x0.l x1 ((⟨((if x2>a7.seen then x2 else a7.seen)),a15.rest⟩:zo))).bind fun a23 =>
some ((⟨a23⟩:z8)))
else (
some (x0))
theorem z2p {h:H} {σ:Stamp} (x0:z8) {c0_0:C} (hc0_0:SoC z7 x0.l c0_0) (hn0_0:Nn c0_0 2) {l0:Loc} {o0:Nat} (ha0:AtC h l0 o0 ([c0_0])) (x1:Int) (x2:Int):Sim (z1e x0 x1 x2) (ev G X0 22 σ [(.ref l0 o0),(.p (.int .i64 x1)),(.p (.int .i64 x2))] h) (fun r s=>∃ (cb0_0:C),SoC z7 r.l cb0_0∧Nn cb0_0 2∧s=([],pts h [⟨l0,o0,[cb0_0]⟩])):=by
 refine .ev rfl (Sim.ext (z5h _ _ _ _ _ _ _) ?_)
 rw [z1e]
 have S0:Fm 26 h [⟨l0,o0,[c0_0]⟩] [] [] (List.replicate 26 []::h):=Fm.start1 ha0
 refine .call (z1v x0 hc0_0 hn0_0 (S0.atB (i:=0) rfl) x1) fun r1 cs2 H3 h4 q5=>?_
 cases q5
 refine .ab ?_
 refine .cq ?_ ?_
 ·refine .nc ?_
  refine .fa ?_
  refine .op (hc0_0.ld (S0.atB (i:=0) rfl) (j:=0) rfl) ?_
  refine .nc ?_
  refine .fa ?_
  refine .op (hc0_0.ld (S0.atB (i:=0) rfl) (j:=0) rfl) ?_
  refine .bd fun a7 h8=>?_
  refine .op ((hc0_0.sl (S0.atB (i:=0) rfl) (j:=0) rfl).iS h8 rfl) ?_
  obtain ⟨w10,h11,hE9⟩:=(hc0_0.sl (S0.atB (i:=0) rfl) (j:=0) rfl).el h8 rfl
  obtain rfl:=z7.inv h11
  refine .op (hE9.fa (j:=0) (by simp)) ?_
  obtain ⟨w13,h14,hE12⟩:=(hc0_0.sl (S0.atB (i:=0) rfl) (j:=0) rfl).el h8 rfl
  obtain rfl:=z7.inv h14
  refine .op (hE12.ld (j:=0) rfl) ?_
  refine .ci ?_
  refine .bd fun a15 h16=>?_
  refine .op ((hc0_0.sl (S0.atB (i:=0) rfl) (j:=0) rfl).iS h16 rfl) ?_
  obtain ⟨w18,h19,hE17⟩:=(hc0_0.sl (S0.atB (i:=0) rfl) (j:=0) rfl).el h16 rfl
  obtain rfl:=z7.inv h19
  refine .op (hE17.fa (j:=0) (by simp)) ?_
  refine .bd fun a23 h24=>?_
  obtain ⟨c25,H20,e21,h26,h27,S22⟩:=S0.seB (i:=0) (j:=0) (own:=true) (σ:=(17::1::0::σ)) (nv:=[(.p (.int .i64 ((if x2>a7.seen then x2 else a7.seen))))]) (xv:=(.p (.int .i64 ((if x2>a7.seen then x2 else a7.seen))))) (n:=1) (e:=2) (off:=0) rfl rfl hc0_0 hn0_0 h16 h24 rfl rfl (by decide) (z4h (sI _ _)) (fun ws hw=>by
   obtain rfl:=z7.inv hw
   exact (z7.mk))
  refine .op (sM e21) ?_
  exact .fin (S22.finN lN) ⟨c25,h26,(Nq.nn h27),rfl⟩
 exact .fin (S0.finN lN) ⟨c0_0,hc0_0,hn0_0,rfl⟩
end
end Go.Ev
namespace Go.Ev
open Go.Proofs
set_option linter.unusedVariables false
set_option linter.unusedSimpArgs false
set_option maxRecDepth 100000
noncomputable section
abbrev KT7:=Exit→Env→H→Option (List C × H)
variable (rec : CallF) (loop : LoopV) (σ : Stamp)
theorem z5l (x0:V) (x1:Int) (x2:Int) (h:H):cvBody G rec loop 26 σ [x0,(.p (.int .i64 x1)),(.p (.int .i64 x2))] h =
(callO rec 46 (2::0::0::1::0::σ) [x0,(.p (.int .i64 x1))] (List.replicate 33 []::h) (some 9)).bind fun q1 =>
(asB q1.1).bind fun b2 =>
(bif !b2 then (some true) else ((nilChk x0).bind fun t3 =>
(fA t3 0).bind fun t4 =>
(ldO false 1 q1.2 t4).bind fun t5 =>
(iS 2 t5 x1).bind fun t6 =>
(fA t6 1).bind fun t7 =>
(ldO false 1 q1.2 t7).bind fun t8 =>
(asB t8).bind fun b9 =>
some (!b9))).bind fun b10 =>
bif b10 then (
fin false σ q1.2 [(.p (.bool false))])
else (
(nilChk x0).bind fun t11 =>
(fA t11 0).bind fun t12 =>
(ldO false 1 q1.2 t12).bind fun t13 =>
(iS 2 t13 x1).bind fun t14 =>
(fA t14 1).bind fun t15 =>
((stO true 1 (7::0::1::1::0::σ) q1.2 t15 (.p (.bool false))).map fun h=>(udf,h)).bind fun q16 =>
(callO rec 22 (3::0::1::1::1::0::σ) [x0,(.p (.int .i64 x1)),(.p (.int .i64 x2))] q16.2 (some 32)).bind fun q17 =>
fin false σ q17.2 [(.p (.bool true))]):=by kernel_rfl
end
end Go.Ev
namespace Go.Ev
open Go.Proofs
set_option linter.unusedVariables false
set_option linter.unusedSimpArgs false
set_option maxRecDepth 100000
section
variable {β α : Type} {Q : β→α→Prop} {K : Exit × Env × H→Option α}
def z1c (x0:z8) (x1:Int) (x2:Int):Option (Bool×z8) :=
(z13 x0 x1).bind fun r1 =>
(bif !r1 then (some true) else ((ix x0.l x1).bind fun a6 =>
some (!a6.rest))).bind fun b14 =>
bif b14 then (
some (false,x0))
else (
(ix x0.l x1).bind fun a19 =>
(stx x0.l x1 ((⟨a19.seen,false⟩:zo))).bind fun a27 =>
(z1e (⟨a27⟩:z8) x1 x2).bind fun r32 =>
some (true,r32))
theorem z2m {h:H} {σ:Stamp} (x0:z8) {c0_0:C} (hc0_0:SoC z7 x0.l c0_0) (hn0_0:Nn c0_0 2) {l0:Loc} {o0:Nat} (ha0:AtC h l0 o0 ([c0_0])) (x1:Int) (x2:Int):Sim (z1c x0 x1 x2) (ev G X0 26 σ [(.ref l0 o0),(.p (.int .i64 x1)),(.p (.int .i64 x2))] h) (fun r s=>∃ (cb0_0:C),SoC z7 r.2.l cb0_0∧Nn cb0_0 2∧s=([.v (.p (.bool r.1))],pts h [⟨l0,o0,[cb0_0]⟩])):=by
 refine .ev rfl (Sim.ext (z5l _ _ _ _ _ _ _) ?_)
 rw [z1c]
 have S0:Fm 33 h [⟨l0,o0,[c0_0]⟩] [] [] (List.replicate 33 []::h):=Fm.start1 ha0
 refine .call (z1v x0 hc0_0 hn0_0 (S0.atB (i:=0) rfl) x1) fun r1 cs2 H3 h4 q5=>?_
 cases q5
 refine .ab ?_
 refine .ch (P:=fun r y=>r=y) ?_ (fun b14 y15 h16 h17=>?_)
 ·refine .cq ?_ ?_
  ·exact .ret rfl rfl
  ·refine .nc ?_
   refine .fa ?_
   refine .op (hc0_0.ld (S0.atB (i:=0) rfl) (j:=0) rfl) ?_
   refine .bd fun a6 h7=>?_
   refine .op ((hc0_0.sl (S0.atB (i:=0) rfl) (j:=0) rfl).iS h7 rfl) ?_
   obtain ⟨w9,h10,hE8⟩:=(hc0_0.sl (S0.atB (i:=0) rfl) (j:=0) rfl).el h7 rfl
   obtain rfl:=z7.inv h10
   refine .op (hE8.fa (j:=1) (by simp)) ?_
   obtain ⟨w12,h13,hE11⟩:=(hc0_0.sl (S0.atB (i:=0) rfl) (j:=0) rfl).el h7 rfl
   obtain rfl:=z7.inv h13
   refine .op (hE11.ld (j:=1) rfl) ?_
   refine .ab ?_
   exact .ret rfl rfl
 subst h17
 refine .cq ?_ ?_
 ·exact .fin (S0.finN (lC (sB _).lv lN)) ⟨c0_0,hc0_0,hn0_0,rfl⟩
 refine .nc ?_
 refine .fa ?_
 refine .op (hc0_0.ld (S0.atB (i:=0) rfl) (j:=0) rfl) ?_
 refine .bd fun a19 h20=>?_
 refine .op ((hc0_0.sl (S0.atB (i:=0) rfl) (j:=0) rfl).iS h20 rfl) ?_
 obtain ⟨w22,h23,hE21⟩:=(hc0_0.sl (S0.atB (i:=0) rfl) (j:=0) rfl).el h20 rfl
 obtain rfl:=z7.inv h23
 refine .op (hE21.fa (j:=1) (by simp)) ?_
 refine .bd fun a27 h28=>?_
 obtain ⟨c29,H24,e25,h30,h31,S26⟩:=S0.seB (i:=0) (j:=0) (own:=true) (σ:=(7::0::1::1::0::σ)) (nv:=[(.p (.bool false))]) (xv:=(.p (.bool false))) (n:=1) (e:=2) (off:=1) rfl rfl hc0_0 hn0_0 h20 h28 rfl rfl (by decide) (z4h (sB _)) (fun ws hw=>by
   obtain rfl:=z7.inv hw
   exact (z7.mk))
 refine .op (sM e25) ?_
 refine .call (z2p (⟨a27⟩:z8) h30 (Nq.nn h31) (S26.atB (i:=0) rfl) x1 x2) fun r32 cs33 H34 h35 q36=>?_
 obtain ⟨c37,h38,h39,q36⟩:=q36
 cases q36
 have S40:=S26.setB (i:=0) (cs:=[c37]) rfl rfl
 exact .fin (S40.finN (lC (sB _).lv lN)) ⟨c37,h38,h39,rfl⟩
def z3v (k:Nat) :Option (Bool) :=
(z2i 2).bind fun r1 =>
(match r1 with
| none=>(
some (false))
| some r6=>(
(z2i 0).bind fun r15 =>
(match r15 with
| none=>(
(z2i 4).bind fun r25 =>
(match r25 with
| none=>(
(zc k r6 500000).bind fun r35 =>
(z1e r6 1 5).bind fun r42 =>
(zc k r42 500000).bind fun r51 =>
(z12 r42 0).bind fun r58 =>
(z12 r58.2 0).bind fun r67 =>
(zc k r67.2 500000).bind fun r76 =>
(z1c r67.2 0 7).bind fun r83 =>
(z1c r83.2 0 8).bind fun r92 =>
(zt k r35 ([0,1])).bind fun r102 =>
(bif r102 then ((zt k r51 ([0])).bind fun r108 =>
some r108) else (some false)).bind fun b113 =>
(bif b113 then (some r58.1) else (some false)).bind fun b117 =>
(bif b117 then (some (!r67.1)) else (some false)).bind fun b121 =>
(bif b121 then (some (((r76.length:Int))==0)) else (some false)).bind fun b125 =>
(bif b125 then (some r83.1) else (some false)).bind fun b129 =>
(bif b129 then (some (!r92.1)) else (some false)).bind fun b133 =>
(bif b133 then ((zx r92.2 0).bind fun r137 =>
some (!r137)) else (some false)).bind fun b142 =>
bif b142 then ((z12 r92.2 5).bind fun r146 =>
(bif !r146.1 then ((zx r146.2 (-1)).bind fun r155 =>
some (!r155)) else (some false)).bind fun b160 =>
(bif b160 then ((zc k r146.2 500006).bind fun r164 =>
(zt k r164 ([1])).bind fun r172 =>
some r172) else (some false)).bind fun b177 =>
some (b177)) else (some (false)))
| some r30=>(
some (false))))
| some r20=>(
some (false)))))
theorem zan (k:Nat) {h:H} {σ:Stamp} :Sim (z3v k ) (ev G X0 20 σ [] h) (fun r s=>s=([.v (.p (.bool r))],h)):=by
 refine .ev rfl (Sim.ext (z8s _ _ _ _) ?_)
 rw [z3v]
 have S0:Fm 84 h [] [] [] (List.replicate 84 []::h):=Fm.start0
 refine .call (z3m 2) fun r1 cs2 H3 h4 q5=>?_
 rcases r1 with _ | r6
 ·cases (show (cs2,H3)=([.v (.p (.pointer none))],(List.replicate 84 []::h)) from q5)
  refine .op ((by kernel_rfl:_=some (.p (.bool true)))) ?_
  refine .ab ?_
  refine .asT ?_
  refine .pure ?_
  refine .ab ?_
  refine .asT ?_
  refine .pure ?_
  refine .ab ?_
  refine .cdt rfl ?_
  exact .fin (S0.finN (lC (sB _).lv lN)) rfl
 ·obtain ⟨s7,c8,h9,h10,q5⟩:=q5
  cases q5
  obtain ⟨H11,e12,S13⟩:=S0.landG (d:=9) (s:=s7) (cs:=[c8]) (by decide) rfl
  erw [e12]
  refine .op ((by kernel_rfl:_=some (.p (.bool false)))) ?_
  refine .ab ?_
  refine .asF ?_
  refine .call (z3m 0) fun r15 cs16 H17 h18 q19=>?_
  rcases r15 with _ | r20
  ·cases (show (cs16,H17)=([.v (.p (.pointer none))],H11) from q19)
   refine .op ((by kernel_rfl:_=some (.p (.bool false)))) ?_
   refine .ab ?_
   refine .pure ?_
   refine .ab ?_
   refine .asF ?_
   refine .call (z3m 4) fun r25 cs26 H27 h28 q29=>?_
   rcases r25 with _ | r30
   ·cases (show (cs26,H27)=([.v (.p (.pointer none))],H11) from q29)
    refine .op ((by kernel_rfl:_=some (.p (.bool false)))) ?_
    refine .ab ?_
    refine .pure ?_
    refine .ab ?_
    refine .cdf rfl ?_
    refine .call (zg k r6 h9 h10 (S13.atG (i:=0) rfl) 500000) fun r35 cs36 H37 h38 q39=>?_
    obtain ⟨v40,h41,q39⟩:=q39
    cases q39
    refine .call (z2p r6 h9 h10 (S13.atG (i:=0) rfl) 1 5) fun r42 cs43 H44 h45 q46=>?_
    obtain ⟨c47,h48,h49,q46⟩:=q46
    cases q46
    have S50:=S13.setG (i:=0) (cs':=[c47]) rfl rfl rfl
    refine .call (zg k r42 h48 h49 (S50.atG (i:=0) rfl) 500000) fun r51 cs52 H53 h54 q55=>?_
    obtain ⟨v56,h57,q55⟩:=q55
    cases q55
    refine .call (z1u r42 h48 h49 (S50.atG (i:=0) rfl) 0) fun r58 cs59 H60 h61 q62=>?_
    obtain ⟨c63,h64,h65,q62⟩:=q62
    cases q62
    have S66:=S50.setG (i:=0) (cs':=[c63]) rfl rfl rfl
    refine .ab ?_
    refine .call (z1u r58.2 h64 h65 (S66.atG (i:=0) rfl) 0) fun r67 cs68 H69 h70 q71=>?_
    obtain ⟨c72,h73,h74,q71⟩:=q71
    cases q71
    have S75:=S66.setG (i:=0) (cs':=[c72]) rfl rfl rfl
    refine .ab ?_
    refine .call (zg k r67.2 h73 h74 (S75.atG (i:=0) rfl) 500000) fun r76 cs77 H78 h79 q80=>?_
    obtain ⟨v81,h82,q80⟩:=q80
    cases q80
    refine .call (z2m r67.2 h73 h74 (S75.atG (i:=0) rfl) 0 7) fun r83 cs84 H85 h86 q87=>?_
    obtain ⟨c88,h89,h90,q87⟩:=q87
    cases q87
    have S91:=S75.setG (i:=0) (cs':=[c88]) rfl rfl rfl
    refine .ab ?_
    refine .call (z2m r83.2 h89 h90 (S91.atG (i:=0) rfl) 0 8) fun r92 cs93 H94 h95 q96=>?_
    obtain ⟨c97,h98,h99,q96⟩:=q96
    cases q96
    have S100:=S91.setG (i:=0) (cs':=[c97]) rfl rfl rfl
    refine .ab ?_
    have h101:SlF (dI .i64) [0,1] (.fz [(.p (.int .i64 0)),(.p (.int .i64 1))] 2 1 true):=SlF.lit (cs:=[(.p (.int .i64 0)),(.p (.int .i64 1))]) (RL.cons (show (dI .i64).R 0 [(.p (.int .i64 0))] from rfl) (RL.cons (show (dI .i64).R 1 [(.p (.int .i64 1))] from rfl) RL.nil)) rfl rfl true
    refine .op (bldS (pC rfl (pC rfl pN)) (by kernel_rfl:_=some (vOf h101))) ?_
    refine .call (zw k r35 (h41.h (ptC (ptC (ptC (ptC (ptC H11 ⟨h.length,9,0,s7,[]⟩ 0 ([c47])) ⟨h.length,9,0,s7,[]⟩ 0 ([c63])) ⟨h.length,9,0,s7,[]⟩ 0 ([c72])) ⟨h.length,9,0,s7,[]⟩ 0 ([c88])) ⟨h.length,9,0,s7,[]⟩ 0 ([c97]))) ([0,1]) (h101.h (ptC (ptC (ptC (ptC (ptC H11 ⟨h.length,9,0,s7,[]⟩ 0 ([c47])) ⟨h.length,9,0,s7,[]⟩ 0 ([c63])) ⟨h.length,9,0,s7,[]⟩ 0 ([c72])) ⟨h.length,9,0,s7,[]⟩ 0 ([c88])) ⟨h.length,9,0,s7,[]⟩ 0 ([c97])))) fun r102 cs103 H104 h105 q106=>?_
    cases q106
    refine .ab ?_
    refine .ch (P:=fun r y=>(.p (.bool r),(ptC (ptC (ptC (ptC (ptC H11 ⟨h.length,9,0,s7,[]⟩ 0 ([c47])) ⟨h.length,9,0,s7,[]⟩ 0 ([c63])) ⟨h.length,9,0,s7,[]⟩ 0 ([c72])) ⟨h.length,9,0,s7,[]⟩ 0 ([c88])) ⟨h.length,9,0,s7,[]⟩ 0 ([c97])))=y) ?_ (fun b113 y114 h115 h116=>?_)
    ·refine .cq ?_ ?_
     ·have h107:=SlF.int1 .i64 0
      refine .op (bldS (pC rfl pN) (by kernel_rfl:_=some (vOf h107))) ?_
      refine .call (zw k r51 (h57.h (ptC (ptC (ptC (ptC (ptC H11 ⟨h.length,9,0,s7,[]⟩ 0 ([c47])) ⟨h.length,9,0,s7,[]⟩ 0 ([c63])) ⟨h.length,9,0,s7,[]⟩ 0 ([c72])) ⟨h.length,9,0,s7,[]⟩ 0 ([c88])) ⟨h.length,9,0,s7,[]⟩ 0 ([c97]))) ([0]) (h107.h (ptC (ptC (ptC (ptC (ptC H11 ⟨h.length,9,0,s7,[]⟩ 0 ([c47])) ⟨h.length,9,0,s7,[]⟩ 0 ([c63])) ⟨h.length,9,0,s7,[]⟩ 0 ([c72])) ⟨h.length,9,0,s7,[]⟩ 0 ([c88])) ⟨h.length,9,0,s7,[]⟩ 0 ([c97])))) fun r108 cs109 H110 h111 q112=>?_
      cases q112
      refine .ab ?_
      exact .ret rfl rfl
     ·exact .ret rfl rfl
    subst h116
    refine .ab ?_
    refine .ch (P:=fun r y=>r=y) ?_ (fun b117 y118 h119 h120=>?_)
    ·refine .cq ?_ ?_
     ·exact .ret rfl rfl
     ·exact .ret rfl rfl
    subst h120
    refine .ch (P:=fun r y=>r=y) ?_ (fun b121 y122 h123 h124=>?_)
    ·refine .cq ?_ ?_
     ·exact .ret rfl rfl
     ·exact .ret rfl rfl
    subst h124
    refine .ch (P:=fun r y=>r=y) ?_ (fun b125 y126 h127 h128=>?_)
    ·refine .cq ?_ ?_
     ·refine .op ((h82.h (ptC (ptC (ptC (ptC (ptC H11 ⟨h.length,9,0,s7,[]⟩ 0 ([c47])) ⟨h.length,9,0,s7,[]⟩ 0 ([c63])) ⟨h.length,9,0,s7,[]⟩ 0 ([c72])) ⟨h.length,9,0,s7,[]⟩ 0 ([c88])) ⟨h.length,9,0,s7,[]⟩ 0 ([c97]))).len) ?_
      refine .ci ?_
      exact .ret rfl rfl
     ·exact .ret rfl rfl
    subst h128
    refine .ch (P:=fun r y=>r=y) ?_ (fun b129 y130 h131 h132=>?_)
    ·refine .cq ?_ ?_
     ·exact .ret rfl rfl
     ·exact .ret rfl rfl
    subst h132
    refine .ch (P:=fun r y=>r=y) ?_ (fun b133 y134 h135 h136=>?_)
    ·refine .cq ?_ ?_
     ·exact .ret rfl rfl
     ·exact .ret rfl rfl
    subst h136
    refine .ch (P:=fun r y=>(.p (.bool r),(ptC (ptC (ptC (ptC (ptC H11 ⟨h.length,9,0,s7,[]⟩ 0 ([c47])) ⟨h.length,9,0,s7,[]⟩ 0 ([c63])) ⟨h.length,9,0,s7,[]⟩ 0 ([c72])) ⟨h.length,9,0,s7,[]⟩ 0 ([c88])) ⟨h.length,9,0,s7,[]⟩ 0 ([c97])))=y) ?_ (fun b142 y143 h144 h145=>?_)
    ·refine .cq ?_ ?_
     ·refine .call (z1q r92.2 h98 h99 (S100.atG (i:=0) rfl) 0) fun r137 cs138 H139 h140 q141=>?_
      cases q141
      refine .ab ?_
      exact .ret rfl rfl
     ·exact .ret rfl rfl
    subst h145
    refine .ab ?_
    refine .cqk ?_ ?_
    ·refine .as ?_
     refine .call (z1u r92.2 h98 h99 (S100.atG (i:=0) rfl) 5) fun r146 cs147 H148 h149 q150=>?_
     obtain ⟨c151,h152,h153,q150⟩:=q150
     cases q150
     have S154:=S100.setG (i:=0) (cs':=[c151]) rfl rfl rfl
     refine .ab ?_
     refine .pure ?_
     refine .ab ?_
     refine .ch (P:=fun r y=>(.p (.bool r),(ptC (ptC (ptC (ptC (ptC (ptC H11 ⟨h.length,9,0,s7,[]⟩ 0 ([c47])) ⟨h.length,9,0,s7,[]⟩ 0 ([c63])) ⟨h.length,9,0,s7,[]⟩ 0 ([c72])) ⟨h.length,9,0,s7,[]⟩ 0 ([c88])) ⟨h.length,9,0,s7,[]⟩ 0 ([c97])) ⟨h.length,9,0,s7,[]⟩ 0 ([c151])))=y) ?_ (fun b160 y161 h162 h163=>?_)
     ·refine .cq ?_ ?_
      ·refine .call (z1q r146.2 h152 h153 (S154.atG (i:=0) rfl) (-1)) fun r155 cs156 H157 h158 q159=>?_
       cases q159
       refine .ab ?_
       exact .ret rfl rfl
      ·exact .ret rfl rfl
     subst h163
     refine .ab ?_
     refine .ch (P:=fun r y=>(.p (.bool r),(ptC (ptC (ptC (ptC (ptC (ptC H11 ⟨h.length,9,0,s7,[]⟩ 0 ([c47])) ⟨h.length,9,0,s7,[]⟩ 0 ([c63])) ⟨h.length,9,0,s7,[]⟩ 0 ([c72])) ⟨h.length,9,0,s7,[]⟩ 0 ([c88])) ⟨h.length,9,0,s7,[]⟩ 0 ([c97])) ⟨h.length,9,0,s7,[]⟩ 0 ([c151])))=y) ?_ (fun b177 y178 h179 h180=>?_)
     ·refine .cq ?_ ?_
      ·refine .call (zg k r146.2 h152 h153 (S154.atG (i:=0) rfl) 500006) fun r164 cs165 H166 h167 q168=>?_
       obtain ⟨v169,h170,q168⟩:=q168
       cases q168
       have h171:=SlF.int1 .i64 1
       refine .op (bldS (pC rfl pN) (by kernel_rfl:_=some (vOf h171))) ?_
       refine .call (zw k r164 (h170.h (ptC (ptC (ptC (ptC (ptC (ptC H11 ⟨h.length,9,0,s7,[]⟩ 0 ([c47])) ⟨h.length,9,0,s7,[]⟩ 0 ([c63])) ⟨h.length,9,0,s7,[]⟩ 0 ([c72])) ⟨h.length,9,0,s7,[]⟩ 0 ([c88])) ⟨h.length,9,0,s7,[]⟩ 0 ([c97])) ⟨h.length,9,0,s7,[]⟩ 0 ([c151]))) ([1]) (h171.h (ptC (ptC (ptC (ptC (ptC (ptC H11 ⟨h.length,9,0,s7,[]⟩ 0 ([c47])) ⟨h.length,9,0,s7,[]⟩ 0 ([c63])) ⟨h.length,9,0,s7,[]⟩ 0 ([c72])) ⟨h.length,9,0,s7,[]⟩ 0 ([c88])) ⟨h.length,9,0,s7,[]⟩ 0 ([c97])) ⟨h.length,9,0,s7,[]⟩ 0 ([c151])))) fun r172 cs173 H174 h175 q176=>?_
       cases q176
       refine .ab ?_
       exact .ret rfl rfl
      ·exact .ret rfl rfl
     subst h180
     refine .ab ?_
     exact .fin (S154.finN (lC (sB _).lv lN)) rfl
    ·refine .as ?_
     refine .pure ?_
     refine .ab ?_
     refine .asF ?_
     refine .pure ?_
     refine .ab ?_
     refine .asF ?_
     refine .pure ?_
     refine .ab ?_
     exact .fin (S100.finN (lC (sB _).lv lN)) rfl
   ·obtain ⟨s31,c32,h33,h34,q29⟩:=q29
    cases q29
    obtain ⟨H181,e182,S183⟩:=S13.landG (d:=17) (s:=s31) (cs:=[c32]) (by decide) rfl
    erw [e182]
    refine .op ((by kernel_rfl:_=some (.p (.bool true)))) ?_
    refine .ab ?_
    refine .pure ?_
    refine .ab ?_
    refine .cdt rfl ?_
    exact .fin (S183.finN (lC (sB _).lv lN)) rfl
  ·obtain ⟨s21,c22,h23,h24,q19⟩:=q19
   cases q19
   obtain ⟨H185,e186,S187⟩:=S13.landG (d:=13) (s:=s21) (cs:=[c22]) (by decide) rfl
   erw [e186]
   refine .op ((by kernel_rfl:_=some (.p (.bool true)))) ?_
   refine .ab ?_
   refine .pure ?_
   refine .ab ?_
   refine .asT ?_
   refine .pure ?_
   refine .ab ?_
   refine .cdt rfl ?_
   exact .fin (S187.finN (lC (sB _).lv lN)) rfl
end
end Go.Ev
namespace Go.Ev
open Go.Proofs
set_option linter.unusedVariables false
set_option linter.unusedSimpArgs false
set_option maxRecDepth 100000
noncomputable section
abbrev KT8:=Exit→Env→H→Option (List C × H)
variable (rec : CallF) (loop : LoopV) (σ : Stamp)
def z3t:Code:=(codeAt (bodyOf Try.f19) [1,1,1,1,0,1,0,0])
def z3o:Lv:=⟨32,16,[(0,32)]⟩
def z52:KT8:=(kBlock 0 (kSeq G rec loop (codeAt (bodyOf Try.f19) [1,1,1,1,1]) ⟨16,16,[]⟩ (1::1::1::1::0::σ) (finC G false Try.f19 (1::σ))))
def z1t:Code:=(codeAt (bodyOf Try.f19) [1,1,1,1,0,1,0,0,1,0,0,1,1,1,1,1,0,0])
def z1s:Lv:=⟨227,16,[(3,227),(1,227),(0,32)]⟩
def z2a:Exit→Env→H→Option (Exit×Env×H):=(kBlock 3 (kBlock 1 (kSeq G rec loop (codeAt (bodyOf Try.f19) [1,1,1,1,0,1,0,0,1,1]) ⟨227,16,[(0,32)]⟩ (1::0::σ) (kRound loop (codeAt (bodyOf Try.f19) [1,1,1,1,0,1,0,0]) ⟨32,16,[(0,32)]⟩ σ))))
theorem z8t (x0:Int) (x1:V) (h:H):cvBody G rec loop 19 σ [(.p (.int .i64 x0)),x1] h =
(callO rec 21 (1::0::1::0::σ) [(.p (.int .i64 x0))] (List.replicate 129 []::h) (some 11)).bind fun q1 =>
(bif decide (x0<1) then (some true) else (some (decide (x0>3)))).bind fun b2 =>
bif b2 then (
(binV Try.prog q1.2 .eql 39 q1.1 (.p (.pointer .none))).bind fun t3 =>
(asB t3).bind fun b4 =>
fin false σ q1.2 [(.p (.bool b4))])
else (
(callO rec 40 (1::0::1::1::1::0::σ) [(.p (.int .i64 x0))] q1.2 (some 21)).bind fun q5 =>
(loop z3t z3o (1::0::1::1::1::1::0::σ) (envL [(0,(.p (.int .i64 x0))),(1,x1),(5,q1.1),(6,q5.1),(7,(.p (.int .i64 0)))]) q5.2).bind fun r6=>z52 rec loop σ r6.1 r6.2.1 r6.2.2):=by kernel_rfl
theorem zba (x0:Int) (x1:V) (x5:V) (x6:V) (x7:Int) (h:H):z1o G rec loop z3t z3o σ (envL [(0,(.p (.int .i64 x0))),(1,x1),(5,x5),(6,x6),(7,(.p (.int .i64 x7)))]) h =
(lenO x1).bind fun t7 =>
(castI .i64 t7).bind fun n8 =>
(bif decide (x7<n8) then (some (decide (x7<100))) else (some false)).bind fun b9 =>
bif b9 then (
(iS 3 x1 x7).bind fun t10 =>
(ldO true 3 h t10).bind fun t11 =>
(some (alO [.p (.int .i64 0),.p (.int .i64 0),.p (.int .i64 0)] (4::0::0::1::0::σ) 8 h)).bind fun q12 =>
((stO false 3 (5::0::0::1::0::σ) q12.2 q12.1 t11).map fun h=>(udf,h)).bind fun q13 =>
(binV Try.prog q13.2 .eql 39 x5 (.p (.pointer .none))).bind fun t14 =>
(asB t14).bind fun b15 =>
bif b15 then (
some (.ret,(envL [(4,(.p (.bool false)))]),q13.2))
else (
(fA q12.1 0).bind fun t16 =>
(ldO false 1 q13.2 t16).bind fun t17 =>
(castI .i64 t17).bind fun n18 =>
bif n18==2 then (
(fA q12.1 1).bind fun t19 =>
(ldO false 1 q13.2 t19).bind fun t20 =>
(castI .i64 t20).bind fun n21 =>
(fA q12.1 1).bind fun t22 =>
(ldO false 1 q13.2 t22).bind fun t23 =>
(castI .i64 t23).bind fun n24 =>
(callO rec 24 (3::0::1::1::0::1::1::0::1::0::σ) [x5,(.p (.int .i64 n21))] q13.2 (some 57)).bind fun q25 =>
(asB q25.1).bind fun b26 =>
need (ldO false 1 q25.2 t22=some (.p (.int .i64 n24))) (
(callO rec 41 (7::0::1::1::0::1::1::0::1::0::σ) [x6,(.p (.int .i64 n24))] q25.2 (some 61)).bind fun q27 =>
(asB q27.1).bind fun b28 =>
bif !(b26==b28) then (
some (.ret,(envL [(4,(.p (.bool false)))]),q27.2))
else (
(fA q12.1 2).bind fun t29 =>
(ldO false 1 q27.2 t29).bind fun t30 =>
(castI .i64 t30).bind fun n31 =>
(fA q12.1 2).bind fun t32 =>
(ldO false 1 q27.2 t32).bind fun t33 =>
(castI .i64 t33).bind fun n34 =>
(callO rec 23 (3::0::0::1::1::1::0::1::0::σ) [x5,(.p (.int .i64 n31))] q27.2 (some 83)).bind fun q35 =>
need (ldO false 1 q35.2 t32=some (.p (.int .i64 n34))) (
(callO rec 45 (7::0::0::1::1::1::0::1::0::σ) [x6,(.p (.int .i64 n34))] q35.2 (some 87)).bind fun q36 =>
(callO rec 44 (8::0::0::1::1::1::0::1::0::σ) [q35.1,q36.1] q36.2 (some 88)).bind fun q37 =>
(asB q37.1).bind fun b38 =>
(bif !b38 then (some ((.p (.bool true)),q37.2)) else ((callO rec 23 (14::0::0::1::1::1::0::1::0::σ) [x5,(.p (.int .i64 (IntKind.wrap .i64 (x7*90000))))] q37.2 (some 94)).bind fun q39 =>
(callO rec 45 (18::0::0::1::1::1::0::1::0::σ) [x6,(.p (.int .i64 (IntKind.wrap .i64 (x7*90000))))] q39.2 (some 98)).bind fun q40 =>
(callO rec 44 (19::0::0::1::1::1::0::1::0::σ) [q39.1,q40.1] q40.2 (some 99)).bind fun q41 =>
(asB q41.1).bind fun b42 =>
some ((.p (.bool (!b42))),q41.2))).bind fun q43 =>
(asB q43.1).bind fun b44 =>
bif b44 then (
some (.ret,(envL [(4,(.p (.bool false)))]),q43.2))
else (
(loop z1t z1s (1::1::1::1::1::0::1::0::σ) (envL [(0,(.p (.int .i64 x0))),(1,x1),(5,x5),(6,x6),(7,(.p (.int .i64 x7))),(9,(.p (.int .i64 (-1))))]) q43.2).bind fun r45=>z2a rec loop σ r45.1 r45.2.1 r45.2.2)))))
else (
bif n18==3 then (
(fA q12.1 1).bind fun t46 =>
(ldO false 1 q13.2 t46).bind fun t47 =>
(castI .i64 t47).bind fun n48 =>
(fA q12.1 2).bind fun t49 =>
(ldO false 1 q13.2 t49).bind fun t50 =>
(castI .i64 t50).bind fun n51 =>
(fA q12.1 1).bind fun t52 =>
(ldO false 1 q13.2 t52).bind fun t53 =>
(castI .i64 t53).bind fun n54 =>
(fA q12.1 2).bind fun t55 =>
(ldO false 1 q13.2 t55).bind fun t56 =>
(castI .i64 t56).bind fun n57 =>
(callO rec 26 (5::0::1::1::1::0::1::1::0::1::0::σ) [x5,(.p (.int .i64 n48)),(.p (.int .i64 n51))] q13.2 (some 70)).bind fun q58 =>
(asB q58.1).bind fun b59 =>
need (ldO false 1 q58.2 t55=some (.p (.int .i64 n57))) (
need (ldO false 1 q58.2 t52=some (.p (.int .i64 n54))) (
(callO rec 42 (11::0::1::1::1::0::1::1::0::1::0::σ) [x6,(.p (.int .i64 n54)),(.p (.int .i64 n57))] q58.2 (some 76)).bind fun q60 =>
(asB q60.1).bind fun b61 =>
bif !(b59==b61) then (
some (.ret,(envL [(4,(.p (.bool false)))]),q60.2))
else (
(fA q12.1 2).bind fun t62 =>
(ldO false 1 q60.2 t62).bind fun t63 =>
(castI .i64 t63).bind fun n64 =>
(fA q12.1 2).bind fun t65 =>
(ldO false 1 q60.2 t65).bind fun t66 =>
(castI .i64 t66).bind fun n67 =>
(callO rec 23 (3::0::0::1::1::1::0::1::0::σ) [x5,(.p (.int .i64 n64))] q60.2 (some 83)).bind fun q68 =>
need (ldO false 1 q68.2 t65=some (.p (.int .i64 n67))) (
(callO rec 45 (7::0::0::1::1::1::0::1::0::σ) [x6,(.p (.int .i64 n67))] q68.2 (some 87)).bind fun q69 =>
(callO rec 44 (8::0::0::1::1::1::0::1::0::σ) [q68.1,q69.1] q69.2 (some 88)).bind fun q70 =>
(asB q70.1).bind fun b71 =>
(bif !b71 then (some ((.p (.bool true)),q70.2)) else ((callO rec 23 (14::0::0::1::1::1::0::1::0::σ) [x5,(.p (.int .i64 (IntKind.wrap .i64 (x7*90000))))] q70.2 (some 94)).bind fun q72 =>
(callO rec 45 (18::0::0::1::1::1::0::1::0::σ) [x6,(.p (.int .i64 (IntKind.wrap .i64 (x7*90000))))] q72.2 (some 98)).bind fun q73 =>
(callO rec 44 (19::0::0::1::1::1::0::1::0::σ) [q72.1,q73.1] q73.2 (some 99)).bind fun q74 =>
(asB q74.1).bind fun b75 =>
some ((.p (.bool (!b75))),q74.2))).bind fun q76 =>
(asB q76.1).bind fun b77 =>
bif b77 then (
some (.ret,(envL [(4,(.p (.bool false)))]),q76.2))
else (
(loop z1t z1s (1::1::1::1::1::0::1::0::σ) (envL [(0,(.p (.int .i64 x0))),(1,x1),(5,x5),(6,x6),(7,(.p (.int .i64 x7))),(9,(.p (.int .i64 (-1))))]) q76.2).bind fun r78=>z2a rec loop σ r78.1 r78.2.1 r78.2.2))))))
else (
bif n18==4 then (
(fA q12.1 2).bind fun t79 =>
(ldO false 1 q13.2 t79).bind fun t80 =>
(castI .i64 t80).bind fun n81 =>
(fA q12.1 2).bind fun t82 =>
(ldO false 1 q13.2 t82).bind fun t83 =>
(castI .i64 t83).bind fun n84 =>
(callO rec 23 (3::0::0::1::1::1::0::1::0::σ) [x5,(.p (.int .i64 n81))] q13.2 (some 83)).bind fun q85 =>
need (ldO false 1 q85.2 t82=some (.p (.int .i64 n84))) (
(callO rec 45 (7::0::0::1::1::1::0::1::0::σ) [x6,(.p (.int .i64 n84))] q85.2 (some 87)).bind fun q86 =>
(callO rec 44 (8::0::0::1::1::1::0::1::0::σ) [q85.1,q86.1] q86.2 (some 88)).bind fun q87 =>
(asB q87.1).bind fun b88 =>
(bif !b88 then (some ((.p (.bool true)),q87.2)) else ((callO rec 23 (14::0::0::1::1::1::0::1::0::σ) [x5,(.p (.int .i64 (IntKind.wrap .i64 (x7*90000))))] q87.2 (some 94)).bind fun q89 =>
(callO rec 45 (18::0::0::1::1::1::0::1::0::σ) [x6,(.p (.int .i64 (IntKind.wrap .i64 (x7*90000))))] q89.2 (some 98)).bind fun q90 =>
(callO rec 44 (19::0::0::1::1::1::0::1::0::σ) [q89.1,q90.1] q90.2 (some 99)).bind fun q91 =>
(asB q91.1).bind fun b92 =>
some ((.p (.bool (!b92))),q91.2))).bind fun q93 =>
(asB q93.1).bind fun b94 =>
bif b94 then (
some (.ret,(envL [(4,(.p (.bool false)))]),q93.2))
else (
(loop z1t z1s (1::1::1::1::1::0::1::0::σ) (envL [(0,(.p (.int .i64 x0))),(1,x1),(5,x5),(6,x6),(7,(.p (.int .i64 x7))),(9,(.p (.int .i64 (-1))))]) q93.2).bind fun r95=>z2a rec loop σ r95.1 r95.2.1 r95.2.2)))
else (
(fA q12.1 1).bind fun t96 =>
(ldO false 1 q13.2 t96).bind fun t97 =>
(castI .i64 t97).bind fun n98 =>
(fA q12.1 2).bind fun t99 =>
(ldO false 1 q13.2 t99).bind fun t100 =>
(castI .i64 t100).bind fun n101 =>
(callO rec 22 (5::0::1::1::1::1::0::1::1::0::1::0::σ) [x5,(.p (.int .i64 n98)),(.p (.int .i64 n101))] q13.2 (some 45)).bind fun q102 =>
(fA q12.1 1).bind fun t103 =>
(ldO false 1 q102.2 t103).bind fun t104 =>
(castI .i64 t104).bind fun n105 =>
(fA q12.1 2).bind fun t106 =>
(ldO false 1 q102.2 t106).bind fun t107 =>
(castI .i64 t107).bind fun n108 =>
(callO rec 43 (5::1::1::1::1::1::0::1::1::0::1::0::σ) [x6,(.p (.int .i64 n105)),(.p (.int .i64 n108))] q102.2 (some 51)).bind fun q109 =>
(fA q12.1 2).bind fun t110 =>
(ldO false 1 q109.2 t110).bind fun t111 =>
(castI .i64 t111).bind fun n112 =>
(fA q12.1 2).bind fun t113 =>
(ldO false 1 q109.2 t113).bind fun t114 =>
(castI .i64 t114).bind fun n115 =>
(callO rec 23 (3::0::0::1::1::1::0::1::0::σ) [x5,(.p (.int .i64 n112))] q109.2 (some 83)).bind fun q116 =>
need (ldO false 1 q116.2 t113=some (.p (.int .i64 n115))) (
(callO rec 45 (7::0::0::1::1::1::0::1::0::σ) [x6,(.p (.int .i64 n115))] q116.2 (some 87)).bind fun q117 =>
(callO rec 44 (8::0::0::1::1::1::0::1::0::σ) [q116.1,q117.1] q117.2 (some 88)).bind fun q118 =>
(asB q118.1).bind fun b119 =>
(bif !b119 then (some ((.p (.bool true)),q118.2)) else ((callO rec 23 (14::0::0::1::1::1::0::1::0::σ) [x5,(.p (.int .i64 (IntKind.wrap .i64 (x7*90000))))] q118.2 (some 94)).bind fun q120 =>
(callO rec 45 (18::0::0::1::1::1::0::1::0::σ) [x6,(.p (.int .i64 (IntKind.wrap .i64 (x7*90000))))] q120.2 (some 98)).bind fun q121 =>
(callO rec 44 (19::0::0::1::1::1::0::1::0::σ) [q120.1,q121.1] q121.2 (some 99)).bind fun q122 =>
(asB q122.1).bind fun b123 =>
some ((.p (.bool (!b123))),q122.2))).bind fun q124 =>
(asB q124.1).bind fun b125 =>
bif b125 then (
some (.ret,(envL [(4,(.p (.bool false)))]),q124.2))
else (
(loop z1t z1s (1::1::1::1::1::0::1::0::σ) (envL [(0,(.p (.int .i64 x0))),(1,x1),(5,x5),(6,x6),(7,(.p (.int .i64 x7))),(9,(.p (.int .i64 (-1))))]) q124.2).bind fun r126=>z2a rec loop σ r126.1 r126.2.1 r126.2.2)))))))
else (
some ((.exit 0),(envL [(5,x5)]),h)):=by kernel_rfl
theorem z9r (x5:V) (h:H):z52 rec loop σ (.exit 0) (envL [(5,x5)]) h =
(binV Try.prog h .neq 39 x5 (.p (.pointer .none))).bind fun t127 =>
(asB t127).bind fun b128 =>
fin false σ h [(.p (.bool b128))]:=by kernel_rfl
theorem z8r (x4:Bool) (h:H):z52 rec loop σ .ret (envL [(4,(.p (.bool x4)))]) h =
fin false σ h [(.p (.bool x4))]:=by kernel_rfl
theorem zbe (x0:Int) (x1:V) (x5:V) (x6:V) (x7:Int) (x9:Int) (h:H):z1o G rec loop z1t z1s σ (envL [(0,(.p (.int .i64 x0))),(1,x1),(5,x5),(6,x6),(7,(.p (.int .i64 x7))),(9,(.p (.int .i64 x9)))]) h =
bif decide (x9≤x0) then (
(callO rec 25 (2::0::0::1::0::σ) [x5,(.p (.int .i64 x9))] h (some 109)).bind fun q129 =>
(asB q129.1).bind fun b130 =>
(bif decide (x9≥0) then (some (decide (x9<x0))) else (some false)).bind fun b131 =>
(bif b131 then ((nilChk x6).bind fun t132 =>
(fA t132 1).bind fun t133 =>
(ldO false 1 q129.2 t133).bind fun t134 =>
(iS 1 t134 x9).bind fun t135 =>
(ldO false 1 q129.2 t135).bind fun t136 =>
(asB t136).bind fun b137 =>
some b137) else (some false)).bind fun b138 =>
bif !(b130==b138) then (
some (.ret,(envL [(4,(.p (.bool false)))]),q129.2))
else (
loop z1t z1s (1::σ) (envL [(0,(.p (.int .i64 x0))),(1,x1),(5,x5),(6,x6),(7,(.p (.int .i64 x7))),(9,(.p (.int .i64 (IntKind.wrap .i64 (x9+1)))))]) q129.2))
else (
some ((.exit 3),(envL [(0,(.p (.int .i64 x0))),(1,x1),(5,x5),(6,x6),(7,(.p (.int .i64 x7)))]),h)):=by kernel_rfl
theorem z31 (x0:Int) (x1:V) (x5:V) (x6:V) (x7:Int) (h:H):z2a rec loop σ (.exit 3) (envL [(0,(.p (.int .i64 x0))),(1,x1),(5,x5),(6,x6),(7,(.p (.int .i64 x7)))]) h =
loop z3t z3o (1::σ) (envL [(0,(.p (.int .i64 x0))),(1,x1),(5,x5),(6,x6),(7,(.p (.int .i64 (IntKind.wrap .i64 (x7+1)))))]) h:=by kernel_rfl
theorem z2f (x4:Bool) (h:H):z2a rec loop σ .ret (envL [(4,(.p (.bool x4)))]) h =
some (.ret,(envL [(4,(.p (.bool x4)))]),h):=by kernel_rfl
theorem z6y (x0:Int) (h:H):cvBody G rec loop 40 σ [(.p (.int .i64 x0))] h =
((mkMO 1 8 [.p (.int .i64 0)] x0 x0).bind fun m1 =>
(mkMO 1 1 [.p (.bool false)] x0 x0).bind fun m2 =>
some ((zf (zf (List.replicate 9 []::h) 4 [mkC (1::0::1::0::σ) m1]) 6 [mkC (3::0::1::0::σ) m2]))).bind fun h3 =>
need (∃ m,mkMO 1 8 [.p (.int .i64 0)] x0 x0=some m∧slotOf h3 4=some [mkC (1::0::1::0::σ) m]) (
need (∃ m,mkMO 1 1 [.p (.bool false)] x0 x0=some m∧slotOf h3 6=some [mkC (3::0::1::0::σ) m]) (
(mkMO 1 8 [.p (.int .i64 0)] x0 x0).bind fun m4 =>
need (mkMO 1 8 [.p (.int .i64 0)] x0 x0=some m4) (
(mkMO 1 1 [.p (.bool false)] x0 x0).bind fun m5 =>
need (mkMO 1 1 [.p (.bool false)] x0 x0=some m5) (
(buildV Try.prog 67 [(0,(mkV' (newLoc h3 4 (1::0::1::0::σ)) m4)),(1,(mkV' (newLoc h3 6 (3::0::1::0::σ)) m5))]).bind fun t6 =>
(boxO true (5::0::1::0::σ) 8 h3 t6).bind fun q7 =>
fin false σ q7.2 [q7.1])))):=by kernel_rfl
end
end Go.Ev
namespace Go.Ev
open Go.Proofs
set_option linter.unusedVariables false
set_option linter.unusedSimpArgs false
set_option maxRecDepth 100000
section
variable {β α : Type} {Q : β→α→Prop} {K : Exit × Env × H→Option α}
def z2s (x0:Int):Option (ze) :=
(mk 8 0 x0).bind fun a2 =>
(mk 1 false x0).bind fun a7 =>
some ((⟨a2,a7⟩:ze))
theorem z4u {h:H} {σ:Stamp} (x0:Int):Sim (z2s x0) (ev G X0 40 σ [(.p (.int .i64 x0))] h) (fun r s=>∃ (s0:Stamp),∃ (cr0_0:C),∃ (cr0_1:C),SoC (dI .i64) r.f_At cr0_0∧Nn cr0_0 1∧SoC dB r.R cr0_1∧Nn cr0_1 1∧s=([.own s0 [cr0_0,cr0_1]],h)):=by
 refine .ev rfl (Sim.ext (z6y _ _ _ _ _) ?_)
 rw [z2s]
 have S0:Fm 9 h [] [] [] (List.replicate 9 []::h):=Fm.start0
 refine .bd fun a2 h3=>?_
 obtain ⟨e4,S1⟩:=S0.mkM (dt:=(dI .i64)) (d:=4) (e:=1) (zv:=[(.p (.int .i64 0))]) (σ:=(1::0::1::0::σ)) h3 rfl rfl (by decide) (by decide) rfl
 refine .bd fun a7 h8=>?_
 obtain ⟨e9,S6⟩:=S1.mkM (dt:=dB) (d:=6) (e:=1) (zv:=[(.p (.bool false))]) (σ:=(3::0::1::0::σ)) h8 rfl rfl (by decide) (by decide) rfl
 refine .op (by rw [e4,Option.bind_some,e9,Option.bind_some]) ?_
 refine .nd (⟨_,e4,(zeo (by decide) (S0.slotSet (by decide)))⟩) ?_
 refine .nd (⟨_,e9,(S1.slotSet (by decide))⟩) ?_
 refine .op e4 ?_
 refine .nd e4 ?_
 first | rw [S6.newLoc 4 (1::0::1::0::σ)] | erw [S6.newLoc 4 (1::0::1::0::σ)] | skip
 refine .op e9 ?_
 refine .nd e9 ?_
 first | rw [S6.newLoc 6 (3::0::1::0::σ)] | erw [S6.newLoc 6 (3::0::1::0::σ)] | skip
 obtain ⟨v11,H12,e13,h14,S15⟩:=S6.layD (i:=1) rfl rfl
 obtain ⟨v16,H17,e18,h19,S20⟩:=S15.layD (i:=0) rfl rfl
 have e21:layCs false (zf (zf (List.replicate 9 []::h) 4 [mkC (1::0::1::0::σ) (rept (Int.toNat x0) [(.p (.int .i64 0))],some ((Int.toNat x0),(Int.toNat x0),1))]) 6 [mkC (3::0::1::0::σ) (rept (Int.toNat x0) [(.p (.bool false))],some ((Int.toNat x0),(Int.toNat x0),1))]) [(.sl ⟨h.length,4,0,(1::0::1::0::σ),[]⟩ 0 (Int.toNat x0) (Int.toNat x0) 1),(.sl ⟨h.length,6,0,(3::0::1::0::σ),[]⟩ 0 (Int.toNat x0) (Int.toNat x0) 1)]=some (List.map C.v [v11,v16],H17):=(lc_st e13 (lc_st e18 lc_nil))
 refine .op (bldV (pC (S6.cellsD (i:=1) rfl) (pC (S6.cellsD (i:=0) rfl) pN)) (by kernel_rfl:_=some (.agg [(.sl ⟨h.length,4,0,(1::0::1::0::σ),[]⟩ 0 (Int.toNat x0) (Int.toNat x0) 1),(.sl ⟨h.length,6,0,(3::0::1::0::σ),[]⟩ 0 (Int.toNat x0) (Int.toNat x0) 1)]))) ?_
 obtain ⟨c25,H26,e27,h28,h29,S30⟩:=S6.layO (k:=1) rfl rfl rfl
 obtain ⟨c31,H32,e33,h34,h35,S36⟩:=S30.layO (k:=0) rfl rfl rfl
 obtain ⟨H22,e23,S24⟩:=S36.boxL (d:=8) (s:=(5::0::1::0::σ)) (xs:=[(.sl ⟨h.length,4,0,(1::0::1::0::σ),[]⟩ 0 (Int.toNat x0) (Int.toNat x0) 1),(.sl ⟨h.length,6,0,(3::0::1::0::σ),[]⟩ 0 (Int.toNat x0) (Int.toNat x0) 1)]) (lo_ow e27 (lo_ow e33 lo_nil)) (by decide) rfl
 refine .op (e23) ?_
 obtain ⟨H38,e39,S40⟩:=S24.expG (i:=0) (τ:=0::1::σ) rfl rfl
 exact .fin (S40.finE (Ex.st e39 Ex.nil)) ⟨(5::0::1::0::σ),c25,c31,h28,h29,h34,h35,rfl⟩
end
end Go.Ev
namespace Go.Ev
open Go.Proofs
set_option linter.unusedVariables false
set_option linter.unusedSimpArgs false
set_option maxRecDepth 100000
noncomputable section
abbrev KT9:=Exit→Env→H→Option (List C × H)
variable (rec : CallF) (loop : LoopV) (σ : Stamp)
def z1f:Code:=(codeAt (bodyOf Try.f45) [1,1,0,1,0,0])
def z1g:Lv:=⟨32,16,[(0,32)]⟩
def z49:KT9:=(kBlock 0 (kSeq G rec loop (codeAt (bodyOf Try.f45) [1,1,1]) ⟨16,16,[]⟩ (1::1::0::σ) (finC G true Try.f45 (1::σ))))
theorem z5r (x0:V) (x1:Int) (h:H):cvBody G rec loop 45 σ [x0,(.p (.int .i64 x1))] h =
(nilChk x0).bind fun t1 =>
(fA t1 0).bind fun t2 =>
(ldO false 1 (List.replicate 54 []::h) t2).bind fun t3 =>
(lenO t3).bind fun t4 =>
(castI .i64 t4).bind fun n5 =>
(loop z1f z1g (1::0::1::1::0::σ) (envL [(0,x0),(1,(.p (.int .i64 x1))),(5,(.p (.slice .none 0 0))),(11,(.p (.int .i64 n5))),(12,(.p (.int .i64 0)))]) (List.replicate 54 []::h)).bind fun r6=>z49 rec loop σ r6.1 r6.2.1 r6.2.2:=by kernel_rfl
theorem z72 (x0:V) (x1:Int) (x5:V) (x11:Int) (x12:Int) (h:H):z1o G rec loop z1f z1g σ (envL [(0,x0),(1,(.p (.int .i64 x1))),(5,x5),(11,(.p (.int .i64 x11))),(12,(.p (.int .i64 x12)))]) h =
bif decide (x12<x11) then (
(nilChk x0).bind fun t7 =>
(fA t7 1).bind fun t8 =>
(ldO false 1 h t8).bind fun t9 =>
(iS 1 t9 x12).bind fun t10 =>
(ldO false 1 h t10).bind fun t11 =>
(asB t11).bind fun b12 =>
(bif !b12 then ((nilChk x0).bind fun t13 =>
(fA t13 0).bind fun t14 =>
(ldO false 1 h t14).bind fun t15 =>
(iS 1 t15 x12).bind fun t16 =>
(ldO false 1 h t16).bind fun t17 =>
(castI .i64 t17).bind fun n18 =>
some (decide (x1≥n18))) else (some false)).bind fun b19 =>
(bif b19 then ((nilChk x0).bind fun t20 =>
(fA t20 0).bind fun t21 =>
(ldO false 1 h t21).bind fun t22 =>
(iS 1 t22 x12).bind fun t23 =>
(ldO false 1 h t23).bind fun t24 =>
(castI .i64 t24).bind fun n25 =>
some (decide ((IntKind.wrap .u64 ((IntKind.wrap .u64 x1)-(IntKind.wrap .u64 n25)))≥500000))) else (some false)).bind fun b26 =>
bif b26 then (
(bSV Try.prog 24 1 [(0,(.p (.int .i64 x12)))]).bind fun t27 =>
(apO true 1 8 (3::1::1::0::1::1::0::σ) 51 h x5 t27).bind fun q28 =>
loop z1f z1g (1::σ) (envL [(0,x0),(1,(.p (.int .i64 x1))),(5,q28.1),(11,(.p (.int .i64 x11))),(12,(.p (.int .i64 (IntKind.wrap .i64 (x12+1)))))]) q28.2)
else (
loop z1f z1g (1::σ) (envL [(0,x0),(1,(.p (.int .i64 x1))),(5,x5),(11,(.p (.int .i64 x11))),(12,(.p (.int .i64 (IntKind.wrap .i64 (x12+1)))))]) h))
else (
some ((.exit 0),(envL [(5,x5)]),h)):=by kernel_rfl
theorem z60 (x5:V) (h:H):z49 rec loop σ (.exit 0) (envL [(5,x5)]) h =
fin true σ h [x5]:=by kernel_rfl
end
end Go.Ev
namespace Go.Ev
open Go.Proofs
set_option linter.unusedVariables false
set_option linter.unusedSimpArgs false
set_option maxRecDepth 100000
section
variable {β α : Type} {Q : β→α→Prop} {K : Exit × Env × H→Option α}
def zy {β:Type} (k:Nat) (kE0:(List Int)→Option β) (x0:ze) (x1:Int) (x5:(List Int)) (x11:Int) (x12:Int):Option β:=match k with
| 0=>none
| k+1 =>
bif decide (x12<x11) then (
(ix x0.R x12).bind fun a18 =>
(bif !a18 then ((ix x0.f_At x12).bind fun a21 =>
some (decide (x1≥a21))) else (some false)).bind fun b24 =>
(bif b24 then ((ix x0.f_At x12).bind fun a28 =>
some (decide ((IntKind.wrap .u64 ((IntKind.wrap .u64 x1)-(IntKind.wrap .u64 a28)))≥500000))) else (some false)).bind fun b31 =>
bif b31 then (
(ap 8 x5 ([x12])).bind fun a37 =>
zy k kE0 x0 x1 a37 x11 (IntKind.wrap .i64 (x12+1)))
else (
zy k kE0 x0 x1 x5 x11 (IntKind.wrap .i64 (x12+1))))
else (
kE0 x5)
def zh (k:Nat) (x0:ze) (x1:Int):Option ((List Int)) :=
zy k (fun r49_5 =>
some (r49_5)) x0 x1 (([]:List Int)) ((x0.f_At.length:Int)) 0
theorem z4r {h:H}  {kE0:(List Int)→Option β} (hE0:∀ (q5:(List Int)) (v45:V) (H43:Go.Ev.H) (_:Fm 54 h [] [] [⟨[51],v45,(dI .i64),q5⟩] H43),Sim (kE0 q5) (K ((.exit 0),(envL [(5,v45)]),H43)) Q) (k:Nat):∀ (x0:ze) (x1:Int) (x5:(List Int)) (x11:Int) (x12:Int) (c5:C) (h6:SoC (dI .i64) x0.f_At c5) (hn7:Nn c5 1) (c8:C) (h9:SoC dB x0.R c8) (hn10:Nn c8 1) (lr11:Loc) (or12:Nat) (har13:AtC h lr11 or12 ([c5,c8])) (v15:V) (H3:Go.Ev.H) (_:Fm 54 h [] [] [⟨[51],v15,(dI .i64),x5⟩] H3) {σ:Stamp},Sim (zy k kE0 x0 x1 x5 x11 x12) ((cvL G X0 z1f z1g σ (envL [(0,(.ref lr11 or12)),(1,(.p (.int .i64 x1))),(5,v15),(11,(.p (.int .i64 x11))),(12,(.p (.int .i64 x12)))]) H3).bind K) Q:=by
 induction k with
 | zero=>intros;exact .no
 | succ k ih =>
  intro x0 x1 x5 x11 x12 c5 h6 hn7 c8 h9 hn10 lr11 or12 har13 v15 H3 S4 σ
  rw [zy]
  refine .round (Sim.ext (z72 _ _ _ _ _ _ _ _ _) ?_)
  refine .cq ?_ ?_
  ·refine .nc ?_
   refine .fa ?_
   refine .op (h9.ld (S4.lowA har13) (j:=1) rfl) ?_
   refine .bd fun a18 h19=>?_
   refine .op ((h9.sl (S4.lowA har13) (j:=1) rfl).iS h19 rfl) ?_
   obtain ⟨_,rfl,hE20⟩:=(h9.sl (S4.lowA har13) (j:=1) rfl).el h19 rfl
   refine .op (hE20.ld (j:=0) rfl) ?_
   refine .ab ?_
   refine .ch (P:=fun r y=>r=y) ?_ (fun b24 y25 h26 h27=>?_)
   ·refine .cq ?_ ?_
    ·refine .nc ?_
     refine .fa ?_
     refine .op (h6.ld (S4.lowA har13) (j:=0) rfl) ?_
     refine .bd fun a21 h22=>?_
     refine .op ((h6.sl (S4.lowA har13) (j:=0) rfl).iS h22 rfl) ?_
     obtain ⟨_,rfl,hE23⟩:=(h6.sl (S4.lowA har13) (j:=0) rfl).el h22 rfl
     refine .op (hE23.ld (j:=0) rfl) ?_
     refine .ci ?_
     exact .ret rfl rfl
    ·exact .ret rfl rfl
   subst h27
   refine .ch (P:=fun r y=>r=y) ?_ (fun b31 y32 h33 h34=>?_)
   ·refine .cq ?_ ?_
    ·refine .nc ?_
     refine .fa ?_
     refine .op (h6.ld (S4.lowA har13) (j:=0) rfl) ?_
     refine .bd fun a28 h29=>?_
     refine .op ((h6.sl (S4.lowA har13) (j:=0) rfl).iS h29 rfl) ?_
     obtain ⟨_,rfl,hE30⟩:=(h6.sl (S4.lowA har13) (j:=0) rfl).el h29 rfl
     refine .op (hE30.ld (j:=0) rfl) ?_
     refine .ci ?_
     exact .ret rfl rfl
    ·exact .ret rfl rfl
   subst h34
   refine .cq ?_ ?_
   ·have h36:=SlF.int1 .i64 x12
    refine .op (bldS (pC rfl pN) (by kernel_rfl:_=some (vOf h36))) ?_
    refine .bd fun a37 h38=>?_
    obtain ⟨v39,H40,e41,S42⟩:=S4.app (i:=0) (d:=51) (e:=1) (own:=true) (σ:=(3::1::1::0::1::1::0::σ)) rfl (h36.h H3).y h38 rfl (by decide) (by decide) rfl
    refine .op (e41) ?_
    exact ih x0 x1 a37 x11 (IntKind.wrap .i64 (x12+1)) c5 h6 hn7 c8 h9 hn10 lr11 or12 har13 v39 H40 (S42.wk2 aN (aC ⟨[51,51],by simp,aM 0 rfl⟩ aN))
   exact ih x0 x1 x5 x11 (IntKind.wrap .i64 (x12+1)) c5 h6 hn7 c8 h9 hn10 lr11 or12 har13 v15 H3 (S4.wk2 aN (aC ⟨[51],by simp,aM 0 rfl⟩ aN))
  exact hE0 x5 v15 H3 (S4.wk2 aN (aC ⟨[51],by simp,aM 0 rfl⟩ aN))
theorem zl (k:Nat) {h:H} {σ:Stamp} (x0:ze) {c0_0:C} (hc0_0:SoC (dI .i64) x0.f_At c0_0) (hn0_0:Nn c0_0 1) {c0_1:C} (hc0_1:SoC dB x0.R c0_1) (hn0_1:Nn c0_1 1) {l0:Loc} {o0:Nat} (ha0:AtC h l0 o0 ([c0_0,c0_1])) (x1:Int):Sim (zh k x0 x1) (ev G X0 45 σ [(.ref l0 o0),(.p (.int .i64 x1))] h) (fun r s=>∃ (v0:V),SlF (dI .i64) r v0∧s=([.v v0],h)):=by
 refine .ev rfl (Sim.ext (z5r _ _ _ _ _ _) ?_)
 rw [zh]
 have S0:Fm 54 h [] [] [] (List.replicate 54 []::h):=Fm.start0
 refine .nc ?_
 refine .fa ?_
 refine .op (hc0_0.ld (S0.lowA ha0) (j:=0) rfl) ?_
 refine .op ((hc0_0.sl (S0.lowA ha0) (j:=0) rfl).len) ?_
 refine .ci ?_
 have S48:=S0.nil (dI .i64) []
 refine .as (z4r ?_ k x0 x1 (([]:List Int)) ((x0.f_At.length:Int)) 0 c0_0 hc0_0 hn0_0 c0_1 hc0_1 hn0_1 l0 o0 ha0 (.p (.slice none 0 0)) (List.replicate 54 []::h) (S48.wk2 aN (aC ⟨[],by simp,aM 0 rfl⟩ aN)))
 ·intro r49_5 v52 H50 S51
  refine .ext (z60 _ _ _ _ _) ?_
  obtain ⟨v59,H54,e55,h57,S56⟩:=S51.expFrz (i:=0) (τ:=0::1::σ) rfl rfl
  exact .fin (S56.finE (Ex.st e55 Ex.nil)) ⟨v59,h57,rfl⟩
end
end Go.Ev
namespace Go.Ev
open Go.Proofs
set_option linter.unusedVariables false
set_option linter.unusedSimpArgs false
set_option maxRecDepth 100000
noncomputable section
abbrev KT10:=Exit→Env→H→Option (List C × H)
variable (rec : CallF) (loop : LoopV) (σ : Stamp)
theorem z5x (x0:V) (x1:Int) (h:H):cvBody G rec loop 41 σ [x0,(.p (.int .i64 x1))] h =
(callO rec 55 (2::0::0::1::0::σ) [x0,(.p (.int .i64 x1))] (List.replicate 24 []::h) (some 7)).bind fun q1 =>
(asB q1.1).bind fun b2 =>
(bif !b2 then (some true) else ((nilChk x0).bind fun t3 =>
(fA t3 1).bind fun t4 =>
(ldO false 1 q1.2 t4).bind fun t5 =>
(iS 1 t5 x1).bind fun t6 =>
(ldO false 1 q1.2 t6).bind fun t7 =>
(asB t7).bind fun b8 =>
some b8)).bind fun b9 =>
bif b9 then (
fin false σ q1.2 [(.p (.bool false))])
else (
(nilChk x0).bind fun t10 =>
(fA t10 1).bind fun t11 =>
(ldO false 1 q1.2 t11).bind fun t12 =>
(iS 1 t12 x1).bind fun t13 =>
((stO true 1 (6::0::1::1::0::σ) q1.2 t13 (.p (.bool true))).map fun h=>(udf,h)).bind fun q14 =>
fin false σ q14.2 [(.p (.bool true))]):=by kernel_rfl
theorem z6w (x0:V) (x1:Int) (h:H):cvBody G rec loop 55 σ [x0,(.p (.int .i64 x1))] h =
(bif decide (x1≥0) then ((nilChk x0).bind fun t1 =>
(fA t1 0).bind fun t2 =>
(ldO false 1 (List.replicate 16 []::h) t2).bind fun t3 =>
(lenO t3).bind fun t4 =>
(castI .i64 t4).bind fun n5 =>
some (decide (x1<n5))) else (some false)).bind fun b6 =>
fin false σ (List.replicate 16 []::h) [(.p (.bool b6))]:=by kernel_rfl
end
end Go.Ev
namespace Go.Ev
open Go.Proofs
set_option linter.unusedVariables false
set_option linter.unusedSimpArgs false
set_option maxRecDepth 100000
section
variable {β α : Type} {Q : β→α→Prop} {K : Exit × Env × H→Option α}
def z1d (x0:ze) (x1:Int):Option (Bool) :=
(bif decide (x1≥0) then (some (decide (x1<((x0.f_At.length:Int))))) else (some false)).bind fun b1 =>
some (b1)
theorem z2n {h:H} {σ:Stamp} (x0:ze) {c0_0:C} (hc0_0:SoC (dI .i64) x0.f_At c0_0) (hn0_0:Nn c0_0 1) {c0_1:C} (hc0_1:SoC dB x0.R c0_1) (hn0_1:Nn c0_1 1) {l0:Loc} {o0:Nat} (ha0:AtC h l0 o0 ([c0_0,c0_1])) (x1:Int):Sim (z1d x0 x1) (ev G X0 55 σ [(.ref l0 o0),(.p (.int .i64 x1))] h) (fun r s=>s=([.v (.p (.bool r))],h)):=by
 refine .ev rfl (Sim.ext (z6w _ _ _ _ _ _) ?_)
 rw [z1d]
 have S0:Fm 16 h [] [] [] (List.replicate 16 []::h):=Fm.start0
 refine .ch (P:=fun r y=>r=y) ?_ (fun b1 y2 h3 h4=>?_)
 ·refine .cq ?_ ?_
  ·refine .nc ?_
   refine .fa ?_
   refine .op (hc0_0.ld (S0.lowA ha0) (j:=0) rfl) ?_
   refine .op ((hc0_0.sl (S0.lowA ha0) (j:=0) rfl).len) ?_
   refine .ci ?_
   exact .ret rfl rfl
  ·exact .ret rfl rfl
 subst h4
 exact .fin (S0.finN (lC (sB _).lv lN)) rfl
def z2o (x0:ze) (x1:Int):Option (Bool×ze) :=
(z1d x0 x1).bind fun r1 =>
(bif !r1 then (some true) else ((ix x0.R x1).bind fun a6 =>
some a6)).bind fun b9 =>
bif b9 then (
some (false,x0))
else (
(ix x0.R x1).bind fun a14 =>
(stx x0.R x1 true).bind fun a19 =>
some (true,(⟨x0.f_At,a19⟩:ze)))
theorem z6n {h:H} {σ:Stamp} (x0:ze) {c0_0:C} (hc0_0:SoC (dI .i64) x0.f_At c0_0) (hn0_0:Nn c0_0 1) {c0_1:C} (hc0_1:SoC dB x0.R c0_1) (hn0_1:Nn c0_1 1) {l0:Loc} {o0:Nat} (ha0:AtC h l0 o0 ([c0_0,c0_1])) (x1:Int):Sim (z2o x0 x1) (ev G X0 41 σ [(.ref l0 o0),(.p (.int .i64 x1))] h) (fun r s=>∃ (cb0_0:C),∃ (cb0_1:C),SoC (dI .i64) r.2.f_At cb0_0∧Nn cb0_0 1∧SoC dB r.2.R cb0_1∧Nn cb0_1 1∧s=([.v (.p (.bool r.1))],pts h [⟨l0,o0,[cb0_0,cb0_1]⟩])):=by
 refine .ev rfl (Sim.ext (z5x _ _ _ _ _ _) ?_)
 rw [z2o]
 have S0:Fm 24 h [⟨l0,o0,[c0_0,c0_1]⟩] [] [] (List.replicate 24 []::h):=Fm.start1 ha0
 refine .call (z2n x0 hc0_0 hn0_0 hc0_1 hn0_1 (S0.atB (i:=0) rfl) x1) fun r1 cs2 H3 h4 q5=>?_
 cases q5
 refine .ab ?_
 refine .ch (P:=fun r y=>r=y) ?_ (fun b9 y10 h11 h12=>?_)
 ·refine .cq ?_ ?_
  ·exact .ret rfl rfl
  ·refine .nc ?_
   refine .fa ?_
   refine .op (hc0_1.ld (S0.atB (i:=0) rfl) (j:=1) rfl) ?_
   refine .bd fun a6 h7=>?_
   refine .op ((hc0_1.sl (S0.atB (i:=0) rfl) (j:=1) rfl).iS h7 rfl) ?_
   obtain ⟨_,rfl,hE8⟩:=(hc0_1.sl (S0.atB (i:=0) rfl) (j:=1) rfl).el h7 rfl
   refine .op (hE8.ld (j:=0) rfl) ?_
   refine .ab ?_
   exact .ret rfl rfl
 subst h12
 refine .cq ?_ ?_
 ·exact .fin (S0.finN (lC (sB _).lv lN)) ⟨c0_0,c0_1,hc0_0,hn0_0,hc0_1,hn0_1,rfl⟩
 refine .nc ?_
 refine .fa ?_
 refine .op (hc0_1.ld (S0.atB (i:=0) rfl) (j:=1) rfl) ?_
 refine .bd fun a14 h15=>?_
 refine .op ((hc0_1.sl (S0.atB (i:=0) rfl) (j:=1) rfl).iS h15 rfl) ?_
 refine .bd fun a19 h20=>?_
 obtain ⟨c21,H16,e17,h22,h23,S18⟩:=S0.seB (i:=0) (j:=1) (own:=true) (σ:=(6::0::1::1::0::σ)) (nv:=[(.p (.bool true))]) (xv:=(.p (.bool true))) (n:=1) (e:=1) (off:=0) rfl rfl hc0_1 hn0_1 h15 h20 rfl rfl (by decide) (z4h (sB _)) (Dt.whole (show dB.R true [(.p (.bool true))] from rfl) rfl)
 refine .op (sM e17) ?_
 exact .fin (S18.finN (lC (sB _).lv lN)) ⟨c0_0,c21,hc0_0,hn0_0,h22,(Nq.nn h23),rfl⟩
end
end Go.Ev
namespace Go.Ev
open Go.Proofs
set_option linter.unusedVariables false
set_option linter.unusedSimpArgs false
set_option maxRecDepth 100000
noncomputable section
abbrev KT11:=Exit→Env→H→Option (List C × H)
variable (rec : CallF) (loop : LoopV) (σ : Stamp)
theorem z5q (x0:V) (x1:Int) (x2:Int) (h:H):cvBody G rec loop 43 σ [x0,(.p (.int .i64 x1)),(.p (.int .i64 x2))] h =
(callO rec 55 (2::0::0::σ) [x0,(.p (.int .i64 x1))] (List.replicate 24 []::h) (some 8)).bind fun q1 =>
(asB q1.1).bind fun b2 =>
bif b2 then (
(nilChk x0).bind fun t3 =>
(fA t3 0).bind fun t4 =>
(ldO false 1 q1.2 t4).bind fun t5 =>
(nilChk x0).bind fun t6 =>
(fA t6 0).bind fun t7 =>
(ldO false 1 q1.2 t7).bind fun t8 =>
(iS 1 t8 x1).bind fun t9 =>
(ldO false 1 q1.2 t9).bind fun t10 =>
(castI .i64 t10).bind fun n11 =>
(iS 1 t5 x1).bind fun t12 =>
((stO true 1 (15::1::0::σ) q1.2 t12 (.p (.int .i64 ((if x2>n11 then x2 else n11))))).map fun h=>(udf,h)).bind fun q13 =>
fin false σ q13.2 [])
else (
fin false σ q1.2 []):=by kernel_rfl
end
end Go.Ev
namespace Go.Ev
open Go.Proofs
set_option linter.unusedVariables false
set_option linter.unusedSimpArgs false
set_option maxRecDepth 100000
section
variable {β α : Type} {Q : β→α→Prop} {K : Exit × Env × H→Option α}
def z1x (x0:ze) (x1:Int) (x2:Int):Option (ze) :=
(z1d x0 x1).bind fun r1 =>
bif r1 then (
(ix x0.f_At x1).bind fun a7 =>
(ix x0.f_At x1).bind fun a10 =>
(stx x0.f_At x1 ((if x2>a7 then x2 else a7))).bind fun a15 =>
some ((⟨a15,x0.R⟩:ze)))
else (
some (x0))
theorem z3k {h:H} {σ:Stamp} (x0:ze) {c0_0:C} (hc0_0:SoC (dI .i64) x0.f_At c0_0) (hn0_0:Nn c0_0 1) {c0_1:C} (hc0_1:SoC dB x0.R c0_1) (hn0_1:Nn c0_1 1) {l0:Loc} {o0:Nat} (ha0:AtC h l0 o0 ([c0_0,c0_1])) (x1:Int) (x2:Int):Sim (z1x x0 x1 x2) (ev G X0 43 σ [(.ref l0 o0),(.p (.int .i64 x1)),(.p (.int .i64 x2))] h) (fun r s=>∃ (cb0_0:C),∃ (cb0_1:C),SoC (dI .i64) r.f_At cb0_0∧Nn cb0_0 1∧SoC dB r.R cb0_1∧Nn cb0_1 1∧s=([],pts h [⟨l0,o0,[cb0_0,cb0_1]⟩])):=by
 refine .ev rfl (Sim.ext (z5q _ _ _ _ _ _ _) ?_)
 rw [z1x]
 have S0:Fm 24 h [⟨l0,o0,[c0_0,c0_1]⟩] [] [] (List.replicate 24 []::h):=Fm.start1 ha0
 refine .call (z2n x0 hc0_0 hn0_0 hc0_1 hn0_1 (S0.atB (i:=0) rfl) x1) fun r1 cs2 H3 h4 q5=>?_
 cases q5
 refine .ab ?_
 refine .cq ?_ ?_
 ·refine .nc ?_
  refine .fa ?_
  refine .op (hc0_0.ld (S0.atB (i:=0) rfl) (j:=0) rfl) ?_
  refine .nc ?_
  refine .fa ?_
  refine .op (hc0_0.ld (S0.atB (i:=0) rfl) (j:=0) rfl) ?_
  refine .bd fun a7 h8=>?_
  refine .op ((hc0_0.sl (S0.atB (i:=0) rfl) (j:=0) rfl).iS h8 rfl) ?_
  obtain ⟨_,rfl,hE9⟩:=(hc0_0.sl (S0.atB (i:=0) rfl) (j:=0) rfl).el h8 rfl
  refine .op (hE9.ld (j:=0) rfl) ?_
  refine .ci ?_
  refine .bd fun a10 h11=>?_
  refine .op ((hc0_0.sl (S0.atB (i:=0) rfl) (j:=0) rfl).iS h11 rfl) ?_
  refine .bd fun a15 h16=>?_
  obtain ⟨c17,H12,e13,h18,h19,S14⟩:=S0.seB (i:=0) (j:=0) (own:=true) (σ:=(15::1::0::σ)) (nv:=[(.p (.int .i64 ((if x2>a7 then x2 else a7))))]) (xv:=(.p (.int .i64 ((if x2>a7 then x2 else a7))))) (n:=1) (e:=1) (off:=0) rfl rfl hc0_0 hn0_0 h11 h16 rfl rfl (by decide) (z4h (sI _ _)) (Dt.whole (show (dI .i64).R ((if x2>a7 then x2 else a7)) [(.p (.int .i64 ((if x2>a7 then x2 else a7))))] from rfl) rfl)
  refine .op (sM e13) ?_
  exact .fin (S14.finN lN) ⟨c17,c0_1,h18,(Nq.nn h19),hc0_1,hn0_1,rfl⟩
 exact .fin (S0.finN lN) ⟨c0_0,c0_1,hc0_0,hn0_0,hc0_1,hn0_1,rfl⟩
end
end Go.Ev
namespace Go.Ev
open Go.Proofs
set_option linter.unusedVariables false
set_option linter.unusedSimpArgs false
set_option maxRecDepth 100000
noncomputable section
abbrev KT12:=Exit→Env→H→Option (List C × H)
variable (rec : CallF) (loop : LoopV) (σ : Stamp)
theorem z5p (x0:V) (x1:Int) (x2:Int) (h:H):cvBody G rec loop 42 σ [x0,(.p (.int .i64 x1)),(.p (.int .i64 x2))] h =
(callO rec 55 (2::0::0::1::0::σ) [x0,(.p (.int .i64 x1))] (List.replicate 31 []::h) (some 9)).bind fun q1 =>
(asB q1.1).bind fun b2 =>
(bif !b2 then (some true) else ((nilChk x0).bind fun t3 =>
(fA t3 1).bind fun t4 =>
(ldO false 1 q1.2 t4).bind fun t5 =>
(iS 1 t5 x1).bind fun t6 =>
(ldO false 1 q1.2 t6).bind fun t7 =>
(asB t7).bind fun b8 =>
some (!b8))).bind fun b9 =>
bif b9 then (
fin false σ q1.2 [(.p (.bool false))])
else (
(nilChk x0).bind fun t10 =>
(fA t10 1).bind fun t11 =>
(ldO false 1 q1.2 t11).bind fun t12 =>
(iS 1 t12 x1).bind fun t13 =>
((stO true 1 (6::0::1::1::0::σ) q1.2 t13 (.p (.bool false))).map fun h=>(udf,h)).bind fun q14 =>
(callO rec 43 (3::0::1::1::1::0::σ) [x0,(.p (.int .i64 x1)),(.p (.int .i64 x2))] q14.2 (some 30)).bind fun q15 =>
fin false σ q15.2 [(.p (.bool true))]):=by kernel_rfl
end
end Go.Ev
namespace Go.Ev
open Go.Proofs
set_option linter.unusedVariables false
set_option linter.unusedSimpArgs false
set_option maxRecDepth 100000
section
variable {β α : Type} {Q : β→α→Prop} {K : Exit × Env × H→Option α}
def z33 (x0:ze) (x1:Int) (x2:Int):Option (Bool×ze) :=
(z1d x0 x1).bind fun r1 =>
(bif !r1 then (some true) else ((ix x0.R x1).bind fun a6 =>
some (!a6))).bind fun b9 =>
bif b9 then (
some (false,x0))
else (
(ix x0.R x1).bind fun a14 =>
(stx x0.R x1 false).bind fun a19 =>
(z1x (⟨x0.f_At,a19⟩:ze) x1 x2).bind fun r24 =>
some (true,r24))
theorem z75 {h:H} {σ:Stamp} (x0:ze) {c0_0:C} (hc0_0:SoC (dI .i64) x0.f_At c0_0) (hn0_0:Nn c0_0 1) {c0_1:C} (hc0_1:SoC dB x0.R c0_1) (hn0_1:Nn c0_1 1) {l0:Loc} {o0:Nat} (ha0:AtC h l0 o0 ([c0_0,c0_1])) (x1:Int) (x2:Int):Sim (z33 x0 x1 x2) (ev G X0 42 σ [(.ref l0 o0),(.p (.int .i64 x1)),(.p (.int .i64 x2))] h) (fun r s=>∃ (cb0_0:C),∃ (cb0_1:C),SoC (dI .i64) r.2.f_At cb0_0∧Nn cb0_0 1∧SoC dB r.2.R cb0_1∧Nn cb0_1 1∧s=([.v (.p (.bool r.1))],pts h [⟨l0,o0,[cb0_0,cb0_1]⟩])):=by
 refine .ev rfl (Sim.ext (z5p _ _ _ _ _ _ _) ?_)
 rw [z33]
 have S0:Fm 31 h [⟨l0,o0,[c0_0,c0_1]⟩] [] [] (List.replicate 31 []::h):=Fm.start1 ha0
 refine .call (z2n x0 hc0_0 hn0_0 hc0_1 hn0_1 (S0.atB (i:=0) rfl) x1) fun r1 cs2 H3 h4 q5=>?_
 cases q5
 refine .ab ?_
 refine .ch (P:=fun r y=>r=y) ?_ (fun b9 y10 h11 h12=>?_)
 ·refine .cq ?_ ?_
  ·exact .ret rfl rfl
  ·refine .nc ?_
   refine .fa ?_
   refine .op (hc0_1.ld (S0.atB (i:=0) rfl) (j:=1) rfl) ?_
   refine .bd fun a6 h7=>?_
   refine .op ((hc0_1.sl (S0.atB (i:=0) rfl) (j:=1) rfl).iS h7 rfl) ?_
   obtain ⟨_,rfl,hE8⟩:=(hc0_1.sl (S0.atB (i:=0) rfl) (j:=1) rfl).el h7 rfl
   refine .op (hE8.ld (j:=0) rfl) ?_
   refine .ab ?_
   exact .ret rfl rfl
 subst h12
 refine .cq ?_ ?_
 ·exact .fin (S0.finN (lC (sB _).lv lN)) ⟨c0_0,c0_1,hc0_0,hn0_0,hc0_1,hn0_1,rfl⟩
 refine .nc ?_
 refine .fa ?_
 refine .op (hc0_1.ld (S0.atB (i:=0) rfl) (j:=1) rfl) ?_
 refine .bd fun a14 h15=>?_
 refine .op ((hc0_1.sl (S0.atB (i:=0) rfl) (j:=1) rfl).iS h15 rfl) ?_
 refine .bd fun a19 h20=>?_
 obtain ⟨c21,H16,e17,h22,h23,S18⟩:=S0.seB (i:=0) (j:=1) (own:=true) (σ:=(6::0::1::1::0::σ)) (nv:=[(.p (.bool false))]) (xv:=(.p (.bool false))) (n:=1) (e:=1) (off:=0) rfl rfl hc0_1 hn0_1 h15 h20 rfl rfl (by decide) (z4h (sB _)) (Dt.whole (show dB.R false [(.p (.bool false))] from rfl) rfl)
 refine .op (sM e17) ?_
 refine .call (z3k (⟨x0.f_At,a19⟩:ze) hc0_0 hn0_0 h22 (Nq.nn h23) (S18.atB (i:=0) rfl) x1 x2) fun r24 cs25 H26 h27 q28=>?_
 obtain ⟨c29,c32,h30,h31,h33,h34,q28⟩:=q28
 cases q28
 have S35:=S18.setB (i:=0) (cs:=[c29,c32]) rfl rfl
 exact .fin (S35.finN (lC (sB _).lv lN)) ⟨c29,c32,h30,h31,h33,h34,rfl⟩
def z19 {β:Type} (k:Nat) (kE0:Int→(List z6)→Int→z8→ze→Option β) (kE1:Bool→Option β) (x0:Int) (x1:(List z6)) (x7:Int) (x9:Int) (yg65:z8) (yg73:ze):Option β:=match k with
| 0=>none
| k+1 =>
bif decide (x9≤x0) then (
(zx yg65 x9).bind fun r175 =>
(bif decide (x9≥0) then (some (decide (x9<x0))) else (some false)).bind fun b180 =>
(bif b180 then ((ix yg73.R x9).bind fun a184 =>
some a184) else (some false)).bind fun b187 =>
bif !(r175==b187) then (
kE1 false)
else (
z19 k kE0 kE1 x0 x1 x7 (IntKind.wrap .i64 (x9+1)) yg65 yg73))
else (
kE0 x0 x1 x7 yg65 yg73)
def z1b {β:Type} (k:Nat) (kE0:z8→Option β) (kE1:Bool→Option β) (x0:Int) (x1:(List z6)) (x7:Int) (yg35:z8) (yg56:ze):Option β:=match k with
| 0=>none
| k+1 =>
(bif decide (x7<((x1.length:Int))) then (some (decide (x7<100))) else (some false)).bind fun b74 =>
bif b74 then (
(ix x1 x7).bind fun a79 =>
bif a79.Kind==2 then (
(z12 yg35 a79.I).bind fun r92 =>
(z2o yg56 a79.I).bind fun r101 =>
bif !(r92.1==r101.1) then (
kE1 false)
else (
(zc k r92.2 a79.Now).bind fun r114 =>
(zh k r101.2 a79.Now).bind fun r121 =>
(zt k r114 r121).bind fun r128 =>
(bif !r128 then (some true) else ((zc k r92.2 (IntKind.wrap .i64 (x7*90000))).bind fun r133 =>
(zh k r101.2 (IntKind.wrap .i64 (x7*90000))).bind fun r140 =>
(zt k r133 r140).bind fun r147 =>
some (!r147))).bind fun b152 =>
bif b152 then (
kE1 false)
else (
z19 k (fun r211_0 r211_1 r211_7 yg165 yg173 =>
z1b k kE0 kE1 r211_0 r211_1 (IntKind.wrap .i64 (r211_7+1)) yg165 yg173) (fun r229_4 =>
kE1 r229_4) x0 x1 x7 (-1) r92.2 r101.2)))
else (
bif a79.Kind==3 then (
(z1c yg35 a79.I a79.Now).bind fun r233 =>
(z33 yg56 a79.I a79.Now).bind fun r242 =>
bif !(r233.1==r242.1) then (
kE1 false)
else (
(zc k r233.2 a79.Now).bind fun r255 =>
(zh k r242.2 a79.Now).bind fun r262 =>
(zt k r255 r262).bind fun r269 =>
(bif !r269 then (some true) else ((zc k r233.2 (IntKind.wrap .i64 (x7*90000))).bind fun r274 =>
(zh k r242.2 (IntKind.wrap .i64 (x7*90000))).bind fun r281 =>
(zt k r274 r281).bind fun r288 =>
some (!r288))).bind fun b293 =>
bif b293 then (
kE1 false)
else (
z19 k (fun r298_0 r298_1 r298_7 yg165 yg173 =>
z1b k kE0 kE1 r298_0 r298_1 (IntKind.wrap .i64 (r298_7+1)) yg165 yg173) (fun r316_4 =>
kE1 r316_4) x0 x1 x7 (-1) r233.2 r242.2)))
else (
bif a79.Kind==4 then (
(zc k yg35 a79.Now).bind fun r320 =>
(zh k yg56 a79.Now).bind fun r327 =>
(zt k r320 r327).bind fun r334 =>
(bif !r334 then (some true) else ((zc k yg35 (IntKind.wrap .i64 (x7*90000))).bind fun r339 =>
(zh k yg56 (IntKind.wrap .i64 (x7*90000))).bind fun r346 =>
(zt k r339 r346).bind fun r353 =>
some (!r353))).bind fun b358 =>
bif b358 then (
kE1 false)
else (
z19 k (fun r363_0 r363_1 r363_7 yg165 yg173 =>
z1b k kE0 kE1 r363_0 r363_1 (IntKind.wrap .i64 (r363_7+1)) yg165 yg173) (fun r381_4 =>
kE1 r381_4) x0 x1 x7 (-1) yg35 yg56))
else (
(z1e yg35 a79.I a79.Now).bind fun r384 =>
(z1x yg56 a79.I a79.Now).bind fun r393 =>
(zc k r384 a79.Now).bind fun r405 =>
(zh k r393 a79.Now).bind fun r412 =>
(zt k r405 r412).bind fun r419 =>
(bif !r419 then (some true) else ((zc k r384 (IntKind.wrap .i64 (x7*90000))).bind fun r424 =>
(zh k r393 (IntKind.wrap .i64 (x7*90000))).bind fun r431 =>
(zt k r424 r431).bind fun r438 =>
some (!r438))).bind fun b443 =>
bif b443 then (
kE1 false)
else (
z19 k (fun r448_0 r448_1 r448_7 yg165 yg173 =>
z1b k kE0 kE1 r448_0 r448_1 (IntKind.wrap .i64 (r448_7+1)) yg165 yg173) (fun r466_4 =>
kE1 r466_4) x0 x1 x7 (-1) r384 r393)))))
else (
kE0 yg35)
def z4 (k:Nat) (x0:Int) (x1:(List z6)):Option (Bool) :=
(z2i x0).bind fun r1 =>
(match r1 with
| none=>(
(bif decide (x0<1) then (some true) else (some (decide (x0>3)))).bind fun b11 =>
bif b11 then (
some (true))
else (
(z2s x0).bind fun r16 =>
none))
| some r6=>(
(bif decide (x0<1) then (some true) else (some (decide (x0>3)))).bind fun b36 =>
bif b36 then (
some (false))
else (
(z2s x0).bind fun r41 =>
z1b k (fun yg65 =>
some (true)) (fun r486_4 =>
some (r486_4)) x0 x1 0 r6 r41)))
theorem z2q {h:H}  {kE0:Int→(List z6)→Int→z8→ze→Option β} {kE1:Bool→Option β} (hE0:∀ (q0:Int) (q1:(List z6)) (q7:Int) (yg165:z8) (yg173:ze) (v194:V) (h195:SlH h zm q1 v194) (c196:C) (h197:SoC z7 yg165.l c196) (h198:Nn c196 2) (s199:Stamp) (c201:C) (h202:SoC (dI .i64) yg173.f_At c201) (h203:Nn c201 1) (c204:C) (h205:SoC dB yg173.R c204) (h206:Nn c204 1) (s207:Stamp) (H192:Go.Ev.H) (_:Fm 129 h [] [(11,s199,[c196]),(21,s207,[c201,c204])] [] H192),Sim (kE0 q0 q1 q7 yg165 yg173) (K ((.exit 3),(envL [(0,(.p (.int .i64 q0))),(1,v194),(5,(.ref ⟨h.length,11,0,s199,[]⟩ 0)),(6,(.ref ⟨h.length,21,0,s207,[]⟩ 0)),(7,(.p (.int .i64 q7)))]),H192)) Q) (hE1:∀ (q4:Bool) (H209:Go.Ev.H) (_:Fm 129 h [] [] [] H209),Sim (kE1 q4) (K (.ret,(envL [(4,(.p (.bool q4)))]),H209)) Q) (k:Nat):∀ (x0:Int) (x1:(List z6)) (x7:Int) (x9:Int) (yg65:z8) (yg73:ze) (v159:V) (h160:SlH h zm x1 v159) (c161:C) (h162:SoC z7 yg65.l c161) (h163:Nn c161 2) (s164:Stamp) (c166:C) (h167:SoC (dI .i64) yg73.f_At c166) (h168:Nn c166 1) (c169:C) (h170:SoC dB yg73.R c169) (h171:Nn c169 1) (s172:Stamp) (H157:Go.Ev.H) (_:Fm 129 h [] [(11,s164,[c161]),(21,s172,[c166,c169])] [] H157) {σ:Stamp},Sim (z19 k kE0 kE1 x0 x1 x7 x9 yg65 yg73) ((cvL G X0 z1t z1s σ (envL [(0,(.p (.int .i64 x0))),(1,v159),(5,(.ref ⟨h.length,11,0,s164,[]⟩ 0)),(6,(.ref ⟨h.length,21,0,s172,[]⟩ 0)),(7,(.p (.int .i64 x7))),(9,(.p (.int .i64 x9)))]) H157).bind K) Q:=by
 induction k with
 | zero=>intros;exact .no
 | succ k ih =>
  intro x0 x1 x7 x9 yg65 yg73 v159 h160 c161 h162 h163 s164 c166 h167 h168 c169 h170 h171 s172 H157 S158 σ
  rw [z19]
  refine .round (Sim.ext (zbe _ _ _ _ _ _ _ _ _ _) ?_)
  refine .cq ?_ ?_
  ·refine .call (z1q yg65 h162 h163 (S158.atG (i:=0) rfl) x9) fun r175 cs176 H177 h178 q179=>?_
   cases q179
   refine .ab ?_
   refine .ch (P:=fun r y=>r=y) ?_ (fun b180 y181 h182 h183=>?_)
   ·refine .cq ?_ ?_
    ·exact .ret rfl rfl
    ·exact .ret rfl rfl
   subst h183
   refine .ch (P:=fun r y=>r=y) ?_ (fun b187 y188 h189 h190=>?_)
   ·refine .cq ?_ ?_
    ·refine .nc ?_
     refine .fa ?_
     refine .op (h170.ld (S158.atG (i:=1) rfl) (j:=1) rfl) ?_
     refine .bd fun a184 h185=>?_
     refine .op ((h170.sl (S158.atG (i:=1) rfl) (j:=1) rfl).iS h185 rfl) ?_
     obtain ⟨_,rfl,hE186⟩:=(h170.sl (S158.atG (i:=1) rfl) (j:=1) rfl).el h185 rfl
     refine .op (hE186.ld (j:=0) rfl) ?_
     refine .ab ?_
     exact .ret rfl rfl
    ·exact .ret rfl rfl
   subst h190
   refine .cq ?_ ?_
   ·exact hE1 false H157 (S158.wk2 aN aN)
   exact ih x0 x1 x7 (IntKind.wrap .i64 (x9+1)) yg65 yg73 v159 h160 c161 h162 h163 s164 c166 h167 h168 c169 h170 h171 s172 H157 (S158.wk2 (aC (aM 0 rfl) (aC (aM 1 rfl) aN)) aN)
  exact hE0 x0 x1 x7 yg65 yg73 v159 h160 c161 h162 h163 s164 c166 h167 h168 c169 h170 h171 s172 H157 (S158.wk2 (aC (aM 0 rfl) (aC (aM 1 rfl) aN)) aN)
theorem z9b {h:H}  {kE0:z8→Option β} {kE1:Bool→Option β} (hE0:∀ (yg65:z8) (c471:C) (h472:SoC z7 yg65.l c471) (h473:Nn c471 2) (s474:Stamp) (H469:Go.Ev.H) (_:Fm 129 h [] [(11,s474,[c471])] [] H469),Sim (kE0 yg65) (K ((.exit 0),(envL [(5,(.ref ⟨h.length,11,0,s474,[]⟩ 0))]),H469)) Q) (hE1:∀ (q4:Bool) (H476:Go.Ev.H) (_:Fm 129 h [] [] [] H476),Sim (kE1 q4) (K (.ret,(envL [(4,(.p (.bool q4)))]),H476)) Q) (k:Nat):∀ (x0:Int) (x1:(List z6)) (x7:Int) (yg35:z8) (yg56:ze) (v59:V) (h60:SlH h zm x1 v59) (c61:C) (h62:SoC z7 yg35.l c61) (h63:Nn c61 2) (s64:Stamp) (c66:C) (h67:SoC (dI .i64) yg56.f_At c66) (h68:Nn c66 1) (c69:C) (h70:SoC dB yg56.R c69) (h71:Nn c69 1) (s72:Stamp) (H57:Go.Ev.H) (_:Fm 129 h [] [(11,s64,[c61]),(21,s72,[c66,c69])] [] H57) {σ:Stamp},Sim (z1b k kE0 kE1 x0 x1 x7 yg35 yg56) ((cvL G X0 z3t z3o σ (envL [(0,(.p (.int .i64 x0))),(1,v59),(5,(.ref ⟨h.length,11,0,s64,[]⟩ 0)),(6,(.ref ⟨h.length,21,0,s72,[]⟩ 0)),(7,(.p (.int .i64 x7)))]) H57).bind K) Q:=by
 induction k with
 | zero=>intros;exact .no
 | succ k ih =>
  intro x0 x1 x7 yg35 yg56 v59 h60 c61 h62 h63 s64 c66 h67 h68 c69 h70 h71 s72 H57 S58 σ
  rw [z1b]
  refine .round (Sim.ext (zba _ _ _ _ _ _ _ _ _) ?_)
  refine .op ((S58.low h60).len) ?_
  refine .ci ?_
  refine .ch (P:=fun r y=>r=y) ?_ (fun b74 y75 h76 h77=>?_)
  ·refine .cq ?_ ?_
   ·exact .ret rfl rfl
   ·exact .ret rfl rfl
  subst h77
  refine .cq ?_ ?_
  ·refine .bd fun a79 h80=>?_
   refine .op ((S58.low h60).iS h80 rfl) ?_
   obtain ⟨w82,h83,hE81⟩:=(S58.low h60).el h80 rfl
   obtain rfl:=zm.inv h83
   refine .op (hE81.all (by simp)) ?_
   obtain ⟨H84,e85,S86⟩:=S58.al (d:=8) (s:=(4::0::0::1::0::σ)) (z:=[(.p (.int .i64 0)),(.p (.int .i64 0)),(.p (.int .i64 0))]) (by decide) rfl
   refine .op (congrArg some e85) ?_
   obtain ⟨H88,e89,S90⟩:=S86.stGv (i:=0) (j:=0) (own:=false) (σ:=(5::0::0::1::0::σ)) (xs:=[.p (.int .i64 a79.Kind),.p (.int .i64 a79.I),.p (.int .i64 a79.Now)]) rfl rfl (sC (sI _ _) (sC (sI _ _) (sC (sI _ _) sN))) rfl rfl
   refine .op (sM e89) ?_
   refine .op ((by kernel_rfl:_=some (.p (.bool false)))) ?_
   refine .ab ?_
   refine .cdf rfl ?_
   refine .fa ?_
   refine .op ((S90.atG (i:=0) rfl).ld (j:=0) rfl) ?_
   refine .ci ?_
   refine .cq ?_ ?_
   ·refine .fa ?_
    refine .op ((S90.atG (i:=0) rfl).ld (j:=1) rfl) ?_
    refine .ci ?_
    refine .fa ?_
    refine .op ((S90.atG (i:=0) rfl).ld (j:=1) rfl) ?_
    refine .ci ?_
    refine .call (z1u yg35 h62 h63 (S90.atG (i:=1) rfl) a79.I) fun r92 cs93 H94 h95 q96=>?_
    obtain ⟨c97,h98,h99,q96⟩:=q96
    cases q96
    have S100:=S90.setG (i:=1) (cs':=[c97]) rfl rfl rfl
    refine .ab ?_
    refine .nd ((S100.atG (i:=0) rfl).ld (j:=1) rfl) ?_
    refine .call (z6n yg56 h67 h68 h70 h71 (S100.atG (i:=2) rfl) a79.I) fun r101 cs102 H103 h104 q105=>?_
    obtain ⟨c106,c109,h107,h108,h110,h111,q105⟩:=q105
    cases q105
    have S112:=S100.setG (i:=2) (cs':=[c106,c109]) rfl rfl rfl
    refine .ab ?_
    refine .cq ?_ ?_
    ·exact hE1 false (ptC (ptC H88 ⟨h.length,11,0,s64,[]⟩ 0 ([c97])) ⟨h.length,21,0,s72,[]⟩ 0 ([c106,c109])) (S112.wk2 aN aN)
    refine .fa ?_
    refine .op ((S112.atG (i:=0) rfl).ld (j:=2) rfl) ?_
    refine .ci ?_
    refine .fa ?_
    refine .op ((S112.atG (i:=0) rfl).ld (j:=2) rfl) ?_
    refine .ci ?_
    refine .call (zg k r92.2 h98 h99 (S112.atG (i:=1) rfl) a79.Now) fun r114 cs115 H116 h117 q118=>?_
    obtain ⟨v119,h120,q118⟩:=q118
    cases q118
    refine .nd ((S112.atG (i:=0) rfl).ld (j:=2) rfl) ?_
    refine .call (zl k r101.2 h107 h108 h110 h111 (S112.atG (i:=2) rfl) a79.Now) fun r121 cs122 H123 h124 q125=>?_
    obtain ⟨v126,h127,q125⟩:=q125
    cases q125
    refine .call (zw k r114 (h120.h (ptC (ptC H88 ⟨h.length,11,0,s64,[]⟩ 0 ([c97])) ⟨h.length,21,0,s72,[]⟩ 0 ([c106,c109]))) r121 (h127.h (ptC (ptC H88 ⟨h.length,11,0,s64,[]⟩ 0 ([c97])) ⟨h.length,21,0,s72,[]⟩ 0 ([c106,c109])))) fun r128 cs129 H130 h131 q132=>?_
    cases q132
    refine .ab ?_
    refine .ch (P:=fun r y=>(.p (.bool r),(ptC (ptC H88 ⟨h.length,11,0,s64,[]⟩ 0 ([c97])) ⟨h.length,21,0,s72,[]⟩ 0 ([c106,c109])))=y) ?_ (fun b152 y153 h154 h155=>?_)
    ·refine .cq ?_ ?_
     ·exact .ret rfl rfl
     ·refine .call (zg k r92.2 h98 h99 (S112.atG (i:=1) rfl) (IntKind.wrap .i64 (x7*90000))) fun r133 cs134 H135 h136 q137=>?_
      obtain ⟨v138,h139,q137⟩:=q137
      cases q137
      refine .call (zl k r101.2 h107 h108 h110 h111 (S112.atG (i:=2) rfl) (IntKind.wrap .i64 (x7*90000))) fun r140 cs141 H142 h143 q144=>?_
      obtain ⟨v145,h146,q144⟩:=q144
      cases q144
      refine .call (zw k r133 (h139.h (ptC (ptC H88 ⟨h.length,11,0,s64,[]⟩ 0 ([c97])) ⟨h.length,21,0,s72,[]⟩ 0 ([c106,c109]))) r140 (h146.h (ptC (ptC H88 ⟨h.length,11,0,s64,[]⟩ 0 ([c97])) ⟨h.length,21,0,s72,[]⟩ 0 ([c106,c109])))) fun r147 cs148 H149 h150 q151=>?_
      cases q151
      refine .ab ?_
      exact .ret rfl rfl
    subst h155
    refine .ab ?_
    refine .cq ?_ ?_
    ·exact hE1 false (ptC (ptC H88 ⟨h.length,11,0,s64,[]⟩ 0 ([c97])) ⟨h.length,21,0,s72,[]⟩ 0 ([c106,c109])) (S112.wk2 aN aN)
    refine .as (z2q ?_ ?_ k x0 x1 x7 (-1) r92.2 r101.2 v59 h60 c97 h98 h99 s64 c106 h107 h108 c109 h110 h111 s72 (ptC (ptC H88 ⟨h.length,11,0,s64,[]⟩ 0 ([c97])) ⟨h.length,21,0,s72,[]⟩ 0 ([c106,c109])) (S112.wk2 (aC (aM 1 rfl) (aC (aM 2 rfl) aN)) aN))
    ·intro r211_0 r211_1 r211_7 yg165 yg173 v214 h215 c216 h217 h218 s219 c221 h222 h223 c224 h225 h226 s227 H212 S213
     refine .ext (z31 _ _ _ _ _ _ _ _ _) ?_
     exact ih r211_0 r211_1 (IntKind.wrap .i64 (r211_7+1)) yg165 yg173 v214 h215 c216 h217 h218 s219 c221 h222 h223 c224 h225 h226 s227 H212 (S213.wk2 (aC (aM 0 rfl) (aC (aM 1 rfl) aN)) aN)
    ·intro r229_4 H230 S231
     refine .ext (z2f _ _ _ _ _) ?_
     exact hE1 r229_4 H230 (S231.wk2 aN aN)
   refine .cq ?_ ?_
   ·refine .fa ?_
    refine .op ((S90.atG (i:=0) rfl).ld (j:=1) rfl) ?_
    refine .ci ?_
    refine .fa ?_
    refine .op ((S90.atG (i:=0) rfl).ld (j:=2) rfl) ?_
    refine .ci ?_
    refine .fa ?_
    refine .op ((S90.atG (i:=0) rfl).ld (j:=1) rfl) ?_
    refine .ci ?_
    refine .fa ?_
    refine .op ((S90.atG (i:=0) rfl).ld (j:=2) rfl) ?_
    refine .ci ?_
    refine .call (z2m yg35 h62 h63 (S90.atG (i:=1) rfl) a79.I a79.Now) fun r233 cs234 H235 h236 q237=>?_
    obtain ⟨c238,h239,h240,q237⟩:=q237
    cases q237
    have S241:=S90.setG (i:=1) (cs':=[c238]) rfl rfl rfl
    refine .ab ?_
    refine .nd ((S241.atG (i:=0) rfl).ld (j:=2) rfl) ?_
    refine .nd ((S241.atG (i:=0) rfl).ld (j:=1) rfl) ?_
    refine .call (z75 yg56 h67 h68 h70 h71 (S241.atG (i:=2) rfl) a79.I a79.Now) fun r242 cs243 H244 h245 q246=>?_
    obtain ⟨c247,c250,h248,h249,h251,h252,q246⟩:=q246
    cases q246
    have S253:=S241.setG (i:=2) (cs':=[c247,c250]) rfl rfl rfl
    refine .ab ?_
    refine .cq ?_ ?_
    ·exact hE1 false (ptC (ptC H88 ⟨h.length,11,0,s64,[]⟩ 0 ([c238])) ⟨h.length,21,0,s72,[]⟩ 0 ([c247,c250])) (S253.wk2 aN aN)
    refine .fa ?_
    refine .op ((S253.atG (i:=0) rfl).ld (j:=2) rfl) ?_
    refine .ci ?_
    refine .fa ?_
    refine .op ((S253.atG (i:=0) rfl).ld (j:=2) rfl) ?_
    refine .ci ?_
    refine .call (zg k r233.2 h239 h240 (S253.atG (i:=1) rfl) a79.Now) fun r255 cs256 H257 h258 q259=>?_
    obtain ⟨v260,h261,q259⟩:=q259
    cases q259
    refine .nd ((S253.atG (i:=0) rfl).ld (j:=2) rfl) ?_
    refine .call (zl k r242.2 h248 h249 h251 h252 (S253.atG (i:=2) rfl) a79.Now) fun r262 cs263 H264 h265 q266=>?_
    obtain ⟨v267,h268,q266⟩:=q266
    cases q266
    refine .call (zw k r255 (h261.h (ptC (ptC H88 ⟨h.length,11,0,s64,[]⟩ 0 ([c238])) ⟨h.length,21,0,s72,[]⟩ 0 ([c247,c250]))) r262 (h268.h (ptC (ptC H88 ⟨h.length,11,0,s64,[]⟩ 0 ([c238])) ⟨h.length,21,0,s72,[]⟩ 0 ([c247,c250])))) fun r269 cs270 H271 h272 q273=>?_
    cases q273
    refine .ab ?_
    refine .ch (P:=fun r y=>(.p (.bool r),(ptC (ptC H88 ⟨h.length,11,0,s64,[]⟩ 0 ([c238])) ⟨h.length,21,0,s72,[]⟩ 0 ([c247,c250])))=y) ?_ (fun b293 y294 h295 h296=>?_)
    ·refine .cq ?_ ?_
     ·exact .ret rfl rfl
     ·refine .call (zg k r233.2 h239 h240 (S253.atG (i:=1) rfl) (IntKind.wrap .i64 (x7*90000))) fun r274 cs275 H276 h277 q278=>?_
      obtain ⟨v279,h280,q278⟩:=q278
      cases q278
      refine .call (zl k r242.2 h248 h249 h251 h252 (S253.atG (i:=2) rfl) (IntKind.wrap .i64 (x7*90000))) fun r281 cs282 H283 h284 q285=>?_
      obtain ⟨v286,h287,q285⟩:=q285
      cases q285
      refine .call (zw k r274 (h280.h (ptC (ptC H88 ⟨h.length,11,0,s64,[]⟩ 0 ([c238])) ⟨h.length,21,0,s72,[]⟩ 0 ([c247,c250]))) r281 (h287.h (ptC (ptC H88 ⟨h.length,11,0,s64,[]⟩ 0 ([c238])) ⟨h.length,21,0,s72,[]⟩ 0 ([c247,c250])))) fun r288 cs289 H290 h291 q292=>?_
      cases q292
      refine .ab ?_
      exact .ret rfl rfl
    subst h296
    refine .ab ?_
    refine .cq ?_ ?_
    ·exact hE1 false (ptC (ptC H88 ⟨h.length,11,0,s64,[]⟩ 0 ([c238])) ⟨h.length,21,0,s72,[]⟩ 0 ([c247,c250])) (S253.wk2 aN aN)
    refine .as (z2q ?_ ?_ k x0 x1 x7 (-1) r233.2 r242.2 v59 h60 c238 h239 h240 s64 c247 h248 h249 c250 h251 h252 s72 (ptC (ptC H88 ⟨h.length,11,0,s64,[]⟩ 0 ([c238])) ⟨h.length,21,0,s72,[]⟩ 0 ([c247,c250])) (S253.wk2 (aC (aM 1 rfl) (aC (aM 2 rfl) aN)) aN))
    ·intro r298_0 r298_1 r298_7 yg165 yg173 v301 h302 c303 h304 h305 s306 c308 h309 h310 c311 h312 h313 s314 H299 S300
     refine .ext (z31 _ _ _ _ _ _ _ _ _) ?_
     exact ih r298_0 r298_1 (IntKind.wrap .i64 (r298_7+1)) yg165 yg173 v301 h302 c303 h304 h305 s306 c308 h309 h310 c311 h312 h313 s314 H299 (S300.wk2 (aC (aM 0 rfl) (aC (aM 1 rfl) aN)) aN)
    ·intro r316_4 H317 S318
     refine .ext (z2f _ _ _ _ _) ?_
     exact hE1 r316_4 H317 (S318.wk2 aN aN)
   refine .cq ?_ ?_
   ·refine .fa ?_
    refine .op ((S90.atG (i:=0) rfl).ld (j:=2) rfl) ?_
    refine .ci ?_
    refine .fa ?_
    refine .op ((S90.atG (i:=0) rfl).ld (j:=2) rfl) ?_
    refine .ci ?_
    refine .call (zg k yg35 h62 h63 (S90.atG (i:=1) rfl) a79.Now) fun r320 cs321 H322 h323 q324=>?_
    obtain ⟨v325,h326,q324⟩:=q324
    cases q324
    refine .nd ((S90.atG (i:=0) rfl).ld (j:=2) rfl) ?_
    refine .call (zl k yg56 h67 h68 h70 h71 (S90.atG (i:=2) rfl) a79.Now) fun r327 cs328 H329 h330 q331=>?_
    obtain ⟨v332,h333,q331⟩:=q331
    cases q331
    refine .call (zw k r320 (h326.h H88) r327 (h333.h H88)) fun r334 cs335 H336 h337 q338=>?_
    cases q338
    refine .ab ?_
    refine .ch (P:=fun r y=>(.p (.bool r),H88)=y) ?_ (fun b358 y359 h360 h361=>?_)
    ·refine .cq ?_ ?_
     ·exact .ret rfl rfl
     ·refine .call (zg k yg35 h62 h63 (S90.atG (i:=1) rfl) (IntKind.wrap .i64 (x7*90000))) fun r339 cs340 H341 h342 q343=>?_
      obtain ⟨v344,h345,q343⟩:=q343
      cases q343
      refine .call (zl k yg56 h67 h68 h70 h71 (S90.atG (i:=2) rfl) (IntKind.wrap .i64 (x7*90000))) fun r346 cs347 H348 h349 q350=>?_
      obtain ⟨v351,h352,q350⟩:=q350
      cases q350
      refine .call (zw k r339 (h345.h H88) r346 (h352.h H88)) fun r353 cs354 H355 h356 q357=>?_
      cases q357
      refine .ab ?_
      exact .ret rfl rfl
    subst h361
    refine .ab ?_
    refine .cq ?_ ?_
    ·exact hE1 false H88 (S90.wk2 aN aN)
    refine .as (z2q ?_ ?_ k x0 x1 x7 (-1) yg35 yg56 v59 h60 c61 h62 h63 s64 c66 h67 h68 c69 h70 h71 s72 H88 (S90.wk2 (aC (aM 1 rfl) (aC (aM 2 rfl) aN)) aN))
    ·intro r363_0 r363_1 r363_7 yg165 yg173 v366 h367 c368 h369 h370 s371 c373 h374 h375 c376 h377 h378 s379 H364 S365
     refine .ext (z31 _ _ _ _ _ _ _ _ _) ?_
     exact ih r363_0 r363_1 (IntKind.wrap .i64 (r363_7+1)) yg165 yg173 v366 h367 c368 h369 h370 s371 c373 h374 h375 c376 h377 h378 s379 H364 (S365.wk2 (aC (aM 0 rfl) (aC (aM 1 rfl) aN)) aN)
    ·intro r381_4 H382 S383
     refine .ext (z2f _ _ _ _ _) ?_
     exact hE1 r381_4 H382 (S383.wk2 aN aN)
   refine .fa ?_
   refine .op ((S90.atG (i:=0) rfl).ld (j:=1) rfl) ?_
   refine .ci ?_
   refine .fa ?_
   refine .op ((S90.atG (i:=0) rfl).ld (j:=2) rfl) ?_
   refine .ci ?_
   refine .call (z2p yg35 h62 h63 (S90.atG (i:=1) rfl) a79.I a79.Now) fun r384 cs385 H386 h387 q388=>?_
   obtain ⟨c389,h390,h391,q388⟩:=q388
   cases q388
   have S392:=S90.setG (i:=1) (cs':=[c389]) rfl rfl rfl
   refine .fa ?_
   refine .op ((S392.atG (i:=0) rfl).ld (j:=1) rfl) ?_
   refine .ci ?_
   refine .fa ?_
   refine .op ((S392.atG (i:=0) rfl).ld (j:=2) rfl) ?_
   refine .ci ?_
   refine .call (z3k yg56 h67 h68 h70 h71 (S392.atG (i:=2) rfl) a79.I a79.Now) fun r393 cs394 H395 h396 q397=>?_
   obtain ⟨c398,c401,h399,h400,h402,h403,q397⟩:=q397
   cases q397
   have S404:=S392.setG (i:=2) (cs':=[c398,c401]) rfl rfl rfl
   refine .fa ?_
   refine .op ((S404.atG (i:=0) rfl).ld (j:=2) rfl) ?_
   refine .ci ?_
   refine .fa ?_
   refine .op ((S404.atG (i:=0) rfl).ld (j:=2) rfl) ?_
   refine .ci ?_
   refine .call (zg k r384 h390 h391 (S404.atG (i:=1) rfl) a79.Now) fun r405 cs406 H407 h408 q409=>?_
   obtain ⟨v410,h411,q409⟩:=q409
   cases q409
   refine .nd ((S404.atG (i:=0) rfl).ld (j:=2) rfl) ?_
   refine .call (zl k r393 h399 h400 h402 h403 (S404.atG (i:=2) rfl) a79.Now) fun r412 cs413 H414 h415 q416=>?_
   obtain ⟨v417,h418,q416⟩:=q416
   cases q416
   refine .call (zw k r405 (h411.h (ptC (ptC H88 ⟨h.length,11,0,s64,[]⟩ 0 ([c389])) ⟨h.length,21,0,s72,[]⟩ 0 ([c398,c401]))) r412 (h418.h (ptC (ptC H88 ⟨h.length,11,0,s64,[]⟩ 0 ([c389])) ⟨h.length,21,0,s72,[]⟩ 0 ([c398,c401])))) fun r419 cs420 H421 h422 q423=>?_
   cases q423
   refine .ab ?_
   refine .ch (P:=fun r y=>(.p (.bool r),(ptC (ptC H88 ⟨h.length,11,0,s64,[]⟩ 0 ([c389])) ⟨h.length,21,0,s72,[]⟩ 0 ([c398,c401])))=y) ?_ (fun b443 y444 h445 h446=>?_)
   ·refine .cq ?_ ?_
    ·exact .ret rfl rfl
    ·refine .call (zg k r384 h390 h391 (S404.atG (i:=1) rfl) (IntKind.wrap .i64 (x7*90000))) fun r424 cs425 H426 h427 q428=>?_
     obtain ⟨v429,h430,q428⟩:=q428
     cases q428
     refine .call (zl k r393 h399 h400 h402 h403 (S404.atG (i:=2) rfl) (IntKind.wrap .i64 (x7*90000))) fun r431 cs432 H433 h434 q435=>?_
     obtain ⟨v436,h437,q435⟩:=q435
     cases q435
     refine .call (zw k r424 (h430.h (ptC (ptC H88 ⟨h.length,11,0,s64,[]⟩ 0 ([c389])) ⟨h.length,21,0,s72,[]⟩ 0 ([c398,c401]))) r431 (h437.h (ptC (ptC H88 ⟨h.length,11,0,s64,[]⟩ 0 ([c389])) ⟨h.length,21,0,s72,[]⟩ 0 ([c398,c401])))) fun r438 cs439 H440 h441 q442=>?_
     cases q442
     refine .ab ?_
     exact .ret rfl rfl
   subst h446
   refine .ab ?_
   refine .cq ?_ ?_
   ·exact hE1 false (ptC (ptC H88 ⟨h.length,11,0,s64,[]⟩ 0 ([c389])) ⟨h.length,21,0,s72,[]⟩ 0 ([c398,c401])) (S404.wk2 aN aN)
   refine .as (z2q ?_ ?_ k x0 x1 x7 (-1) r384 r393 v59 h60 c389 h390 h391 s64 c398 h399 h400 c401 h402 h403 s72 (ptC (ptC H88 ⟨h.length,11,0,s64,[]⟩ 0 ([c389])) ⟨h.length,21,0,s72,[]⟩ 0 ([c398,c401])) (S404.wk2 (aC (aM 1 rfl) (aC (aM 2 rfl) aN)) aN))
   ·intro r448_0 r448_1 r448_7 yg165 yg173 v451 h452 c453 h454 h455 s456 c458 h459 h460 c461 h462 h463 s464 H449 S450
    refine .ext (z31 _ _ _ _ _ _ _ _ _) ?_
    exact ih r448_0 r448_1 (IntKind.wrap .i64 (r448_7+1)) yg165 yg173 v451 h452 c453 h454 h455 s456 c458 h459 h460 c461 h462 h463 s464 H449 (S450.wk2 (aC (aM 0 rfl) (aC (aM 1 rfl) aN)) aN)
   ·intro r466_4 H467 S468
    refine .ext (z2f _ _ _ _ _) ?_
    exact hE1 r466_4 H467 (S468.wk2 aN aN)
  exact hE0 yg35 c61 h62 h63 s64 H57 (S58.wk2 (aC (aM 0 rfl) aN) aN)
theorem z50 (k:Nat) {h:H} {σ:Stamp} (x0:Int) (x1:List z6) {u1:V} (hu1:SlH h zm x1 u1):Sim (z4 k x0 x1) (ev G X0 19 σ [(.p (.int .i64 x0)),u1] h) (fun r s=>s=([.v (.p (.bool r))],h)):=by
 refine .ev rfl (Sim.ext (z8t _ _ _ _ _ _) ?_)
 rw [z4]
 have S0:Fm 129 h [] [] [] (List.replicate 129 []::h):=Fm.start0
 refine .call (z3m x0) fun r1 cs2 H3 h4 q5=>?_
 rcases r1 with _ | r6
 ·cases (show (cs2,H3)=([.v (.p (.pointer none))],(List.replicate 129 []::h)) from q5)
  refine .ch (P:=fun r y=>r=y) ?_ (fun b11 y12 h13 h14=>?_)
  ·refine .cq ?_ ?_
   ·exact .ret rfl rfl
   ·exact .ret rfl rfl
  subst h14
  refine .cq ?_ ?_
  ·refine .op ((by kernel_rfl:_=some (.p (.bool true)))) ?_
   refine .ab ?_
   exact .fin (S0.finN (lC (sB _).lv lN)) rfl
  refine .call (z4u x0) fun r16 cs17 H18 h19 q20=>?_
  obtain ⟨s21,c22,c25,h23,h24,h26,h27,q20⟩:=q20
  cases q20
  obtain ⟨H28,e29,S30⟩:=S0.landG (d:=21) (s:=s21) (cs:=[c22,c25]) (by decide) rfl
  erw [e29]
  exact .no
 ·obtain ⟨s7,c8,h9,h10,q5⟩:=q5
  cases q5
  obtain ⟨H32,e33,S34⟩:=S0.landG (d:=11) (s:=s7) (cs:=[c8]) (by decide) rfl
  erw [e33]
  refine .ch (P:=fun r y=>r=y) ?_ (fun b36 y37 h38 h39=>?_)
  ·refine .cq ?_ ?_
   ·exact .ret rfl rfl
   ·exact .ret rfl rfl
  subst h39
  refine .cq ?_ ?_
  ·refine .op ((by kernel_rfl:_=some (.p (.bool false)))) ?_
   refine .ab ?_
   exact .fin (S34.finN (lC (sB _).lv lN)) rfl
  refine .call (z4u x0) fun r41 cs42 H43 h44 q45=>?_
  obtain ⟨s46,c47,c50,h48,h49,h51,h52,q45⟩:=q45
  cases q45
  obtain ⟨H53,e54,S55⟩:=S34.landG (d:=21) (s:=s46) (cs:=[c47,c50]) (by decide) rfl
  erw [e54]
  refine .as (z9b ?_ ?_ k x0 x1 0 r6 r41 u1 hu1 c8 h9 h10 s7 c47 h48 h49 c50 h51 h52 s46 H53 (S55.wk2 (aC (aM 1 rfl) (aC (aM 0 rfl) aN)) aN))
  ·intro yg65 c481 h482 h483 s484 H479 S480
   refine .ext (z9r _ _ _ _ _) ?_
   refine .op ((by kernel_rfl:_=some (.p (.bool true)))) ?_
   refine .ab ?_
   exact .fin (S480.finN (lC (sB _).lv lN)) rfl
  ·intro r486_4 H487 S488
   refine .ext (z8r _ _ _ _ _) ?_
   exact .fin (S488.finN (lC (sB _).lv lN)) rfl
def z3 {β:Type} (k:Nat) (kE0:Int→(List z6)→Option β) (x1:Int) (x2:(List z6)) (x3:Int):Option β:=match k with
| 0=>none
| k+1 =>
bif decide (x3<80) then (
(ap 24 x2 ([((⟨(Int.tmod (IntKind.wrap .i64 ((IntKind.wrap .i64 (x3*x3))+x1)) 5),(IntKind.wrap .i64 ((Int.tmod (IntKind.wrap .i64 ((IntKind.wrap .i64 (x3*3))+x1)) 5)-1)),(IntKind.wrap .i64 ((Int.tmod (IntKind.wrap .i64 (x3*x1)) 13)*130000))⟩:z6))])).bind fun a12 =>
z3 k kE0 x1 a12 (IntKind.wrap .i64 (x3+1)))
else (
kE0 x1 x2)
def zn {β:Type} (k:Nat) (kE0:Unit→Option β) (kE1:Bool→Option β) (x1:Int):Option β:=match k with
| 0=>none
| k+1 =>
bif decide (x1<40) then (
z3 k (fun r24_1 r24_2 =>
(z4 k (Int.tmod r24_1 5) r24_2).bind fun r29 =>
(bif !r29 then (some true) else ((z4 k 3 r24_2).bind fun r34 =>
some (!r34))).bind fun b39 =>
bif b39 then (
kE1 false)
else (
zn k kE0 kE1 (IntKind.wrap .i64 (r24_1+1)))) x1 (([]:List z6)) 0)
else (
kE0 ())
def z1w (k:Nat) :Option (Bool) :=
zn k (fun (_:Unit) =>
(z4 k 2 ([((⟨0,0,9223372036854775807⟩:z6)),((⟨4,0,(-9223372036854775808)⟩:z6)),((⟨4,1,9223372036854775807⟩:z6))])).bind fun r52 =>
(bif r52 then ((z3v k).bind fun r57 =>
some r57) else (some false)).bind fun b62 =>
some (b62)) (fun r66_0 =>
some (r66_0)) 0
theorem z55 {h:H}  {kE0:Int→(List z6)→Option β} (hE0:∀ (q1:Int) (q2:(List z6)) (v20:V) (H18:Go.Ev.H) (_:Fm 51 h [] [] [⟨[32],v20,zm,q2⟩] H18),Sim (kE0 q1 q2) (K ((.exit 2),(envL [(1,(.p (.int .i64 q1))),(2,v20)]),H18)) Q) (k:Nat):∀ (x1:Int) (x2:(List z6)) (x3:Int) (v8:V) (H6:Go.Ev.H) (_:Fm 51 h [] [] [⟨[32],v8,zm,x2⟩] H6) {σ:Stamp},Sim (z3 k kE0 x1 x2 x3) ((cvL G X0 z1j z1l σ (envL [(1,(.p (.int .i64 x1))),(2,v8),(3,(.p (.int .i64 x3)))]) H6).bind K) Q:=by
 induction k with
 | zero=>intros;exact .no
 | succ k ih =>
  intro x1 x2 x3 v8 H6 S7 σ
  rw [z3]
  refine .round (Sim.ext (z63 _ _ _ _ _ _ _) ?_)
  refine .cq ?_ ?_
  ·refine .op (bldV (pC rfl (pC rfl (pC rfl pN))) (by kernel_rfl:_=some (.agg [.p (.int .i64 (Int.tmod (IntKind.wrap .i64 ((IntKind.wrap .i64 (x3*x3))+x1)) 5)),.p (.int .i64 (IntKind.wrap .i64 ((Int.tmod (IntKind.wrap .i64 ((IntKind.wrap .i64 (x3*3))+x1)) 5)-1))),.p (.int .i64 (IntKind.wrap .i64 ((Int.tmod (IntKind.wrap .i64 (x3*x1)) 13)*130000)))]))) ?_
   have h11:SlF zm [((⟨(Int.tmod (IntKind.wrap .i64 ((IntKind.wrap .i64 (x3*x3))+x1)) 5),(IntKind.wrap .i64 ((Int.tmod (IntKind.wrap .i64 ((IntKind.wrap .i64 (x3*3))+x1)) 5)-1)),(IntKind.wrap .i64 ((Int.tmod (IntKind.wrap .i64 (x3*x1)) 13)*130000))⟩:z6))] (.fz [(.p (.int .i64 (Int.tmod (IntKind.wrap .i64 ((IntKind.wrap .i64 (x3*x3))+x1)) 5))),(.p (.int .i64 (IntKind.wrap .i64 ((Int.tmod (IntKind.wrap .i64 ((IntKind.wrap .i64 (x3*3))+x1)) 5)-1)))),(.p (.int .i64 (IntKind.wrap .i64 ((Int.tmod (IntKind.wrap .i64 (x3*x1)) 13)*130000))))] 1 3 true):=SlF.lit (cs:=[(.p (.int .i64 (Int.tmod (IntKind.wrap .i64 ((IntKind.wrap .i64 (x3*x3))+x1)) 5))),(.p (.int .i64 (IntKind.wrap .i64 ((Int.tmod (IntKind.wrap .i64 ((IntKind.wrap .i64 (x3*3))+x1)) 5)-1)))),(.p (.int .i64 (IntKind.wrap .i64 ((Int.tmod (IntKind.wrap .i64 (x3*x1)) 13)*130000))))]) (RL.cons (show zm.R ((⟨(Int.tmod (IntKind.wrap .i64 ((IntKind.wrap .i64 (x3*x3))+x1)) 5),(IntKind.wrap .i64 ((Int.tmod (IntKind.wrap .i64 ((IntKind.wrap .i64 (x3*3))+x1)) 5)-1)),(IntKind.wrap .i64 ((Int.tmod (IntKind.wrap .i64 (x3*x1)) 13)*130000))⟩:z6)) [.p (.int .i64 (Int.tmod (IntKind.wrap .i64 ((IntKind.wrap .i64 (x3*x3))+x1)) 5)),.p (.int .i64 (IntKind.wrap .i64 ((Int.tmod (IntKind.wrap .i64 ((IntKind.wrap .i64 (x3*3))+x1)) 5)-1))),.p (.int .i64 (IntKind.wrap .i64 ((Int.tmod (IntKind.wrap .i64 (x3*x1)) 13)*130000)))] from (zm.mk)) RL.nil) rfl rfl true
   refine .op (bldS (pC (c:=[.p (.int .i64 (Int.tmod (IntKind.wrap .i64 ((IntKind.wrap .i64 (x3*x3))+x1)) 5)),.p (.int .i64 (IntKind.wrap .i64 ((Int.tmod (IntKind.wrap .i64 ((IntKind.wrap .i64 (x3*3))+x1)) 5)-1))),.p (.int .i64 (IntKind.wrap .i64 ((Int.tmod (IntKind.wrap .i64 (x3*x1)) 13)*130000)))]) rfl pN) (by kernel_rfl:_=some (vOf h11))) ?_
   refine .bd fun a12 h13=>?_
   obtain ⟨v14,H15,e16,S17⟩:=S7.app (i:=0) (d:=32) (e:=3) (own:=false) (σ:=(20::0::1::0::σ)) rfl (h11.h H6).y h13 rfl (by decide) (by decide) rfl
   refine .op (e16) ?_
   exact ih x1 a12 (IntKind.wrap .i64 (x3+1)) v14 H15 (S17.wk2 aN (aC ⟨[32,32],by simp,aM 0 rfl⟩ aN))
  exact hE0 x1 x2 v8 H6 (S7.wk2 aN (aC ⟨[32],by simp,aM 0 rfl⟩ aN))
theorem z53 {h:H}  {kE0:Unit→Option β} {kE1:Bool→Option β} (hE0:∀ (_u:Unit) (H44:Go.Ev.H) (_:Fm 51 h [] [] [] H44),Sim (kE0 ()) (K ((.exit 0),(envL []),H44)) Q) (hE1:∀ (q0:Bool) (H46:Go.Ev.H) (_:Fm 51 h [] [] [] H46),Sim (kE1 q0) (K (.ret,(envL [(0,(.p (.bool q0)))]),H46)) Q) (k:Nat):∀ (x1:Int) (H1:Go.Ev.H) (_:Fm 51 h [] [] [] H1) {σ:Stamp},Sim (zn k kE0 kE1 x1) ((cvL G X0 z1k z1n σ (envL [(1,(.p (.int .i64 x1)))]) H1).bind K) Q:=by
 induction k with
 | zero=>intros;exact .no
 | succ k ih =>
  intro x1 H1 S2 σ
  rw [zn]
  refine .round (Sim.ext (z6i _ _ _ _ _) ?_)
  refine .cq ?_ ?_
  ·have S23:=S2.nil zm []
   refine .as (z55 ?_ k x1 (([]:List z6)) 0 (.p (.slice none 0 0)) H1 (S23.wk2 aN (aC ⟨[],by simp,aM 0 rfl⟩ aN)))
   ·intro r24_1 r24_2 v27 H25 S26
    refine .ext (z5j _ _ _ _ _ _) ?_
    refine .call (z50 k (Int.tmod r24_1 5) r24_2 (S26.sl (i:=0) rfl)) fun r29 cs30 H31 h32 q33=>?_
    cases q33
    refine .ab ?_
    refine .ch (P:=fun r y=>(.p (.bool r),H25)=y) ?_ (fun b39 y40 h41 h42=>?_)
    ·refine .cq ?_ ?_
     ·exact .ret rfl rfl
     ·refine .call (z50 k 3 r24_2 (S26.sl (i:=0) rfl)) fun r34 cs35 H36 h37 q38=>?_
      cases q38
      refine .ab ?_
      exact .ret rfl rfl
    subst h42
    refine .ab ?_
    refine .cq ?_ ?_
    ·exact hE1 false H25 (S26.wk2 aN aN)
    exact ih (IntKind.wrap .i64 (r24_1+1)) H25 (S26.wk2 aN aN)
  exact hE0 () H1 (S2.wk2 aN aN)
theorem z6g (k:Nat) {h:H} {σ:Stamp} :Sim (z1w k ) (ev G X0 7 σ [] h) (fun r s=>s=([.v (.p (.bool r))],h)):=by
 refine .ev rfl (Sim.ext (z54 _ _ _ _) ?_)
 rw [z1w]
 have S0:Fm 51 h [] [] [] (List.replicate 51 []::h):=Fm.start0
 refine .as (z53 ?_ ?_ k 0 (List.replicate 51 []::h) (S0.wk2 aN aN))
 ·intro _u H49 S50
  refine .ext (z5m _ _ _ _) ?_
  refine .op (bldV (pC rfl pN) (by kernel_rfl:_=some (.agg [.p (.int .i64 0),.p (.int .i64 0),.p (.int .i64 9223372036854775807)]))) ?_
  refine .op (bldV (pC rfl (pC rfl pN)) (by kernel_rfl:_=some (.agg [.p (.int .i64 4),.p (.int .i64 0),.p (.int .i64 (-9223372036854775808))]))) ?_
  refine .op (bldV (pC rfl (pC rfl (pC rfl pN))) (by kernel_rfl:_=some (.agg [.p (.int .i64 4),.p (.int .i64 1),.p (.int .i64 9223372036854775807)]))) ?_
  have h51:SlF zm [((⟨0,0,9223372036854775807⟩:z6)),((⟨4,0,(-9223372036854775808)⟩:z6)),((⟨4,1,9223372036854775807⟩:z6))] (.fz [(.p (.int .i64 0)),(.p (.int .i64 0)),(.p (.int .i64 9223372036854775807)),(.p (.int .i64 4)),(.p (.int .i64 0)),(.p (.int .i64 (-9223372036854775808))),(.p (.int .i64 4)),(.p (.int .i64 1)),(.p (.int .i64 9223372036854775807))] 3 3 true):=SlF.lit (cs:=[(.p (.int .i64 0)),(.p (.int .i64 0)),(.p (.int .i64 9223372036854775807)),(.p (.int .i64 4)),(.p (.int .i64 0)),(.p (.int .i64 (-9223372036854775808))),(.p (.int .i64 4)),(.p (.int .i64 1)),(.p (.int .i64 9223372036854775807))]) (RL.cons (show zm.R ((⟨0,0,9223372036854775807⟩:z6)) [.p (.int .i64 0),.p (.int .i64 0),.p (.int .i64 9223372036854775807)] from (zm.mk)) (RL.cons (show zm.R ((⟨4,0,(-9223372036854775808)⟩:z6)) [.p (.int .i64 4),.p (.int .i64 0),.p (.int .i64 (-9223372036854775808))] from (zm.mk)) (RL.cons (show zm.R ((⟨4,1,9223372036854775807⟩:z6)) [.p (.int .i64 4),.p (.int .i64 1),.p (.int .i64 9223372036854775807)] from (zm.mk)) RL.nil))) rfl rfl true
  refine .op (bldS (pC (c:=[.p (.int .i64 0),.p (.int .i64 0),.p (.int .i64 9223372036854775807)]) rfl (pC (c:=[.p (.int .i64 4),.p (.int .i64 0),.p (.int .i64 (-9223372036854775808))]) rfl (pC (c:=[.p (.int .i64 4),.p (.int .i64 1),.p (.int .i64 9223372036854775807)]) rfl pN))) (by kernel_rfl:_=some (vOf h51))) ?_
  refine .call (z50 k 2 ([((⟨0,0,9223372036854775807⟩:z6)),((⟨4,0,(-9223372036854775808)⟩:z6)),((⟨4,1,9223372036854775807⟩:z6))]) (h51.h H49)) fun r52 cs53 H54 h55 q56=>?_
  cases q56
  refine .ab ?_
  refine .ch (P:=fun r y=>(.p (.bool r),H49)=y) ?_ (fun b62 y63 h64 h65=>?_)
  ·refine .cq ?_ ?_
   ·refine .call (zan k ) fun r57 cs58 H59 h60 q61=>?_
    cases q61
    refine .ab ?_
    exact .ret rfl rfl
   ·exact .ret rfl rfl
  subst h65
  refine .ab ?_
  exact .fin (S50.finN (lC (sB _).lv lN)) rfl
 ·intro r66_0 H67 S68
  refine .ext (z4z _ _ _ _ _) ?_
  exact .fin (S68.finN (lC (sB _).lv lN)) rfl
end
end Go.Ev
