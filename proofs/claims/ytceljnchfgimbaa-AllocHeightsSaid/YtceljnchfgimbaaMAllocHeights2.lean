/- A part of the proof that follows: of the layers of a publisher those may be chosen that are not higher than asked -/
import Derived.Test.YtceljnchfgimbaaMAllocHeights1
import Derived.Laws.RangeAny
import Derived.Laws.Runes
import Derived.Shelf.Spec.SlicesInsertGrow
import Derived.Test.YtceljnchfgimbaaRows
import Derived.ProofKit
import Derived.Tactics
import Derived.Tactics2
import Derived.StillTactics
import Derived.LoopTactic
import Derived.WalkKit
import Derived.Laws.Concat
import Derived.Laws.Strings
import Derived.Laws.Cover4
import Derived.OwnWalk
import Derived.Laws.AppendOwn
namespace Go.Ev
set_option linter.unusedVariables false
set_option linter.unusedSimpArgs false
def SoC {α:Type} (d:Dt α) (xs:List α) (c:C):Prop:=(∃ v,c=.v v∧SlF d xs v)∨∃ s ws,c=.arr s xs.length d.sz (ws.map .v)∧d.L xs ws
theorem SoC.frz {α:Type} {d:Dt α} {xs:List α} {v:V} (h:SlF d xs v):SoC d xs (.v v):=.inl ⟨v,rfl,h⟩
theorem SoC.own {α:Type} {d:Dt α} {xs:List α} {c:C} {ws:List V} (h:OwnS c d.sz xs.length ws) (hl:d.L xs ws):SoC d xs c:=by
 obtain ⟨h1,⟨h2,h3,rfl | rfl⟩ | ⟨s,rfl⟩⟩:=h
 ·exact .inl ⟨_,rfl,ws,by rw [h2,h3];exact .nil _,hl⟩
 ·exact .inl ⟨_,rfl,ws,by rw [h2,h3];exact .fz (by simp) _,hl⟩
 ·exact .inr ⟨s,ws,rfl,hl⟩
def cellV (l:Loc) (o:Nat) (c:C):V:=(toV l o c).getD udf
section
variable {α:Type} {h:H} {l:Loc} {off j:Nat} {cs:List C} {c:C} {d:Dt α} {xs:List α}
theorem SoC.ld (hc:SoC d xs c) (ha:AtC h l off cs) (hj:cs[j]?=some c):ldO false 1 h (.ref l (off+j))=some (cellV l (off+j) c):=by
 rcases hc with ⟨v,rfl,_⟩ | ⟨s,ws,rfl,_⟩
 ·exact ha.ldC hj rfl
 ·exact ha.ldC hj rfl
theorem SoC.sl (hc:SoC d xs c) (ha:AtC h l off cs) (hj:cs[j]?=some c):SlH h d xs (cellV l (off+j) c):=by
 rcases hc with ⟨v,rfl,hv⟩ | ⟨s,ws,rfl,hl⟩
 ·exact hv.h h
 ·have hlen:=RL.length (fun h=>d.len h) hl
  refine ⟨ws,.mk_sl (l:=l.hop (off+j) s) (ds:=ws.map .v) ?_ (by simp [hlen]) ?_ (Nat.le_refl _),hl⟩
  ·obtain ⟨p,q,hn,hp⟩:=ha.hop hj (s:=s) (ds:=ws.map .v) (by simp [C.node])
   have:p=[]:=List.length_eq_zero_iff.1 hp
   subst this
   have hq:=ha.hop hj (s:=s) (ds:=ws.map .v) (by simp [C.node])
   obtain ⟨p,q,hn,hp⟩:=ha
   have hlt:=(List.getElem?_eq_some_iff.1 hj).1
   rw [nd_in hn (c:=.arr s xs.length d.sz (ws.map .v)) (ds:=ws.map .v)]
   ·rw [List.append_assoc,List.getElem?_append_right (by omega),show off+j-p.length=j by omega,List.getElem?_append_left hlt,hj]
   ·simp [C.node]
  ·rw [List.drop_zero,List.take_of_length_le (by simp [hlen]),z4d]
end
section
variable {N:Nat} {h0 Hp:H} {B:List Rt} {Γ:List (Nat×Stamp×List C)} {Δ:List Gw}
theorem z9u {p cs q:List C} {off j:Nat} (hp:p.length=off) (hj:j<cs.length):(p++cs++q)[off+j]?=cs[j]?:=by
 rw [List.append_assoc,List.getElem?_append_right (by omega),show off+j-p.length=j by omega,List.getElem?_append_left hj]
theorem zcp {l:Loc} {off j:Nat} {cs:List C} {c:C} {s:Stamp} (ha:AtC Hp l off cs) (hj:cs[j]?=some c) (hc:(c.node s).isSome):setAt Hp (l.hop (off+j) s) .dead=ptC Hp l off (cs.set j .dead):=by
 obtain ⟨p,q,hn,hp⟩:=ha
 have hlt:=(List.getElem?_eq_some_iff.1 hj).1
 have hcell:(p++cs++q)[off+j]?=some c:=by rw [z9u hp hlt,hj]
 rw [z7i hn hcell,ptC_eq hn hp (by simp)]
 congr 1
 rw [List.append_assoc,List.set_append_right _ _ (by omega),List.set_append_left _ _ (by omega),← List.append_assoc]
 congr 3
 omega
structure Spot (N:Nat) (h0:H) (Hp:H) (l:Loc) (off:Nat) (cs:List C) (T:List C→H→Prop):Prop where
 at_:AtC Hp l off cs
 put:∀ cs',cs'.length=cs.length→T cs' (ptC Hp l off cs')
theorem zn8 {l:Loc} {off j d b e:Nat} {cs:List C} {c:C} {α:Type} {dt:Dt α} {xs ys zs:List α} {own:Bool} {σ:Stamp} {y:V}
  (ha:AtC Hp l off cs) (hj:cs[j]?=some c) (hc:SoC dt xs c) (hy:YsH Hp dt ys y) (hz:ap b xs ys=some zs) (hn:ys.length≠0) (he:dt.sz=e) (hk:e≠0) (hnt:∀ v,c=.v v→v=.p (.slice none 0 0)∨v=.fz [] 0 e true) :
  ∃ ws s,dt.L zs ws∧∃ c',(c'=c∨c'=.dead)∧apO own e b σ d Hp (cellV l (off+j) c) y=some (.sl (newLoc Hp d s) 0 zs.length zs.length e,zl (ptC Hp l off (cs.set j c')) d [.arr s zs.length e (ws.map .v)]):=by
 subst he
 obtain ⟨⟨hb1,hb2⟩,rfl⟩:=zdl hz
 obtain ⟨us,hu,hul⟩:=hy
 have hlt:=(List.getElem?_eq_some_iff.1 hj).1
 have same:ptC Hp l off (cs.set j c)=Hp:=by
  rw [show cs.set j c=cs from by rw [← (List.getElem?_eq_some_iff.1 hj).2];exact List.set_getElem_self ..]
  exact ha.same
 have base:∀ x,apO own dt.sz b σ d Hp x y=apTo dt.sz b σ d Hp ys.length (us.map .v) x:=fun x=>by
  unfold apO
  rw [hu.len,hu.cells]
  simp only [Option.bind_some]
  rw [if_neg (by simp [hu.clen,hk]),if_neg hn,z2j own _ (RL.stills hul)]
  rfl
 rcases hc with ⟨v,rfl,hv⟩ | ⟨s,ws,rfl,hl⟩
 ·obtain ⟨vs,q1,q2⟩:=hv
  have hx0:xs=[]∧vs=[]:=by
   rcases hnt v rfl with rfl | rfl
   ·have h1:=(q1 []).len
    simp only [lenOf,Option.some.injEq] at h1
    have h1:xs=[]:=List.length_eq_zero_iff.1 h1.symm
    subst h1
    exact ⟨rfl,by have:=(q1 []).clen;simpa using this⟩
   ·have h1:=(q1 []).len
    simp only [lenOf,Option.some.injEq] at h1
    have h1:xs=[]:=List.length_eq_zero_iff.1 h1.symm
    subst h1
    exact ⟨rfl,by have:=(q1 []).clen;simpa using this⟩
  obtain ⟨rfl,rfl⟩:=hx0
  refine ⟨us,σ,by simpa using hul,_,.inl rfl,?_⟩
  rw [base,same]
  rcases hnt v rfl with rfl | rfl
  ·simp only [cellV,toV,Option.getD_some,apTo]
   rw [if_pos ⟨by simpa using hb1,by simpa using hb2⟩];simp
  ·simp only [cellV,toV,Option.getD_some,apTo]
   rw [if_pos ⟨trivial,trivial,by simp,by simpa using hb1,by simpa using hb2,by simp⟩];simp
 ·refine ⟨ws++us,σ,hl.append hul,_,.inr rfl,?_⟩
  have hlen:=RL.length (fun h=>dt.len h) hl
  have hnode:nd Hp (l.hop (off+j) s)=some (ws.map .v):=by
   obtain ⟨p,q,hn2,hp⟩:=ha
   exact nd_in hn2 (c:=.arr s xs.length dt.sz (ws.map .v)) (by rw [z9u hp hlt,hj]) (by simp [C.node])
  rw [base]
  simp only [cellV,toV,Option.getD_some,apTo]
  rw [if_neg (by simp),hnode]
  simp only [Option.bind_some]
  rw [if_neg (by omega),if_pos ⟨trivial,by simpa using hlen,hb1,hb2⟩,zcp ha hj (by simp [C.node])]
  simp [newLoc,top,zbe]
theorem Fm.addArr (S:Fm N h0 B Γ Δ Hp) {α:Type} {dt:Dt α} {d e:Nat} {s:Stamp} {ws:List V} {xs:List α} (hl:dt.L xs ws) (he:dt.sz=e) (hd:d<N) (hf:(freeG Γ d&&freeD Δ d)=true) :
  Fm N h0 B Γ (⟨[d],.sl ⟨h0.length,d,0,s,[]⟩ 0 xs.length xs.length e,dt,xs⟩::Δ) (zl Hp d [.arr s xs.length e (ws.map .v)]):=by
 subst he
 obtain ⟨L,rfl,h2,h3,h4,h5⟩:=S
 simp only [Bool.and_eq_true] at hf
 refine ⟨L.set d [.arr s xs.length dt.sz (ws.map .v)],rfl,by simpa using h2,h3,fun e he=>?_,fun g hg=>?_⟩
 ·rw [List.getElem?_set_ne (Ne.symm (z58 hf.1 he))];exact h4 e he
 ·rcases List.mem_cons.1 hg with rfl | hg
  ·exact ⟨ws,hl,.inr (.inl ⟨RL.length (fun h=>dt.len h) hl,d,List.mem_singleton.2 rfl,s,[],rfl,by rw [List.getElem?_set_self (by omega)]⟩)⟩
  ·exact (h5 g hg).frame fun x hx=>by rw [List.getElem?_set_ne (fun e=>z62 hf.2 hg (by rw [e];exact hx))]
theorem Fm.appG (S:Fm N h0 B Γ Δ Hp) {i j d d0 b e:Nat} {s0 σ:Stamp} {cs:List C} {c:C} {α:Type} {dt:Dt α} {xs ys zs:List α} {own:Bool} {y:V}
  (hi:Γ[i]?=some (d0,s0,cs)) (hj:cs[j]?=some c) (hc:SoC dt xs c) (hnt:∀ v,c=.v v→v=.p (.slice none 0 0)∨v=.fz [] 0 e true) (hy:YsH Hp dt ys y) (hz:ap b xs ys=some zs) (hn:ys.length≠0) (he:dt.sz=e) (hk:e≠0) (hd:d<N)
  (hf:(freeG (Γ.eraseIdx i) d0&&freeD Δ d0)=true) (hf2:(freeG Γ d&&freeD Δ d)=true) :
  ∃ v c' H',apO own e b σ d Hp (cellV ⟨h0.length,d0,0,s0,[]⟩ j c) y=some (v,H')∧Fm N h0 B (Γ.set i (d0,s0,cs.set j c')) (⟨[d],v,dt,zs⟩::Δ) H':=by
 obtain ⟨ws,s,hl,c',_,e1⟩:=zn8 (own:=own) (σ:=σ) (d:=d) (S.atG hi) hj hc hy hz hn he hk hnt
 rw [Nat.zero_add] at e1
 refine ⟨_,c',_,e1,?_⟩
 rw [S.newLoc]
 refine (S.setG (cs':=cs.set j c') hi hf (by simp)).addArr hl he hd ?_
 simp only [Bool.and_eq_true] at hf2 ⊢
 refine ⟨List.all_eq_true.2 fun x hx=>?_,hf2.2⟩
 rcases mem_set hx (List.getElem?_eq_some_iff.1 hi).1 with rfl | hx
 ·have:=List.all_eq_true.1 hf2.1 (d0,s0,cs) (List.mem_of_getElem? hi)
  simpa using this
 ·exact List.all_eq_true.1 hf2.1 _ (mem_erase hx)
theorem zl5 {l:Loc} {off j k:Nat} {cs:List C} {g:Gw} {σ:Stamp} (S:Fm N h0 B Γ Δ Hp) (hk:Δ[k]?=some g) (hD:noLit g.D=true) (hf:freeL g.D Γ (Δ.eraseIdx k)=true) (hloc:∀ d∈g.D,∀ s,l.key≠(⟨h0.length,d,0,s,[]⟩:Loc).key) (ha:AtC Hp l off cs) (hj:j<cs.length) :
  ∃ c ws H1,layC true Hp g.v=some (c,H1)∧stO true 1 σ Hp (.ref l (off+j)) g.v=some (ptC H1 l off (cs.set j c))∧OwnS c g.d.sz g.xs.length ws∧g.d.L g.xs ws∧AtC H1 l off cs∧Fm N h0 B Γ (Δ.eraseIdx k) H1:=by
 have S':Fm N h0 B Γ (Δ.eraseIdx k) Hp:=S.wk (fun _ h=>h) (fun _ h=>mem_erase h)
 obtain ⟨L,rfl,h2,h3,h4,h5⟩:=S
 obtain ⟨ws,q1,q2⟩:=h5 g (List.mem_of_getElem? hk)
 have key:∀ (v:V) (c:C) (H1:H),v.cells=[v]→(∀ s n e ds,z1u l (off+j) (some (.arr s n e ds)) v=false)→layC true (L::pts h0 B) v=some (c,H1)→AtC H1 l off cs→stO true 1 σ (L::pts h0 B) (.ref l (off+j)) v=some (ptC H1 l off (cs.set j c)):=fun v c H1 hv hs hl ha1=>by
  obtain ⟨p,q,hn,hp⟩:=ha
  obtain ⟨p1,q1',hn1,hp1⟩:=ha1
  have hsm:z1u l (off+j) (p++cs++q)[off+j]? v=false:=by
   cases hx:(p++cs++q)[off+j]? with
   | none=>rfl
   | some x =>
    cases x with
    | arr s n e ds=>exact hs s n e ds
    | _=>rfl
  unfold stO
  simp only [hv,hn,hsm,Option.bind_some,layCs,hl]
  simp only [List.length_cons,List.length_nil,Bool.not_true,Bool.false_or,Nat.zero_add,bne_self_eq_false,Bool.false_eq_true,if_false,hn1,Option.bind_some]
  rw [if_pos (by simp;omega),z5z _ _ _ (by simp;omega),ptC_eq hn1 hp1 (by simp)]
  congr 2
  rw [List.append_assoc,List.set_append_right _ _ (by omega),List.set_append_left _ _ (by omega),← List.append_assoc]
  congr 3
  omega
 rcases q2 with ⟨e1,e2,e3⟩ | ⟨q2,d',hd',s,tl,hv,h6⟩ | ⟨_,_,_,hd⟩
 ·refine ⟨.v g.v,ws,_,?_,key _ _ _ ?_ ?_ ?_ ha,⟨by rw [e1,e2];simp,.inl ⟨e1,e2,?_⟩⟩,q1,ha,S'⟩
  all_goals rcases e3 with e | e<;>rw [e]
  all_goals first
   | rfl
   | (intro s n e' ds;rfl)
   | (exact .inl rfl)
   | (exact .inr rfl)
 ·have hr:rootC (L::pts h0 B) ⟨h0.length,d',0,s,[]⟩=some (.arr s g.xs.length g.d.sz (ws.map .v)):=by simp [rootC,ze,h6]
  have hs:zc (L::pts h0 B) ⟨h0.length,d',0,s,[]⟩ .dead=L.set d' (.dead::tl)::pts h0 B:=by simp [zc,ze,h6]
  have hlay:layC true (L::pts h0 B) g.v=some (.arr s g.xs.length g.d.sz (ws.map .v),L.set d' (.dead::tl)::pts h0 B):=by
   rw [hv];simp [layC,ze,hr,hs]
  have ha1:AtC (L.set d' (.dead::tl)::pts h0 B) l off cs:=by
   obtain ⟨p,q,hn,hp⟩:=ha
   refine ⟨p,q,?_,hp⟩
   rw [← hs]
   have:(⟨h0.length,d',0,s,[]⟩:Loc).key≠l.key:=Ne.symm (hloc d' hd' s)
   have e:=z36 (h:=L::pts h0 B) (l:=⟨h0.length,d',0,s,[]⟩) (l':=l) (c:=.dead) this
   rw [← hn]
   simp only [nd,at_,e]
  refine ⟨_,ws,_,hlay,key _ _ _ (by rw [hv];rfl) ?_ hlay ha1,⟨q2,.inr ⟨s,rfl⟩⟩,q1,ha1,z5g S' (z8i hf hd') (.dead::tl)⟩
  intro s' n' e' ds
  rw [hv]
  simp [z1u,Loc.hop]
 ·exact (z79 hD hd).elim
theorem Fm.mvG (S:Fm N h0 B Γ Δ Hp) {i j k d0:Nat} {s0 σ:Stamp} {cs:List C} {g:Gw} (hk:Δ[k]?=some g) (hD:noLit g.D=true) (hf:freeL g.D Γ (Δ.eraseIdx k)=true) (hi:Γ[i]?=some (d0,s0,cs)) (hf0:(freeG (Γ.eraseIdx i) d0&&freeD (Δ.eraseIdx k) d0)=true) (hj:(cs[j]?).isSome=true) :
  ∃ c H',stO true 1 σ Hp (.ref ⟨h0.length,d0,0,s0,[]⟩ j) g.v=some H'∧SoC g.d g.xs c∧(∀ v,c=.v v→v=.p (.slice none 0 0)∨v=.fz [] 0 g.d.sz true)∧Fm N h0 B (Γ.set i (d0,s0,cs.set j c)) (Δ.eraseIdx k) H':=by
 have hlt:j<cs.length:=by
  obtain ⟨y,hy⟩:=Option.isSome_iff_exists.1 hj
  exact (List.getElem?_eq_some_iff.1 hy).1
 obtain ⟨c,ws,H1,_,e1,o1,o2,a1,S1⟩:=zl5 (σ:=σ) S hk hD hf (fun d hd s he=>by
  have:=z8i hf hd
  simp only [Bool.and_eq_true] at this
  have:=z58 this.1 (List.mem_of_getElem? hi)
  simp only [Loc.key,Prod.mk.injEq] at he
  exact this he.2.1) (S.atG hi) hlt
 rw [Nat.zero_add] at e1
 refine ⟨c,_,e1,SoC.own o1 o2,fun v hv=>?_,S1.setG hi hf0 (by simp)⟩
 obtain ⟨_,⟨_,_,h | h⟩ | ⟨s,h⟩⟩:=o1<;>rw [hv] at h<;>cases h<;>simp
theorem Fm.mvB (S:Fm N h0 B Γ Δ Hp) {i j k off:Nat} {l:Loc} {σ:Stamp} {cs:List C} {g:Gw} (hk:Δ[k]?=some g) (hD:noLit g.D=true) (hf:freeL g.D Γ (Δ.eraseIdx k)=true) (hi:B[i]?=some ⟨l,off,cs⟩) (hj:(cs[j]?).isSome=true) :
  ∃ c H',stO true 1 σ Hp (.ref l (off+j)) g.v=some H'∧SoC g.d g.xs c∧(∀ v,c=.v v→v=.p (.slice none 0 0)∨v=.fz [] 0 g.d.sz true)∧Fm N h0 (B.set i ⟨l,off,cs.set j c⟩) Γ (Δ.eraseIdx k) H':=by
 have hlt:j<cs.length:=by
  obtain ⟨y,hy⟩:=Option.isSome_iff_exists.1 hj
  exact (List.getElem?_eq_some_iff.1 hy).1
 have hlow:l.lvl<h0.length:=by
  obtain ⟨L,rfl,h2,h3,h4,h5⟩:=S
  have:=(h3.at hi).lt
  rwa [ze] at this
 obtain ⟨c,ws,H1,_,e1,o1,o2,a1,S1⟩:=zl5 (σ:=σ) S hk hD hf (fun d hd s he=>by
  simp only [Loc.key,Prod.mk.injEq] at he
  omega) (S.atB hi) hlt
 refine ⟨c,_,e1,SoC.own o1 o2,fun v hv=>?_,S1.setB hi (by simp)⟩
 obtain ⟨_,⟨_,_,h | h⟩ | ⟨s,h⟩⟩:=o1<;>rw [hv] at h<;>cases h<;>simp
end
end Go.Ev
namespace Go.Ev
def FrC (c:C) (y:V):Prop:=(c=.v y∧Still y)∨∃ s n k ws,c=.arr s n k (ws.map .v)∧ws.length=n*k∧y=.fz ws n k false
def FrCs:List C→List V→Prop
 | [],[]=>True
 | c::cs,y::ys=>FrC c y∧FrCs cs ys
 | _,_=>False
theorem FrC.v {x:V} (h:Still x):FrC (.v x) x:=.inl ⟨rfl,h⟩
theorem SoC.fr {α:Type} {d:Dt α} {xs:List α} {c:C} (h:SoC d xs c):∃ y,FrC c y∧SlF d xs y:=by
 rcases h with ⟨v,rfl,hv⟩ | ⟨s,ws,rfl,hl⟩
 ·exact ⟨v,.inl ⟨rfl,hv.still⟩,hv⟩
 ·have hlen:=RL.length (fun h=>d.len h) hl
  exact ⟨_,.inr ⟨s,_,_,ws,rfl,hlen,rfl⟩,ws,.fz hlen _,hl⟩
theorem FrC.still {c:C} {y:V} (h:FrC c y):Still y:=by
 rcases h with ⟨_,h⟩ | ⟨s,n,k,ws,_,_,rfl⟩
 ·exact h
 ·exact still_fz ..
theorem FrCs.len:∀ {cs:List C} {ys:List V},FrCs cs ys→ys.length=cs.length
 | [],[],_=>rfl
 | c::cs,y::ys,⟨_,h⟩=>by simp [FrCs.len h]
 | [],_::_,h=>by cases h
 | _::_,[],h=>by cases h
theorem FrCs.stills:∀ {cs:List C} {ys:List V},FrCs cs ys→Stills ys
 | [],[],_=>sN
 | c::cs,y::ys,⟨h1,h⟩=>sC h1.still (FrCs.stills h)
 | [],_::_,h=>by cases h
 | _::_,[],h=>by cases h
theorem lay_fr {H:Ev.H} {l:Loc} {pre post:List C} {c:C} {y:V} (hl:l.lvl=top H) (ha:AtC H l 0 (pre++c::post)) (hf:FrC c y):∃ x,toV l pre.length c=some x∧layC false H x=some (.v y,ptC H l 0 (pre++.v y::post)):=by
 have hj:(pre++c::post)[pre.length]?=some c:=by simp
 rcases hf with ⟨rfl,hs⟩ | ⟨s,n,k,ws,rfl,hlen,rfl⟩
 ·exact ⟨y,rfl,by rw [ha.same];exact hs.lay false H⟩
 ·refine ⟨_,rfl,?_⟩
  have h1:(l.hop pre.length s).lvl=top H:=hl
  have ha0:=ha
  obtain ⟨p,q,hn,hp⟩:=ha
  have hp0:p=[]:=List.length_eq_zero_iff.1 hp
  subst hp0
  rw [List.nil_append] at hn
  have hcell:((pre++C.arr s n k (ws.map C.v)::post)++q)[pre.length]?=some (.arr s n k (ws.map .v)):=by simp
  have h2:at_ H (l.hop pre.length s)=some (.arr s n k (ws.map .v)):=by rw [at_hop,hn];simp [C.node]
  have h3:rng ws 0 (n*k)=some ws:=by unfold rng;rw [if_pos (by omega)];simp [← hlen]
  simp only [layC,h1,h2,Bool.false_eq_true,if_false,if_true,z75,true_and,List.length_map,hlen,z71,Option.bind_some,h3]
  rw [if_neg (by simp [Loc.hop]),z7i hn hcell,ptC_eq (off:=0) (p:=[]) (q:=q) (cs:=pre++C.arr s n k (ws.map C.v)::post) hn rfl (by simp)]
  simp
theorem top_pt {H:Ev.H} (l:Loc) (off:Nat) (cs:List C):top (ptC H l off cs)=top H:=by simp [top,zbe]
theorem zlb {l:Loc}:∀ {cs:List C} {ys:List V} {H:Ev.H} {pre:List C},l.lvl=top H→AtC H l 0 (pre++cs)→FrCs cs ys →
  ∃ xs,toVs l pre.length cs=some xs∧frzCs H xs=some (ys,ptC H l 0 (pre++ys.map .v))∧layCs false H xs=some (ys.map .v,ptC H l 0 (pre++ys.map .v))
 | [],[],H,pre,hl,ha,_=>⟨[],rfl,by rw [show pre++[].map C.v=pre++[] from rfl,ha.same];rfl,by rw [show pre++[].map C.v=pre++[] from rfl,ha.same];rfl⟩
 | c::cs,y::ys,H,pre,hl,ha,⟨h1,h2⟩=>by
  obtain ⟨x,e1,e2⟩:=lay_fr hl ha h1
  have ha2:AtC (ptC H l 0 (pre++.v y::cs)) l 0 ((pre++[.v y])++cs):=by
   have:=ha.put (cs':=pre++.v y::cs) (by simp)
   simpa using this
  obtain ⟨xs,q1,q2,q3⟩:=zlb (pre:=pre++[.v y]) (by rw [top_pt];exact hl) ha2 h2
  have hp:ptC (ptC H l 0 (pre++.v y::cs)) l 0 (pre++[C.v y]++ys.map .v)=ptC H l 0 (pre++(y::ys).map .v):=by
   rw [ha.put_put (by simp) (by have:=h2.len;simp;omega)]
   simp
  refine ⟨x::xs,?_,?_,?_⟩
  ·simp only [List.length_append,List.length_cons,List.length_nil] at q1
   simp only [toVs,e1,Option.bind_some,q1]
  ·simp only [frzCs,e2,Option.bind_some,q2,Option.map_some]
   rw [hp]
  ·simp only [layCs,e2,Option.bind_some,q3]
   rw [hp];rfl
 | [],_::_,_,_,_,_,h=>by cases h
 | _::_,[],_,_,_,_,h=>by cases h
section
variable {N:Nat} {h0 Hp:H} {B:List Rt} {Γ:List (Nat×Stamp×List C)} {Δ:List Gw}
end
end Go.Ev
namespace Go.Ev
section
variable {N:Nat} {h0 Hp:H} {B:List Rt} {Γ:List (Nat×Stamp×List C)} {Δ:List Gw}
theorem bldS1 {P:Program} {t te e:Nat} {xs:List V} {z:List V} (h1:telem P t=some te) (h2:tzero P te=some z) (h3:(z.length=e∧tsize P te=e∧e≠0∧e≤2^24)∧True) (hx:xs.length=e):bSV P t 1 [(0,.agg xs)]=some (.fz xs 1 e true):=by
 obtain ⟨⟨a1,a2,a3,a4⟩,_⟩:=h3
 unfold bSV
 simp only [h1,h2,Option.bind_some,a1,a2,fillV,Nat.zero_mul]
 have hr:rept 1 z=z:=by simp [rept]
 rw [if_neg (by simp;omega),hr]
 simp only [V.cells,hx,a1,ne_eq,not_true_eq_false,false_or,Nat.zero_add]
 rw [if_neg (by omega)]
 simp [← a1]
end
end Go.Ev
namespace Go.Ev
section
variable {N:Nat} {h0 Hp:H} {B:List Rt} {Γ:List (Nat×Stamp×List C)} {Δ:List Gw}
theorem Fm.stFrz {H:Ev.H} (S:Fm N h0 B Γ Δ Hp) {i d j n:Nat} {s σ:Stamp} {cs cs0:List C} {B0:List Rt} {Γ0:List (Nat×Stamp×List C)} {Δ0:List Gw} {i0:Nat} {xs ys:List V} (S0:Fm N h0 B0 Γ0 Δ0 H) (hi0:Γ0[i0]?=some (d,s,cs0)) (hl:layCs false H xs=some (ys.map .v,Hp)) (hi:Γ[i]?=some (d,s,cs)) (hf:(freeG (Γ.eraseIdx i) d&&freeD Δ d)=true) (hx:xs.length=ys.length) (hn:ys.length=n) (hj:decide (j+n≤cs.length)=true) :
  ∃ H',stO false n σ H (.ref ⟨h0.length,d,0,s,[]⟩ j) (.agg xs)=some H'∧Fm N h0 B (Γ.set i (d,s,cs.take j++ys.map .v++cs.drop (j+n))) Δ H':=by
 have hj:=of_decide_eq_true hj
 obtain ⟨p0,q0,hn0,hp0⟩:=S0.atG hi0
 have ha:=S.atG hi
 have h00:p0=[]:=List.length_eq_zero_iff.1 hp0
 subst h00
 obtain ⟨p,q,hn1,hp⟩:=ha
 have h01:p=[]:=List.length_eq_zero_iff.1 hp
 subst h01
 refine ⟨_,?_,S.setG (cs':=cs.take j++ys.map .v++cs.drop (j+n)) hi hf (by simp;omega)⟩
 unfold stO
 have hsm:z1u ⟨h0.length,d,0,s,[]⟩ j ([]++cs0++q0)[j]? (.agg xs)=false:=z5c (by simp)
 have hc:(V.agg xs).cells=xs:=rfl
 simp only [hc,hx,hn,hn0,hsm,hl,Option.bind_some,hn1,List.length_map]
 simp only [Bool.not_true,Bool.false_or,bne_self_eq_false,Bool.false_eq_true,if_false]
 rw [if_pos (by simp;omega),ptC_eq (off:=0) hn1 rfl (by simp;omega)]
 simp only [List.nil_append]
 rw [List.take_append_of_le_length (by omega),List.drop_append_of_le_length (by omega)]
 simp
end
end Go.Ev
namespace Go.Ev
def andL:List Bool→Option Bool
 | []=>some true
 | b::bs=>(some b).bind fun r=>if r=true then andL bs else some false
def andB:List Bool→Bool
 | []=>true
 | b::bs=>b&&andB bs
theorem zks:∀ bs:List Bool,andL bs=some (andB bs)
 | []=>rfl
 | b::bs=>by cases b<;>simp [andL,andB,zks bs]
theorem eqS_v {P:Program} {h:H} {t:TypeId} {xs ys:List V} {b:Bool} (hb:flatE P t xs ys=some b):eqlV P h t (.agg xs) (.agg ys)=some b:=by
 have hb0:=hb
 unfold flatE at hb
 split at hb
 ·rename_i fs hu
  simp only [eqlV,hu,hb0]
 ·rename_i n e hu
  simp only [eqlV,hu,hb0]
 ·cases hb
theorem eqS_ok {P:Program} {h:H} {t:TypeId} {xs ys:List V} {bs:List Bool} (hb:flatE P t xs ys=andL bs):binV P h .eql t (.agg xs) (.agg ys)=some (.p (.bool (andB bs))):=by
 show (eqlV P h t (.agg xs) (.agg ys)).map _=_
 rw [eqS_v (hb.trans (zks bs))];rfl
end Go.Ev
namespace Go.Ev
theorem lc_nil {H:Ev.H}:layCs false H []=some (([]:List V).map C.v,H):=rfl
theorem lc_pl {H H':Ev.H} {x:V} {xs ys:List V} (hx:Still x) (t:layCs false H xs=some (ys.map C.v,H')):layCs false H (x::xs)=some ((x::ys).map C.v,H'):=by
 simp only [layCs,hx.lay,Option.bind_some,t,List.map_cons]
theorem lc_st {H H1 H':Ev.H} {x y:V} {xs ys:List V} (hx:layC false H x=some (.v y,H1)) (t:layCs false H1 xs=some (ys.map C.v,H')):layCs false H (x::xs)=some ((y::ys).map C.v,H'):=by
 simp only [layCs,hx,Option.bind_some,t,List.map_cons]
theorem zbb:∀ {xs ys:List V} {H H':Ev.H},layCs false H xs=some (ys.map C.v,H')→frzCs H xs=some (ys,H')
 | [],ys,H,H',h=>by
  simp only [layCs,Option.some.injEq,Prod.mk.injEq] at h
  obtain ⟨h1,rfl⟩:=h
  have:ys=[]:=by cases ys with | nil=>rfl | cons y ys=>cases h1
  subst this;rfl
 | x::xs,ys,H,H',h=>by
  simp only [layCs] at h
  obtain ⟨⟨c,H1⟩,h1,h2⟩:=Option.bind_eq_some_iff.1 h
  obtain ⟨⟨cs,H2⟩,h3,h4⟩:=Option.bind_eq_some_iff.1 h2
  simp only [Option.some.injEq,Prod.mk.injEq] at h4
  obtain ⟨h4,rfl⟩:=h4
  cases ys with
  | nil=>cases h4
  | cons y ys =>
   simp only [List.map_cons,List.cons.injEq] at h4
   obtain ⟨rfl,rfl⟩:=h4
   simp only [frzCs,h1,Option.bind_some,zbb h3,Option.map_some]
section
variable {N:Nat} {h0 Hp:H} {B:List Rt} {Γ:List (Nat×Stamp×List C)} {Δ:List Gw}
theorem Fm.cellsD (S:Fm N h0 B Γ Δ Hp) {i:Nat} {g:Gw} (hi:Δ[i]?=some g):g.v.cells=[g.v]:=by
 obtain ⟨L,rfl,h2,h3,h4,h5⟩:=S
 obtain ⟨cs,q1,q2⟩:=h5 g (List.mem_of_getElem? hi)
 rcases q2 with ⟨e1,e2,e3⟩ | ⟨q2,d',hd',s,tl,hv,h6⟩ | ⟨hv,q2,_⟩
 ·rcases e3 with e | e<;>rw [e]<;>rfl
 ·rw [hv];rfl
 ·rw [hv];rfl
theorem Fm.layD (S:Fm N h0 B Γ Δ Hp) {i:Nat} {g:Gw} (hi:Δ[i]?=some g) (hf:freeL g.D Γ (Δ.eraseIdx i)=true):∃ y H',layC false Hp g.v=some (.v y,H')∧SlF g.d g.xs y∧Fm N h0 B Γ (Δ.eraseIdx i) H':=by
 have S':Fm N h0 B Γ (Δ.eraseIdx i) Hp:=S.wk (fun _ h=>h) (fun _ h=>mem_erase h)
 obtain ⟨L,rfl,h2,h3,h4,h5⟩:=S
 obtain ⟨cs,q1,q2⟩:=h5 g (List.mem_of_getElem? hi)
 rw [← ze B] at q2
 rcases q2 with ⟨e1,e2,e3⟩ | ⟨q2,d',hd',s,tl,hv,h6⟩ | ⟨hv,q2,_⟩
 ·refine ⟨g.v,_,?_,⟨cs,?_,q1⟩,S'⟩
  ·rcases e3 with e | e<;>rw [e]
   ·exact still_nilS.lay ..
   ·exact (still_fz ..).lay ..
  ·rw [e1,e2]
   rcases e3 with e | e<;>rw [e]
   ·exact .nil _
   ·exact .fz (by simp) _
 ·refine ⟨.fz cs g.xs.length g.d.sz false,_,?_,⟨cs,.fz q2 _,q1⟩,z5g S' (z8i hf hd') (.dead::tl)⟩
  have h1:at_ (L::pts h0 B) ⟨(pts h0 B).length,d',0,s,[]⟩=some (.arr s g.xs.length g.d.sz (cs.map .v)):=zgv h6 (by simp [C.node])
  have h7:=z6g (h:=pts h0 B) (s:=s) h6 .dead
  have h8:rng cs 0 (g.xs.length*g.d.sz)=some cs:=by unfold rng;rw [if_pos (by omega)];simp [← q2]
  rw [hv]
  simp [layC,h1,h7,h8,z71,Loc.last,q2]
 ·exact ⟨g.v,_,by rw [hv];exact (still_fz ..).lay ..,⟨cs,by rw [hv];exact .fz q2 _,q1⟩,S'⟩
end
end Go.Ev
namespace Go.Ev
theorem zga {α:Type} (d:α):∀ (xs:List α),(List.range xs.length).map (fun i=>xs.getD i d)=xs:=fun xs=>by
 apply List.ext_getElem
 ·simp
 ·intro i h1 h2;simp [List.getElem?_eq_getElem h2]
theorem dA_int {n:Nat} {k:IntKind} {xs:List Int} {us:List V} (h:(dA n (dI k)).R xs us):us=(List.range n).map fun i=>.p (.int k (xs.getD i 0)):=by
 obtain ⟨hn,hl⟩:=h
 have e:=RL.ints hl
 subst hn
 rw [e]
 conv=>lhs;rw [← zga 0 xs]
 rw [List.map_map];rfl
theorem zl6 {α β:Type} {n:Nat} {xs:List α} (h:xs.length=n) (d:α) (f:α→β):xs.map f=(List.range n).map fun i=>f (xs.getD i d):=by
 subst h
 conv=>lhs;rw [← zga d xs]
 rw [List.map_map];rfl
theorem iA_ok {α:Type} {xs:List α} {n e:Nat} {l:Loc} {o:Nat} {i:Int} {x:α} (hx:ix xs i=some x) (hn:xs.length=n):iA n e (.ref l o) i=some (.ref l (o+i.toNat*e)):=by
 obtain ⟨h0,hi,_⟩:=z5j hx
 unfold iA
 simp only
 rw [if_pos ⟨h0,by omega⟩]
section
variable {h:H} {l:Loc} {off j n:Nat} {cs:List C} {α:Type} {xs:List α} {f:α→V}
theorem AtC.ldIx (ha:AtC h l off cs) (hs:(cs.drop j).take n=xs.map fun z=>.v (f z)) {i:Int} {x:α} (hx:ix xs i=some x) (hn:xs.length=n):ldO false 1 h (.ref l (off+j+i.toNat*1))=some (f x):=by
 obtain ⟨h0,hi,rfl⟩:=z5j hx
 rw [Nat.mul_one,Nat.add_assoc]
 refine ha.ld ?_
 have:=congrArg (·[i.toNat]?) hs
 simp only [List.getElem?_take_of_lt (show i.toNat<n by omega),List.getElem?_drop,List.getElem?_map,List.getElem?_eq_getElem hi,Option.map_some] at this
 exact this
theorem zbg {α:Type} {cs:List α} {j n i:Nat} {x:α} (hi:i<n) (hl:j+n≤cs.length):cs.set (j+i) x=cs.take j++((cs.drop j).take n).set i x++cs.drop (j+n):=by
 have e:cs=cs.take j++(cs.drop j).take n++cs.drop (j+n):=by
  rw [List.append_assoc,← List.drop_drop,List.take_append_drop,List.take_append_drop]
 conv=>lhs;rw [e]
 rw [List.append_assoc,List.set_append_right _ _ (by simp;omega),List.set_append_left _ _ (by simp;omega),← List.append_assoc]
 congr 3
 simp;omega
theorem slA_ok (ha:AtC h l off cs) (hs:(cs.drop j).take n=xs.map fun z=>.v (f z)) {d:Dt α} (hd:d.L xs (xs.map f)) (hn:xs.length=n) (hp:0<n) (h1:d.sz=1):slA n 1 h (.ref l (off+j)) none none none=some (.sl l (off+j) n n 1)∧SlH h d xs (.sl l (off+j) n n 1):=by
 have hlen:j+n≤cs.length:=by
  have:=congrArg List.length hs
  simp only [List.length_take,List.length_drop,List.length_map] at this
  omega
 obtain ⟨all,e1,e2⟩:=ha.rng hlen
 have hall:=(z59 e2).1
 constructor
 ·simp only [slA,e1,Option.bind_some,Nat.mul_one]
  rw [if_neg (by omega)]
  simp [bI]
  omega
 ·refine ⟨xs.map f,?_,hd⟩
  rw [h1,hn]
  unfold Ev.rng at e2
  rw [if_pos hall] at e2
  refine .mk_sl e1 (by omega) ?_ (Nat.le_refl _)
  rw [Nat.mul_one,Option.some.inj e2,hs]
  have:=z4d l (off+j) (xs.map f)
  rw [List.map_map] at this
  exact this
end
section
variable {N:Nat} {h0 Hp:H} {B:List Rt} {Γ:List (Nat×Stamp×List C)} {Δ:List Gw}
theorem Fm.stIxG (S:Fm N h0 B Γ Δ Hp) {i d j n:Nat} {s σ:Stamp} {own:Bool} {cs:List C} {α:Type} {xs zs:List α} {f:α→V} {q:Int} {y:α} (hi:Γ[i]?=some (d,s,cs)) (hf:(freeG (Γ.eraseIdx i) d&&freeD Δ d)=true) (hst:∀ a,Still (f a))
  (hs:(cs.drop j).take n=xs.map fun z=>.v (f z)) (hz:stx xs q y=some zs) (hn:xs.length=n) (dflt:α) :
  ∃ H',stO own 1 σ Hp (.ref ⟨h0.length,d,0,s,[]⟩ (j+q.toNat*1)) (f y)=some H'∧Fm N h0 B (Γ.set i (d,s,cs.take j++(List.range n).map (fun i=>.v (f (zs.getD i dflt)))++cs.drop (j+n))) Δ H':=by
 obtain ⟨⟨q0,q1⟩,rfl⟩:=zay hz
 have hlen:j+n≤cs.length:=by
  have:=congrArg List.length hs
  simp only [List.length_take,List.length_drop,List.length_map] at this
  by_cases h0:n=0
  ·subst h0;omega
  ·omega
 have e:=(S.atG hi).st (own:=own) (σ:=σ) (hst y) (j:=j+q.toNat) (by omega)
 rw [Nat.zero_add] at e
 rw [Nat.mul_one]
 refine ⟨_,e,?_⟩
 have:=S.setG (cs':=cs.set (j+q.toNat) (.v (f y))) hi hf (by simp)
 rw [zbg (n:=n) (by omega) hlen,hs] at this
 rw [zbg (n:=n) (by omega) hlen,hs]
 have e2:(xs.map fun z=>C.v (f z)).set q.toNat (.v (f y))=(List.range n).map (fun i=>.v (f ((xs.set q.toNat y).getD i dflt))):=by
  rw [← zl6 (xs:=xs.set q.toNat y) (by simp [hn]) dflt (fun z=>C.v (f z)),List.map_set]
 rw [e2] at this ⊢
 exact this
theorem Fm.stIxB (S:Fm N h0 B Γ Δ Hp) {i off j n:Nat} {l:Loc} {σ:Stamp} {own:Bool} {cs:List C} {α:Type} {xs zs:List α} {f:α→V} {q:Int} {y:α} (hi:B[i]?=some ⟨l,off,cs⟩) (hst:∀ a,Still (f a))
  (hs:(cs.drop j).take n=xs.map fun z=>.v (f z)) (hz:stx xs q y=some zs) (hn:xs.length=n) (dflt:α) :
  ∃ H',stO own 1 σ Hp (.ref l (off+j+q.toNat*1)) (f y)=some H'∧Fm N h0 (B.set i ⟨l,off,cs.take j++(List.range n).map (fun i=>.v (f (zs.getD i dflt)))++cs.drop (j+n)⟩) Γ Δ H':=by
 obtain ⟨⟨q0,q1⟩,rfl⟩:=zay hz
 have hlen:j+n≤cs.length:=by
  have:=congrArg List.length hs
  simp only [List.length_take,List.length_drop,List.length_map] at this
  by_cases h0:n=0
  ·subst h0;omega
  ·omega
 have e:=(S.atB hi).st (own:=own) (σ:=σ) (hst y) (j:=j+q.toNat) (by simp;omega)
 rw [Nat.mul_one,Nat.add_assoc]
 refine ⟨_,e,?_⟩
 have:=S.setB (cs:=cs.set (j+q.toNat) (.v (f y))) hi (by simp)
 simp only at this
 rw [zbg (n:=n) (by omega) hlen,hs] at this
 rw [zbg (n:=n) (by omega) hlen,hs]
 have e2:(xs.map fun z=>C.v (f z)).set q.toNat (.v (f y))=(List.range n).map (fun i=>.v (f ((xs.set q.toNat y).getD i dflt))):=by
  rw [← zl6 (xs:=xs.set q.toNat y) (by simp [hn]) dflt (fun z=>C.v (f z)),List.map_set]
 rw [e2] at this ⊢
 exact this
end
end Go.Ev
namespace Go.Ev
theorem rl_val {t:DT} {α:Type} {d:Dt α} (f:t.D→α) (hc:∀ x,d.R (f x) (t.cells x)):∀ l:List t.D,d.L (l.map f) (l.flatMap t.cells)
 | []=>RL.nil
 | x::l=>by
  rw [List.map_cons,List.flatMap_cons]
  exact RL.cons (hc x) (rl_val f hc l)
theorem znt {b:Nat} {t:DT} {α:Type} {d:Dt α} (f:t.D→α) (hc:∀ x,d.R (f x) (t.cells x)) (hz:d.sz=t.size) (x:Option (List t.D)):SlF d ((x.getD []).map f) ((DT.slice b t).val x):=by
 refine ⟨(x.getD []).flatMap t.cells,?_,rl_val f hc _⟩
 rw [hz,List.length_map]
 exact fun h=>zmz x h
theorem znk {b:Nat} {k:IntKind} (x:Option (List Int)):SlF (dI k) (x.getD []) ((DT.slice b (.int k)).val x):=by
 have:=znt (b:=b) (t:=.int k) (d:=dI k) (fun x=>x) (fun x=>rfl) rfl x
 rwa [List.map_id'] at this
theorem zhg {h:H}:frzAs h []=some ([],h):=rfl
theorem zey {h h1 h2:H} {x y:V} {xs ys:List V} (a:frzA h x=some (y,h1)) (b:frzAs h1 xs=some (ys,h2)):frzAs h (x::xs)=some (y::ys,h2):=by
 simp only [frzAs,a,Option.bind_some,b,Option.map_some]
theorem zh1 {rec:CallF} {f:FuncId} {σ:Stamp} {args args':List V} {H H':Go.Ev.H} {d:Option Nat} (e:frzAs H args=some (args',H')):callFO rec f σ args H d=callO rec f σ args' H' d:=by
 unfold callFO callO;rw [e];rfl
def StN (x:V) (nv:List V):Prop:=∀ (own:Bool) (σ:Stamp) (h:H) (l:Loc) (cs:List C) (o:Nat),nd h l=some cs→o+nv.length≤cs.length→stO own nv.length σ h (.ref l o) x=some (setNd h l (cs.take o++nv.map .v++cs.drop (o+nv.length)))
theorem zla {x:V} (hx:Still x):StN x [x]:=fun _ _ _ _ _ _ hn ho=>by
 simp only [List.length_cons,List.length_nil,Nat.zero_add] at ho ⊢
 rw [zd9 hx hn (by omega)]
 congr 2
 rw [List.map_cons,List.map_nil,z5z _ _ _ (by omega)]
end Go.Ev
namespace Go.Ev
theorem ix_at {α:Type} {xs:List α} {i:Nat} {x:α} (h:xs[i]?=some x):ix xs (i:Int)=some x:=by
 unfold ix;rw [if_pos (by omega)];simpa using h
theorem ap_eq {α:Type} {b:Nat} {xs ys:List α} (hb:b≤64) (h:xs.length+ys.length<2^40):ap b xs ys=some (xs++ys):=by
 unfold ap
 refine if_pos ⟨?_,by omega⟩
 have:(xs.length+ys.length)*b≤(xs.length+ys.length)*64:=Nat.mul_le_mul_left _ hb
 omega
theorem sub_eq {α:Type} {xs:List α} {a n:Nat} (h:a+n≤xs.length):sub xs (a:Int) ((a+n:Nat):Int)=some ((xs.drop a).take n):=by
 unfold sub
 rw [if_pos ⟨by omega,by omega,by omega⟩]
 congr 2
 omega
theorem wrap_i64 {n:Int} (h1:-9223372036854775808≤n) (h2:n<9223372036854775808):IntKind.wrap .i64 n=n:=wrap64 h1 h2
end Go.Ev
namespace Go.Ev
def OwnA {α:Type} (D:List Nat) (h:H) (dt:Dt α) (xs:List α) (v:V):Prop:=∃ cs L h1,h=L::h1∧dt.L xs cs∧GrowS D L h1.length v dt.sz xs.length cs
def KillA (D:List Nat) (h h':H):Prop:=∃ L L' h1,h=L::h1∧h'=L'::h1∧L'.length=L.length∧∀ j,j∉D→L'[j]?=L[j]?
theorem OwnA.h {α:Type} {D:List Nat} {h:H} {dt:Dt α} {xs:List α} {v:V} (ho:OwnA D h dt xs v):SlH h dt xs v:=by
 obtain ⟨cs,L,h1,rfl,hl,hg⟩:=ho
 exact ⟨cs,hg.sl,hl⟩
theorem OwnA.refl {α:Type} {D:List Nat} {h:H} {dt:Dt α} {xs:List α} {v:V} (ho:OwnA D h dt xs v):KillA D h h:=by
 obtain ⟨cs,L,h1,rfl,_,_⟩:=ho
 exact ⟨L,L,h1,rfl,rfl,rfl,fun _ _=>rfl⟩
theorem zh2 {h h':H} {xs ys:List V} (e:frzCs h xs=some (ys,h')):frzA h (.agg xs)=some (.agg ys,h'):=by simp only [frzA,e,Option.map_some]
theorem GrowS.copy {D:List Nat} {L:Layer} {h:H} {v:V} {k n:Nat} {xs:List V} (ha:GrowS D L h.length v k n xs) (hD:noLit D=true) {a b m:Nat} (hab:a≤b) (hb:b≤n) {y:V} {ys:List V} (hy:IsSl (L::h) y k m ys) (hs:Stills ys) :
  ∃ L',cpO k (L::h) (subV k v a b) y=some (.p (.int .i64 ((min m (b-a):Nat):Int)),L'::h)∧GrowS D L' h.length v k n (xs.take (a*k)++ys.take (min m (b-a)*k)++xs.drop (a*k+min m (b-a)*k))∧L'.length=L.length∧∀ j,j∉D→L'[j]?=L[j]?:=by
 have hyl:=hy.clen
 by_cases h0:min m (b-a)=0
 ·refine ⟨L,?_,?_,rfl,fun j _=>rfl⟩
  ·have h1:=(ha.sl.sub hab hb).len
   have hsl:isSl (subV k v a b)=true:=by
    rcases ha with ⟨_,_,rfl | rfl⟩ | ⟨_,_,_,_,_,rfl,_⟩ | ⟨rfl,_⟩<;>rfl
   unfold cpO
   rw [h1,Option.bind_some,hy.len,Option.bind_some,hy.cells,Option.bind_some,if_neg (by rw [hyl];simp),if_neg (by rw [hsl];simp),if_pos h0,h0]
   rfl
  ·rw [h0,Nat.zero_mul,List.take_zero,List.append_nil,Nat.add_zero,List.take_append_drop]
   exact ha
 ·rcases ha with ⟨rfl,_,_⟩ | ⟨h2,d',hd',s,tl,rfl,h3⟩ | ⟨_,_,_,hd⟩
  ·omega
  ·generalize hq:min m (b-a)=q at h0 ⊢
   have hlt:=(List.getElem?_eq_some_iff.1 h3).1
   have hqk:q*k≤m*k:=Nat.mul_le_mul_right _ (by omega)
   have hqb:a*k+q*k≤n*k:=by rw [← Nat.add_mul];exact Nat.mul_le_mul_right _ (by omega)
   have hyt:(ys.take (q*k)).length=q*k:=by rw [List.length_take,hyl];omega
   have hst:Stills (ys.take (q*k)):=fun x hx=>hs x (List.mem_of_mem_take hx)
   have hlen:(xs.take (a*k)++ys.take (q*k)++xs.drop (a*k+q*k)).length=n*k:=by
    rw [List.length_append,List.length_append,hyt,List.length_take,List.length_drop];omega
   refine ⟨L.set d' (.arr s n k ((xs.take (a*k)++ys.take (q*k)++xs.drop (a*k+q*k)).map .v)::tl),?_,.inr (.inl ⟨hlen,d',hd',s,tl,rfl,by simp [hlt]⟩),by simp,fun j hj=>?_⟩
   ·unfold cpO
    rw [subV,hy.len,hy.cells]
    simp only [lenOf,Option.bind_some]
    rw [if_neg (by rw [hyl];simp),if_neg (by simp [isSl]),if_neg (by rw [hq];exact h0),if_pos (by simp [eszIs]),hq]
    simp only [cpO.ovO]
    rw [if_neg (by rw [hyt];omega),z2j true (L::h) hst,Option.bind_some,nd_arr h3,Option.bind_some]
    simp only [List.length_map,hyt]
    rw [if_pos (by omega),zhf h3,Option.map_some]
    simp [List.map_take,List.map_drop]
   ·rw [List.getElem?_set_ne (fun e=>hj (by rw [← e];exact hd'))]
  ·exact (z79 hD hd).elim
theorem SlF.int1 (k:IntKind) (n:Int):SlF (dI k) [n] (.fz [.p (.int k n)] 1 1 true):=SlF.lit (cs:=[.p (.int k n)]) (RL.cons (show (dI k).R n [.p (.int k n)] from rfl) RL.nil) rfl rfl true
abbrev vOf {α:Type} {d:Dt α} {xs:List α} {v:V} (_:SlF d xs v):V:=v
section
variable {β α γ δ:Type} {Q:β→α→Prop} {x:Option β} {K:δ→Option α}
theorem Sim.ci {k:IntKind} {n:Int} {f:Int→Option δ} (s:Sim x ((f n).bind K) Q):Sim x (((castI k (.p (.int k n))).bind f).bind K) Q:=Sim.op (castI_p _ _) s
theorem Sim.ab {b:Bool} {f:Bool→Option δ} (s:Sim x ((f b).bind K) Q):Sim x (((asB (.p (.bool b))).bind f).bind K) Q:=Sim.op (asB_p _) s
theorem Sim.nc {l:Loc} {o:Nat} {f:V→Option δ} (s:Sim x ((f (.ref l o)).bind K) Q):Sim x (((nilChk (.ref l o)).bind f).bind K) Q:=Sim.op (nilChk_ref _ _) s
theorem Sim.fa {l:Loc} {o k:Nat} {f:V→Option δ} (s:Sim x ((f (.ref l (o+k))).bind K) Q):Sim x (((fA (.ref l o) k).bind f).bind K) Q:=Sim.op (fA_ref _ _ _) s
theorem Sim.or {v:γ} {g:γ→Option δ} (s:Sim x ((g v).bind K) Q):Sim x (((some v).bind g).bind K) Q:=s
theorem Sim.cq {c:Bool} {a b:Option β} {A B:Option δ} (s:Sim a (A.bind K) Q) (t:Sim b (B.bind K) Q):Sim (bif c then a else b) ((bif c then A else B).bind K) Q:=Sim.cd (fun _=>s) (fun _=>t)
theorem Sim.cqk {c:Bool} {a b:Option β} {A B:Option γ} {g:γ→Option δ} (s:Sim a ((A.bind g).bind K) Q) (t:Sim b ((B.bind g).bind K) Q):Sim (bif c then a else b) (((bif c then A else B).bind g).bind K) Q:=Sim.cdk (fun _=>s) (fun _=>t)
end
abbrev Nn (c:C) (k:Nat):Prop:=∀ v,c=.v v→v=.p (.slice none 0 0)∨v=.fz [] 0 k true
end Go.Ev
namespace Go.Ev
def Nq (c:C) (k:Nat):Prop:=c=.v (.p (.slice none 0 0))∨∃ s n ws,c=.arr s (n+1) k ws
def neO {α:Type} (xs:List α):Option Unit:=if xs.isEmpty then none else some ()
theorem Nq.nil {k:Nat}:Nq (.v (.p (.slice none 0 0))) k:=.inl rfl
theorem Nq.nn {c:C} {k:Nat} (h:Nq c k):Nn c k:=fun v e=>by
 rcases h with h | ⟨s,n,ws,h⟩
 ·rw [h] at e;cases e;exact .inl rfl
 ·rw [h] at e;cases e
theorem SlF.nil_len {α:Type} {d:Dt α} {xs:List α} {v:V} (h:SlF d xs v) (hv:v=.p (.slice none 0 0)∨v=.fz [] 0 d.sz true):xs=[]:=by
 obtain ⟨cs,h1,h2⟩:=h
 have h3:=(h1 []).len
 rcases hv with rfl | rfl
 ·exact List.eq_nil_of_length_eq_zero (Option.some.inj h3).symm
 ·exact List.eq_nil_of_length_eq_zero (Option.some.inj h3).symm
theorem Nq.mk {α:Type} {d:Dt α} {xs:List α} {c:C} {k:Nat} {u:Unit} (hS:SoC d xs c) (nt:Nn c k) (hk:d.sz=k) (hne:neO xs=some u):Nq c k:=by
 unfold neO at hne
 rcases hS with ⟨v,rfl,hv⟩ | ⟨s,ws,rfl,_⟩
 ·have:=hv.nil_len (by rw [hk];exact nt v rfl)
  subst this
  cases hne
 ·cases xs with
  | nil=>cases hne
  | cons x xs=>exact .inr ⟨s,xs.length,_,by rw [hk];rfl⟩
theorem SoC.eqNil {P:Program} {h:H} {t e:TypeId} {α:Type} {d:Dt α} {xs:List α} {c:C} {k:Nat} {l:Loc} {o:Nat} (hu:P.underlying t=some (.slice e)) (hS:SoC d xs c) (hq:Nq c k):binV P h .eql t (cellV l o c) (.p (.slice none 0 0))=some (.p (.bool xs.isEmpty)):=by
 rcases hq with rfl | ⟨s,n,ws,rfl⟩
 ·rcases hS with ⟨v,e1,hv⟩ | ⟨s,ws,e1,_⟩
  ·cases e1
   have:=hv.nil_len (.inl rfl)
   subst this
   show (eqlV P h t (.p (.slice none 0 0)) (.p (.slice none 0 0))).map _=_
   simp only [eqlV,hu];rfl
  ·cases e1
 ·rcases hS with ⟨v,e1,hv⟩ | ⟨s',ws',e1,_⟩
  ·cases e1
  ·injection e1 with _ e2 _ _
   have:xs.isEmpty=false:=by cases xs with
    | nil=>cases e2
    | cons=>rfl
   rw [this]
   show (eqlV P h t (.sl _ _ _ _ _) (.p (.slice none 0 0))).map _=_
   simp only [eqlV,hu];rfl
section
variable {N:Nat} {h0 Hp:H} {B:List Rt} {Γ:List (Nat×Stamp×List C)} {Δ:List Gw}
theorem Fm.expG (S:Fm N h0 B Γ Δ Hp) {i d:Nat} {s:Stamp} {cs:List C} (hi:Γ[i]?=some (d,s,cs)) (hf:(freeG (Γ.eraseIdx i) d&&freeD Δ d)=true) {frz:Bool} {τ:Stamp} :
  ∃ H',expF frz τ Hp (.ref ⟨h0.length,d,0,s,[]⟩ 0)=some (.own s cs,H')∧Fm N h0 B (Γ.eraseIdx i) Δ H':=by
 have S':Fm N h0 B (Γ.eraseIdx i) Δ Hp:=S.wk (fun _ h=>mem_erase h) (fun _ h=>h)
 obtain ⟨L,rfl,h2,h3,h4,h5⟩:=S
 have h6:=h4 _ (List.mem_of_getElem? hi)
 simp only at h6
 have hlt:=(List.getElem?_eq_some_iff.1 h6).1
 have ht:top (L::pts h0 B)=h0.length:=by simp [top,ze]
 have hr:rootC (L::pts h0 B) ⟨h0.length,d,0,s,[]⟩=some (.own s cs):=by
  simp [rootC,ze,h6]
 have ha:at_ (L::pts h0 B) ⟨h0.length,d,0,s,[]⟩=some (.own s cs):=by
  simp [at_,hr,find,C.node]
 refine ⟨L.set d [.dead]::pts h0 B,?_,z5g S' hf [.dead]⟩
 have hs:setAt (L::pts h0 B) ⟨h0.length,d,0,s,[]⟩ .dead=L.set d [.dead]::pts h0 B:=by
  simp [setAt,hr,repl,zc,ze,h6]
 cases frz<;>simp only [expF,expC,ht,ha,hs,if_true]
theorem dI_map {k:IntKind}:∀ xs:List Int,(dI k).L xs (xs.map fun n=>.p (.int k n))
 | []=>rfl
 | _::xs=>⟨_,_,rfl,rfl,dI_map xs⟩
theorem Fm.landG (S:Fm N h0 B Γ Δ Hp) {d:Nat} {s:Stamp} {cs:List C} (hd:d<N) (hf:(freeG Γ d&&freeD Δ d)=true) :
  ∃ H',Ev.land Hp (some d) [.own s cs]=(.ref ⟨h0.length,d,0,s,[]⟩ 0,H')∧Fm N h0 B ((d,s,cs)::Γ) Δ H':=by
 refine ⟨_,?_,S.add hd hf⟩
 obtain ⟨L,rfl,_⟩:=S
 simp [Ev.land,resVs,tupV,z77,top,ze]
end
theorem Dt.setL {α:Type} {d:Dt α} {xs zs:List α} {cs:List V} (q1:d.L xs cs) {k:Int} {old x:α} (ho:ix xs k=some old) (hz:stx xs k x=some zs) {off:Nat} {nv:List V} (hoff:off+nv.length≤d.sz)
  (hx:∀ ws,d.R old ws→d.R x (ws.take off++nv++ws.drop (off+nv.length))):d.L zs (cs.take (k.toNat*d.sz+off)++nv++cs.drop (k.toNat*d.sz+off+nv.length))∧k.toNat*d.sz+off+nv.length≤cs.length:=by
 obtain ⟨⟨hk0,hk1⟩,rfl⟩:=zay hz
 have hcl:=RL.length (fun h=>d.len h) q1
 obtain ⟨_,hix,hold⟩:=z5j ho
 obtain ⟨ws,hR,hw⟩:=RL.get (fun h=>d.len h) q1 hix
 rw [hold] at hR
 have hwl:=d.len hR
 have hin:k.toNat*d.sz+d.sz≤cs.length:=by
  have:=Nat.mul_le_mul_right d.sz (Nat.succ_le_of_lt hix)
  rw [Nat.succ_mul] at this;omega
 refine ⟨?_,by omega⟩
 have:=RL.set (k:=d.sz) (fun h=>d.len h) (i:=k.toNat) (y:=x) q1 hix (hx ws hR)
 have hsplit:cs=cs.take (k.toNat*d.sz)++(ws++cs.drop (k.toNat*d.sz+d.sz)):=by
  rw [← hw,← List.drop_drop,List.take_append_drop,List.take_append_drop]
 have hA:(cs.take (k.toNat*d.sz)).length=k.toNat*d.sz:=by rw [List.length_take];omega
 generalize cs.take (k.toNat*d.sz)=A at hsplit hA this
 generalize cs.drop (k.toNat*d.sz+d.sz)=Bc at hsplit this
 rw [hsplit]
 rw [List.take_append,List.take_append,List.drop_append,List.drop_append,hA,hwl]
 rw [List.take_of_length_le (l:=A) (by omega),List.drop_of_length_le (l:=A) (by omega)]
 have t1:k.toNat*d.sz+off-k.toNat*d.sz=off:=by omega
 have t2:k.toNat*d.sz+off+nv.length-k.toNat*d.sz=off+nv.length:=by omega
 have t3:off-d.sz=0:=by omega
 have t4:off+nv.length-d.sz=0:=by omega
 rw [t1,t2,t3,t4,List.take_zero,List.drop_zero,List.append_nil,List.nil_append]
 simp only [List.append_assoc] at this ⊢
 exact this
theorem Dt.whole {α:Type} {d:Dt α} {old x:α} {nv:List V} {n:Nat} (hR:d.R x nv) (hn:d.sz=n):∀ ws,d.R old ws→d.R x (ws.take 0++nv++ws.drop (0+n)):=fun ws hw=>by
 have:=d.len hw
 rw [List.take_zero,List.nil_append,Nat.zero_add,List.drop_of_length_le (by omega),List.append_nil]
 exact hR
theorem zix {Hp:H} {l:Loc} {off0 j:Nat} {cs0:List C} {c:C} {α:Type} {d:Dt α} {xs zs:List α} {own:Bool} {σ:Stamp} {k:Int} {old x:α} {nv:List V} {xv:V} {n e off:Nat} (ha:AtC Hp l off0 cs0) (hj:cs0[j]?=some c) (hS:SoC d xs c) (nt:Nn c e)
  (ho:ix xs k=some old) (hz:stx xs k x=some zs) (he:d.sz=e) (hn:nv.length=n) (hoff:off+n≤e) (hst:StN xv nv) (hx:∀ ws,d.R old ws→d.R x (ws.take off++nv++ws.drop (off+n))) :
  ∃ c',stO own n σ Hp (adr (cellV l (off0+j) c) (k.toNat*e+off)) xv=some (ptC Hp l off0 (cs0.set j c'))∧SoC d zs c'∧Nq c' e:=by
 subst he;subst hn
 obtain ⟨⟨hk0,hk1⟩,hzs⟩:=zay hz
 rcases hS with ⟨v,rfl,hv⟩ | ⟨s,ws,rfl,hl⟩
 ·have:=hv.nil_len (nt v rfl)
  subst this
  simp only [List.length_nil] at hk1;omega
 ·obtain ⟨hL,hle⟩:=Dt.setL hl ho hz hoff hx
  have hA:=ha.hop hj (s:=s) (ds:=ws.map .v) (by simp [C.node])
  obtain ⟨p,q,hnd,hp⟩:=hA
  have hp0:p=[]:=List.eq_nil_of_length_eq_zero hp
  subst hp0
  have e1:=hst own σ Hp (l.hop (off0+j) s) _ (k.toNat*d.sz+off) hnd (by simp only [List.nil_append,List.length_append,List.length_map];omega)
  have hlen:(ws.take (k.toNat*d.sz+off)++nv++ws.drop (k.toNat*d.sz+off+nv.length)).length=ws.length:=by
   simp only [List.length_append,List.length_take,List.length_drop];omega
  have hpt:=ha.hop_pt hj (s:=s) (ds:=ws.map .v) (ds':=(ws.take (k.toNat*d.sz+off)++nv++ws.drop (k.toNat*d.sz+off+nv.length)).map .v) (by simp [C.node]) (by simp only [List.length_map];exact hlen)
  refine ⟨.arr s xs.length d.sz ((ws.take (k.toNat*d.sz+off)++nv++ws.drop (k.toNat*d.sz+off+nv.length)).map .v),?_,.inr ⟨s,_,?_,hL⟩,?_⟩
  ·show stO own nv.length σ Hp (.ref (l.hop (off0+j) s) (0+(k.toNat*d.sz+off))) xv=_
   rw [Nat.zero_add,e1]
   congr 1
   refine Eq.trans ?_ hpt
   rw [ptC_eq (off:=0) (p:=[]) (cs:=ws.map .v) (cs':=(ws.take (k.toNat*d.sz+off)++nv++ws.drop (k.toNat*d.sz+off+nv.length)).map .v) hnd rfl (by simp only [List.length_map];exact hlen)]
   congr 1
   simp only [List.nil_append,List.map_append,List.map_take,List.map_drop]
   rw [List.take_append_of_le_length (by simp only [List.length_map];omega),List.drop_append_of_le_length (by simp only [List.length_map];omega)]
   simp only [List.append_assoc]
  ·rw [hzs,List.length_set]
  ·obtain ⟨m,hm⟩:∃ m,xs.length=m+1:=⟨xs.length-1,by omega⟩
   exact .inr ⟨s,m,_,by rw [hm]⟩
section
variable {N:Nat} {h0 Hp:H} {B:List Rt} {Γ:List (Nat×Stamp×List C)} {Δ:List Gw}
theorem Fm.seG (S:Fm N h0 B Γ Δ Hp) {i d0 j:Nat} {s0:Stamp} {cs0:List C} {c:C} {α:Type} {d:Dt α} {xs zs:List α} {own:Bool} {σ:Stamp} {k:Int} {old x:α} {nv:List V} {xv:V} {n e off:Nat} (hi:Γ[i]?=some (d0,s0,cs0)) (hf:(freeG (Γ.eraseIdx i) d0&&freeD Δ d0)=true) (hj:cs0[j]?=some c) (hS:SoC d xs c) (nt:Nn c e)
  (ho:ix xs k=some old) (hz:stx xs k x=some zs) (he:d.sz=e) (hn:nv.length=n) (hoff:off+n≤e) (hst:StN xv nv) (hx:∀ ws,d.R old ws→d.R x (ws.take off++nv++ws.drop (off+n))) :
  ∃ c' H',stO own n σ Hp (adr (cellV ⟨h0.length,d0,0,s0,[]⟩ j c) (k.toNat*e+off)) xv=some H'∧SoC d zs c'∧Nq c' e∧Fm N h0 B (Γ.set i (d0,s0,cs0.set j c')) Δ H':=by
 obtain ⟨c',e1,h1,h2⟩:=zix (own:=own) (σ:=σ) (S.atG hi) hj hS nt ho hz he hn hoff hst hx
 rw [Nat.zero_add] at e1
 exact ⟨c',_,e1,h1,h2,S.setG hi hf (by simp)⟩
theorem Fm.seB (S:Fm N h0 B Γ Δ Hp) {i off0 j:Nat} {l:Loc} {cs0:List C} {c:C} {α:Type} {d:Dt α} {xs zs:List α} {own:Bool} {σ:Stamp} {k:Int} {old x:α} {nv:List V} {xv:V} {n e off:Nat} (hi:B[i]?=some ⟨l,off0,cs0⟩) (hj:cs0[j]?=some c) (hS:SoC d xs c) (nt:Nn c e)
  (ho:ix xs k=some old) (hz:stx xs k x=some zs) (he:d.sz=e) (hn:nv.length=n) (hoff:off+n≤e) (hst:StN xv nv) (hx:∀ ws,d.R old ws→d.R x (ws.take off++nv++ws.drop (off+n))) :
  ∃ c' H',stO own n σ Hp (adr (cellV l (off0+j) c) (k.toNat*e+off)) xv=some H'∧SoC d zs c'∧Nq c' e∧Fm N h0 (B.set i ⟨l,off0,cs0.set j c'⟩) Γ Δ H':=by
 obtain ⟨c',e1,h1,h2⟩:=zix (own:=own) (σ:=σ) (S.atB hi) hj hS nt ho hz he hn hoff hst hx
 exact ⟨c',_,e1,h1,h2,S.setB hi (by simp)⟩
end
end Go.Ev
namespace Go.Ev
theorem lo_nil {H:Ev.H}:layCs true H []=some (([]:List C),H):=rfl
theorem lo_pl {H H':Ev.H} {x:V} {xs:List V} {cs:List C} (hx:Still x) (t:layCs true H xs=some (cs,H')):layCs true H (x::xs)=some (.v x::cs,H'):=by
 simp only [layCs,hx.lay,Option.bind_some,t]
theorem lo_ow {H H1 H':Ev.H} {x:V} {c:C} {xs:List V} {cs:List C} (hx:layC true H x=some (c,H1)) (t:layCs true H1 xs=some (cs,H')):layCs true H (x::xs)=some (c::cs,H'):=by
 simp only [layCs,hx,Option.bind_some,t]
section
variable {N:Nat} {h0 Hp:H} {B:List Rt} {Γ:List (Nat×Stamp×List C)} {Δ:List Gw}
theorem Fm.layO (S:Fm N h0 B Γ Δ Hp) {k:Nat} {g:Gw} (hk:Δ[k]?=some g) (hD:noLit g.D=true) (hf:freeL g.D Γ (Δ.eraseIdx k)=true) :
  ∃ c H1,layC true Hp g.v=some (c,H1)∧SoC g.d g.xs c∧Nn c g.d.sz∧Fm N h0 B Γ (Δ.eraseIdx k) H1:=by
 have S':Fm N h0 B Γ (Δ.eraseIdx k) Hp:=S.wk (fun _ h=>h) (fun _ h=>mem_erase h)
 obtain ⟨L,rfl,h2,h3,h4,h5⟩:=S
 obtain ⟨ws,q1,q2⟩:=h5 g (List.mem_of_getElem? hk)
 rcases q2 with ⟨e1,e2,e3⟩ | ⟨q2,d',hd',s,tl,hv,h6⟩ | ⟨_,_,_,hd⟩
 ·have o:OwnS (.v g.v) g.d.sz g.xs.length ws:=⟨by rw [e1,e2];simp,.inl ⟨e1,e2,by rcases e3 with e | e<;>rw [e]<;>simp⟩⟩
  refine ⟨.v g.v,_,?_,SoC.own o q1,fun v hv=>?_,S'⟩
  ·rcases e3 with e | e<;>rw [e]<;>rfl
  ·cases hv;exact e3
 ·have hr:rootC (L::pts h0 B) ⟨h0.length,d',0,s,[]⟩=some (.arr s g.xs.length g.d.sz (ws.map .v)):=by simp [rootC,ze,h6]
  have hs:zc (L::pts h0 B) ⟨h0.length,d',0,s,[]⟩ .dead=L.set d' (.dead::tl)::pts h0 B:=by simp [zc,ze,h6]
  have o:OwnS (.arr s g.xs.length g.d.sz (ws.map .v)) g.d.sz g.xs.length ws:=⟨q2,.inr ⟨s,rfl⟩⟩
  refine ⟨_,L.set d' (.dead::tl)::pts h0 B,?_,SoC.own o q1,?_,z5g S' (z8i hf hd') (.dead::tl)⟩
  ·rw [hv];simp [layC,ze,hr,hs]
  ·intro v hv;cases hv
 ·exact (z79 hD hd).elim
theorem Fm.boxL {H1:Ev.H} (S:Fm N h0 B Γ Δ H1) {d:Nat} {s:Stamp} {xs:List V} {cs:List C} (e:layCs true Hp xs=some (cs,H1)) (hd:d<N) (hf:(freeG Γ d&&freeD Δ d)=true) :
  ∃ H',boxO true s d Hp (.agg xs)=some (.ref ⟨h0.length,d,0,s,[]⟩ 0,H')∧Fm N h0 B ((d,s,cs)::Γ) Δ H' :=
 ⟨_,by unfold boxO;rw [show (V.agg xs).cells=xs from rfl,e];simp only [Option.bind_some];rw [S.newLoc],S.add hd hf⟩
theorem Fm.clipC (S:Fm N h0 B Γ Δ Hp) {G:Cfg} {X:CallF} {f n e i d0 j d:Nat} {s0 σ:Stamp} {cs:List C} {c:C} {α:Type} {dt:Dt α} {xs:List α} (entry:∀ (x:V) (h:H),cvBody G (ev G X) (cvL G X) f σ [x] h=zef e n σ x h)
  (hi:Γ[i]?=some (d0,s0,cs)) (hf:(freeG (Γ.eraseIdx i) d0&&freeD Δ d0)=true) (hj:cs[j]?=some c) (hS:SoC dt xs c) (nt:Nn c e) (he:dt.sz=e) (hX:∀ y,X f σ [y] Hp=none) :
  ∃ y,callO (ev G X) f σ [cellV ⟨h0.length,d0,0,s0,[]⟩ j c] Hp (some d)=some (y,Hp)∧∃ c2 a H',(∀ τ,expF false τ Hp y=some (c2,H'))∧OwnS c2 dt.sz xs.length a∧dt.L xs a∧Fm N h0 B (Γ.eraseIdx i) Δ H':=by
 subst he
 have Se:∀ {H':Ev.H} {cs':List C},Fm N h0 B (Γ.set i (d0,s0,cs')) Δ H'→Fm N h0 B (Γ.eraseIdx i) Δ H':=fun S=>by
  have:=S.wk (Γ':=(Γ.set i (d0,s0,_)).eraseIdx i) (fun _ h=>mem_erase h) (fun _ h=>h)
  rwa [List.eraseIdx_set_eq] at this
 have ha:=S.atG hi
 have hsl:=hS.sl ha hj
 rw [Nat.zero_add] at hsl
 have len:=hsl.len
 have hlt:=(List.getElem?_eq_some_iff.1 hj).1
 have key:∃ y,slS dt.sz (cellV ⟨h0.length,d0,0,s0,[]⟩ j c) none (some xs.length) (some xs.length)=some y∧fin false σ (List.replicate n []::Hp) [y]=some ([.v y],Hp)∧∃ c2 a H',(∀ τ,expF false τ Hp y=some (c2,H'))∧OwnS c2 dt.sz xs.length a∧dt.L xs a∧Fm N h0 B (Γ.eraseIdx i) Δ H':=by
  have same:Γ.set i (d0,s0,cs)=Γ:=by rw [← (List.getElem?_eq_some_iff.1 hi).2];exact List.set_getElem_self ..
  rcases hS with ⟨v,rfl,hv⟩ | ⟨s,ws,rfl,hl⟩
  ·have hx:=hv.nil_len (nt v rfl)
   subst hx
   rcases nt v rfl with rfl | rfl
   ·exact ⟨_,rfl,fin_1 still_nilS,_,[],Hp,fun τ=>still_nilS.exp ..,⟨by simp,.inl ⟨rfl,rfl,.inl rfl⟩⟩,rfl,Se (by rw [same];exact S)⟩
   ·exact ⟨.fz [] 0 dt.sz true,by simp [cellV,toV,slS,bI],fin_1 (still_fz ..),_,[],Hp,fun τ=>(still_fz ..).exp ..,⟨by simp,.inl ⟨rfl,rfl,.inr rfl⟩⟩,rfl,Se (by rw [same];exact S)⟩
  ·have hlen:=RL.length (fun h=>dt.len h) hl
   by_cases h0':xs.length=0
   ·have:xs=[]:=List.eq_nil_of_length_eq_zero h0'
    subst this
    exact ⟨.fz [] 0 dt.sz true,by simp [cellV,toV,slS,bI],fin_1 (still_fz ..),_,[],Hp,fun τ=>(still_fz ..).exp ..,⟨by simp,.inl ⟨rfl,rfl,.inr rfl⟩⟩,rfl,Se (by rw [same];exact S)⟩
   ·have hT:h0.length<Hp.length:=by
     obtain ⟨L,rfl,_⟩:=S
     simp [ze]
    have htop:top Hp=h0.length:=by
     obtain ⟨L,rfl,_⟩:=S
     simp [top,ze]
    refine ⟨.sl ((⟨h0.length,d0,0,s0,[]⟩:Loc).hop j s) 0 xs.length xs.length dt.sz,by simp [cellV,toV,slS,bI,h0'],zog (by simpa [Loc.hop] using hT),.arr s xs.length dt.sz (ws.map .v),ws,_,fun τ=>?_,⟨hlen,.inr ⟨s,rfl⟩⟩,hl,Se (S.setG (cs':=cs.set j .dead) hi hf (by simp))⟩
    have hat:at_ Hp ((⟨h0.length,d0,0,s0,[]⟩:Loc).hop j s)=some (.arr s xs.length dt.sz (ws.map .v)):=by
     obtain ⟨p,q,hn,hp⟩:=ha
     have hp0:p=[]:=List.length_eq_zero_iff.1 hp
     subst hp0
     rw [at_hop,hn]
     simp only [Option.bind_some]
     rw [List.nil_append,List.getElem?_append_left hlt,hj]
     simp [C.node]
    have hk:=zcp ha hj (s:=s) (by simp [C.node])
    rw [Nat.zero_add] at hk
    have hr:rng (ws.map C.v) 0 (xs.length*dt.sz)=some (ws.map C.v):=by
     unfold rng;rw [if_pos (by simp;omega),← hlen,List.drop_zero,List.take_of_length_le (by simp)]
    have hlv:((⟨h0.length,d0,0,s0,[]⟩:Loc).hop j s).lvl=top Hp:=htop.symm
    simp only [expF,expC,hlv,if_true,hat,hr,Option.bind_some,hk]
 obtain ⟨y,k1,k2,k3⟩:=key
 exact ⟨y,zl4 (ev_cv (hX _) (by rw [entry];exact zmr len k1 k2)),k3⟩
end
end Go.Ev
namespace Go.Ev
def SlU {α:Type} (m:Nat) (h:H) (d:Dt α) (xs:List α) (v:V):Prop:=m≤h.length∧SlH (h.drop (h.length-m)) d xs v
theorem SlH.ups {α:Type} {d:Dt α} {xs:List α} {v:V}:∀ (k:Nat) {h:H},SlH (h.drop k) d xs v→SlH h d xs v
 | 0,_,hv=>hv
 | k+1,[],hv=>by simpa using hv
 | k+1,L::h,hv=>by
  obtain ⟨cs,q1,q2⟩:=SlH.ups k (h:=h) (by simpa using hv)
  exact ⟨cs,q1.up L,q2⟩
theorem SlU.sl {α:Type} {m:Nat} {h:H} {d:Dt α} {xs:List α} {v:V} (hu:SlU m h d xs v):SlH h d xs v:=SlH.ups _ hu.2
theorem SlH.cells {α:Type} {h:H} {d:Dt α} {xs:List α} {v:V} (hv:SlH h d xs v):v.cells=[v]:=by
 obtain ⟨cs,q1,_⟩:=hv
 rcases q1.cases with ⟨rfl,_,_⟩ | ⟨t,rfl⟩ | ⟨l,off,av,ds,rfl,_⟩<;>rfl
section
variable {N:Nat} {h0 Hp:H} {B:List Rt} {Γ:List (Nat×Stamp×List C)} {Δ:List Gw} {α:Type} {d:Dt α} {xs:List α} {v:V} {m:Nat}
end
end Go.Ev
namespace Go.Ev
def WL (l:Loc) (off:Nat) {α:Type} (d:Dt α) (xs:List α) (v:V) (cs:List C):Prop:=∃ ws a,cs=ws.map .v∧d.L xs ws∧v=.sl l off xs.length a d.sz∧xs.length≤a
theorem WL.len {l:Loc} {off:Nat} {α:Type} {d:Dt α} {xs:List α} {v:V} {cs:List C} (h:WL l off d xs v cs):cs.length=xs.length*d.sz:=by
 obtain ⟨ws,a,rfl,h2,_⟩:=h
 rw [List.length_map];exact RL.length (fun h=>d.len h) h2
theorem WL.same {l:Loc} {off:Nat} {α:Type} {d:Dt α} {xs ys:List α} {v:V} {cs cs':List C} (h:WL l off d xs v cs) (h':WL l off d ys v cs'):cs'.length=cs.length:=by
 rw [h.len,h'.len]
 obtain ⟨_,_,_,_,e,_⟩:=h
 obtain ⟨_,_,_,_,e',_⟩:=h'
 rw [e] at e'
 injection e' with _ _ e1
 rw [e1]
theorem WL.sl {H:Ev.H} {l:Loc} {off:Nat} {α:Type} {d:Dt α} {xs:List α} {v:V} {cs:List C} (ha:AtC H l off cs) (h:WL l off d xs v cs):SlH H d xs v:=by
 have hlen:=h.len
 obtain ⟨ws,a,rfl,h2,rfl,h4⟩:=h
 obtain ⟨p,q,hn,hp⟩:=ha
 refine ⟨ws,.mk_sl hn (by simp only [List.length_append,hlen];omega) ?_ h4,h2⟩
 rw [← hlen,← hp,List.append_assoc,List.drop_left,List.take_left,z4d]
def KN (v:V) (l:Loc):Prop:=∀ l' o n a e,v=.sl l' o n a e→l'.key≠l.key
section
variable {N:Nat} {h0 Hp:H} {B:List Rt} {Γ:List (Nat×Stamp×List C)} {Δ:List Gw} {α:Type} {d:Dt α} {xs zs:List α} {v:V}
theorem KN.key {l l':Loc} (hk:KN v l) (he:l'.key=l.key):KN v l':=fun _ _ _ _ _ hv=>by rw [he];exact hk _ _ _ _ _ hv
theorem KN.frz (hv:SlF d xs v) {l:Loc}:KN v l:=fun l' o n a e hv'=>by
 subst hv'
 obtain ⟨ws,q1,_⟩:=hv
 rcases (q1 []).cases with ⟨h,_,_⟩ | ⟨t,h⟩ | ⟨l2,off,av,ds,h,hn,_⟩
 ·cases h
 ·cases h
 ·have:=nd_lt hn
  simp at this
end
end Go.Ev
namespace Go.Ev
section
variable {N:Nat} {h0 Hp:H} {B:List Rt} {Γ:List (Nat×Stamp×List C)} {Δ:List Gw} {α:Type} {d:Dt α} {xs zs:List α} {v:V}
end
end Go.Ev
namespace Go.Ev
section
variable {N:Nat} {h0 Hp:H} {B:List Rt} {Γ:List (Nat×Stamp×List C)} {Δ:List Gw}
end
end Go.Ev
namespace Go.Ev
section
variable {N:Nat} {h0 Hp:H} {B:List Rt} {Γ:List (Nat×Stamp×List C)} {Δ:List Gw}
end
end Go.Ev
namespace Go.Ev
section
variable {N:Nat} {h0 Hp:H} {B:List Rt} {Γ:List (Nat×Stamp×List C)} {Δ:List Gw}
end
end Go.Ev
namespace Go.Ev
section
variable {N:Nat} {h0 Hp:H} {B:List Rt} {Γ:List (Nat×Stamp×List C)} {Δ:List Gw}
theorem Fm.layR (S:Fm N h0 B Γ Δ Hp) {i d:Nat} {s:Stamp} {cs:List C} (hi:Γ[i]?=some (d,s,cs)) (hf:(freeG (Γ.eraseIdx i) d&&freeD Δ d)=true) {own:Bool} :
  ∃ H',layC own Hp (.ref ⟨h0.length,d,0,s,[]⟩ 0)=some (.own s cs,H')∧Fm N h0 B (Γ.eraseIdx i) Δ H':=by
 have S':Fm N h0 B (Γ.eraseIdx i) Δ Hp:=S.wk (fun _ h=>mem_erase h) (fun _ h=>h)
 obtain ⟨L,rfl,h2,h3,h4,h5⟩:=S
 have h6:=h4 _ (List.mem_of_getElem? hi)
 simp only at h6
 have hlt:=(List.getElem?_eq_some_iff.1 h6).1
 have ht:top (L::pts h0 B)=h0.length:=by simp [top,ze]
 have hr:rootC (L::pts h0 B) ⟨h0.length,d,0,s,[]⟩=some (.own s cs):=by
  simp [rootC,ze,h6]
 have hs:zc (L::pts h0 B) ⟨h0.length,d,0,s,[]⟩ .dead=L.set d [.dead]::pts h0 B:=by
  simp [zc,ze,h6]
 refine ⟨L.set d [.dead]::pts h0 B,?_,z5g S' hf [.dead]⟩
 simp only [layC,ht,hr,hs,and_self,if_true]
theorem zk0 {s:Stamp} {cs:List C}:(C.own s cs).node s=some cs:=by simp [C.node]
theorem AtC.sub {h:H} {l:Loc} {off j:Nat} {cs ds:List C} {s:Stamp} (ha:AtC h l off cs) (hj:cs[j]?=some (.own s ds)):AtC h (l.hop (off+j) s) 0 ds:=ha.hop hj zk0
end
end Go.Ev
namespace Go.Ev
open Go.RowKit (Below)
set_option linter.unusedVariables false

theorem SimN.below {ι:Inj} {B:Nat} {w w':World} {ns:Nodes} (h:SimN ι B w.heap ns) (hb:Below w.heap.size w w'):SimN ι B w'.heap ns:=by
 refine ⟨h.nodup,fun s cs hm p hp=>?_,h.inj,fun b f hf=>?_,h.apart,h.nwb⟩
 ·obtain ⟨a1,c1,e1,a2,a3⟩:=h.lie s cs hm p hp
  exact ⟨a1,c1,e1,by rw [hb.block _ (Array.getElem?_eq_some_iff.1 a2).1];exact a2,a3⟩
 ·obtain ⟨c,e,fr,k1,k2⟩:=h.frz b f hf
  exact ⟨c,e,fr,by rw [hb.block _ (Array.getElem?_eq_some_iff.1 k1).1];exact k1,k2⟩
def plainX (t:FuncId→List V→Option Value):CallF:=fun f _ args h=>(t f args).map fun v=>([.v (.p v)],h)
theorem zml {G:Cfg} {t:FuncId→List V→Option Value}
  (ht : ∀ f args v, t f args = some v → ∃ us : List Value, args = us.map .p ∧ (∃ fn, G.P.funcs[f]? = some fn ∧ (fn.name == "runtime.NumGoroutine") = false ∧ fn.body.isNone = false) ∧
   ∀ w,Calls G.P f us.toArray w fun e w'=>e=.returned v∧Below w.heap.size w w') (B:Nat):CallOk G B (plainX t):=by
 intro f σ args h cs h' hev ι w us hS hargs hf hB
 simp only [plainX,Option.map_eq_some_iff,Prod.mk.injEq] at hev
 obtain ⟨v,hv,rfl,rfl⟩:=hev
 obtain ⟨us0,rfl,hfn,hc⟩:=ht f args v hv
 have e:us=us0.toArray:=by
  apply Array.ext'
  refine List.ext_getElem? fun i=>?_
  simp only
  by_cases hi:i<us0.length
  ·have h1:(us0.map V.p)[i]?=some (.p us0[i]):=by simp [hi]
   obtain ⟨u,hu,r⟩:=hargs.get h1
   cases r
   rw [hu];simp [hi]
  ·have:=hargs.length
   simp only [List.length_map] at this
   rw [List.getElem?_eq_none (by omega),List.getElem?_eq_none (by omega)]
 subst e
 refine ⟨hfn,(hc w).mono fun e w' he=>?_⟩
 obtain ⟨rfl,hb⟩:=he
 exact ⟨v,ι,rfl,hS.below hb,⟨fun h d=>.p v⟩,.refl _,.refl _ _ _,hb.mono hB⟩

theorem Below.setIter {w:World} {k:Nat} {o:Obj} {B:Nat} (hk:B≤k):Below B w { w with heap:=w.heap.setIfInBounds k o }:=by
 refine ⟨rfl,rfl,rfl,by simp,fun i hi=>?_⟩
 simp only
 rw [Array.getElem?_setIfInBounds_ne (by omega)]
def itAt (w:World) (k:Nat) (s:ByteArray) (pos:Nat):World:={ w with heap:=w.heap.setIfInBounds k (.stringIter s pos) }
theorem z67 {w:World} {k:Nat} {s:ByteArray} {pos p:Nat} (h:w.heap[k]?=some (.stringIter s p)):(itAt w k s pos).heap[k]?=some (.stringIter s pos):=by
 have:=(Array.getElem?_eq_some_iff.1 h).1
 simp [itAt,this]
theorem z4n {P:Program} {w:World} {k:Nat} {s:ByteArray} {pos:Nat} (hk:w.heap[k]?=some (.stringIter s pos)) (ty:TypeId) (h:pos<s.size) :
  (Instr.next (.pointer (some ⟨k,0,none⟩)) true ty).run P w=.ok (.tuple #[.bool true,.int .i64 pos,.int .i32 (Utf8.decode s pos).1]) (itAt w k s (pos+(Utf8.decode s pos).2)):=by
 simp only [Instr.next,getObj,setObj,Sem.run_bind,Sem.run,hk,Result.andThen,h,if_true]
 simp [goInt,itAt]
theorem z33 {P:Program} {w:World} {k:Nat} {s:ByteArray} {pos:Nat} (hk:w.heap[k]?=some (.stringIter s pos)) (ty:TypeId) (h:¬ pos<s.size) :
  (Instr.next (.pointer (some ⟨k,0,none⟩)) true ty).run P w=.ok (.tuple #[.bool false]) w:=by
 simp [Instr.next,getObj,Sem.run,hk,h]
theorem z65 (s:ByteArray) (pos:Nat) (h:pos<s.size):1≤(Utf8.decode s pos).2:=by
 by_cases ha:(s[pos]'h).toNat<128
 ·rw [decode_ascii s pos h ha]
  exact Nat.le_refl _
 ·exact (decode_high s pos h (by omega)).2
def runesF (s:ByteArray):Nat→Nat→List Int
 | 0,_=>[]
 | n+1,pos=>if pos<s.size then ((Utf8.decode s pos).1:Int)::runesF s n (pos+(Utf8.decode s pos).2) else []
theorem zbu (s:ByteArray):∀ (n m pos:Nat),s.size-pos≤n→s.size-pos≤m→runesF s n pos=runesF s m pos
 | 0,0,_,_,_=>rfl
 | 0,m+1,pos,h,_=>by
  have:¬ pos<s.size:=by omega
  simp [runesF,this]
 | n+1,0,pos,_,h=>by
  have:¬ pos<s.size:=by omega
  simp [runesF,this]
 | n+1,m+1,pos,h1,h2=>by
  simp only [runesF]
  split
  ·rename_i hp
   have:=z65 s pos hp
   rw [zbu s n m _ (by omega) (by omega)]
  ·rfl
def runes (s:ByteArray) (pos:Nat):List Int:=runesF s s.size pos
theorem z5b {s:ByteArray} {pos:Nat} (h:pos<s.size):runes s pos=((Utf8.decode s pos).1:Int)::runes s (pos+(Utf8.decode s pos).2):=by
 have hw:=z65 s pos h
 unfold runes
 rw [zbu s s.size (s.size+1) pos (by omega) (by omega)]
 simp [runesF,h]
theorem z68 {s:ByteArray} {pos:Nat} (h:¬ pos<s.size):runes s pos=[]:=by
 unfold runes
 cases hs:s.size with
 | zero=>rfl
 | succ n=>simp only [runesF];rw [if_neg h]
end Go.Ev
namespace Go.Ev
open Go.RowKit (Below)
open Go.Proofs
set_option linter.unusedVariables false

theorem run_copy_k {P:Program} (w:World) (dT sT ty elem:TypeId) (b o dLen dCap:Nat) (a:Addr) (sLen sCap k:Nat) (cs:List Value)
  (hu:P.underlying dT=some (.slice elem)) (hs:(P.info? elem).map (·.size)=some k) (n:Nat) (hn:n=Nat.min sLen dLen) (hl:cs.length=n*k)
  (hsrc:∀ j v,cs[j]?=some v→w.cell? (a.add j)=some v) (hc:∀ j,j<cs.length→(w.cell? ⟨b,o+j,none⟩).isSome=true) (hf:∀ j,j<cs.length→w.frozen? ⟨b,o+j,none⟩=false) (h1:∀ v∈cs,v.oneCell'=true) :
  (Builtin.copy_ #[dT,sT] ty #[.slice (some ⟨b,o,none⟩) dLen dCap,.slice (some a) sLen sCap]).run P w=.ok (goInt n) (w.setCells b o cs):=by
 have hl2:=run_loadCells_list (P:=P) w a cs hsrc
 have hst:=run_storeCells_cells (P:=P) b o cs 0 w (by simpa using hc) (by simpa using hf) h1
 cases hq:P.info? elem with
 | none=>simp [hq] at hs
 | some i =>
  have hi:i.size=k:=by simpa [hq] using hs
  rw [hl] at hl2
  simp [Builtin.copy_,run_underlying hu,Builtin.lenOf,Builtin.firstCells,sizeOf,typeInfo,hq,hi,← hn,hl2,hst]
theorem run_overlaps_clean {P:Program} (w:World) (tS tR e:TypeId) (ht:P.underlying tS=some (.slice e)) (size:Nat) (hz:∀ w,(Go.sizeOf e).run P w=.ok size w)
  (a b:Addr) (la ca lb cb:Nat) (hne:a.block≠b.block) (tA tB:TypeId) (kA kB:Nat)
  (hsa:w.shape? a.block=some (tA,kA)) (hsb:w.shape? b.block=some (tB,kB)) (hkA:kA≠0) (hkB:kB≠0)
  (hfa:w.frozen? b=false) (hfe:w.frozen? { block:=b.block,off:=kB }=false) :
  (Extern.SlicesOverlaps.overlaps #[tS,tS] #[tR] #[.slice (some a) la ca,.slice (some b) lb cb]).run P w=.ok (.bool false) w:=by
 have hnb:(a.block != b.block)=true:=by simpa using hne
 have hnb':(a.block==b.block)=false:=by simpa using hne
 change Sem.run P (α:=Value) (do
  let some t := (#[tS, tS] : Array TypeId)[0]? | stuck "slices.overlaps: no parameter types"
  let .slice elem ← underlying t | stuck "slices.overlaps: slice type expected"
  let size ← sizeOf elem
  match (some a:Option Addr),(some b:Option Addr) with
  | some a,some b =>
   if la=0∨lb=0∨size=0 then pure (Value.bool false)
   else if a.block != b.block&&(← frozen a)&&(← frozen b) then unsupported .addressObserved
   else do
    if a.block != b.block then do
     noView a;noView b
     if ← mayBeOne a b then return Value.bool ((← choose (.extern "sameAddr.stringBytes" 2)) == 1)
    pure (Value.bool (a.block==b.block&&a.off<b.off+lb*size&&b.off<a.off+la*size))
  | _,_=>pure (Value.bool false)) w=_
 by_cases h0:la=0∨lb=0∨size=0
 ·simp [run_underlying ht,hz,h0]
 ·cases kB with
  | zero=>exact absurd rfl hkB
  | succ kB =>
   cases kA with
   | zero=>exact absurd rfl hkA
   | succ kA =>
    cases hx:w.frozen? a<;>cases hy:w.frozen? { block:=a.block,off:=kA+1 } <;>
     simp [run_underlying ht,hz,h0,hnb,hnb',frozen,noView,viewAt,mayBeOne,stringish,shape,Sem.run,hsa,hsb,hfa,hfe,hx,hy]

theorem z2q (b:Nat):∀ (vs:List Value) (o:Nat) (w:World) (k:Nat),k≠b→(w.setCells b o vs).heap[k]?=w.heap[k]?
 | [],_,_,_,_=>rfl
 | v::r,o,w,k,h=>by
  rw [World.setCells,z2q b r _ _ k h]
  exact ze6 w _ v h
def putL (c:List Value) (o:Nat) (vs:List Value):List Value:=c.take o++vs++c.drop (o+vs.length)
theorem zmt (l:List Value) (o:Nat) (v:Value) (r:List Value) (h:o+r.length+1≤l.length):putL (l.set o v) (o+1) r=putL l o (v::r):=by
 simp only [putL]
 apply List.ext_getElem?
 intro j
 simp only [List.getElem?_append,List.length_take,List.length_set,List.getElem?_take,List.getElem?_drop,List.getElem?_set,List.length_append,List.length_cons,List.getElem?_cons]
 rw [Nat.min_eq_left (by omega),Nat.min_eq_left (by omega)]
 rcases Nat.lt_trichotomy j o with hj | hj | hj
 ·rw [if_pos (by omega),if_pos (by omega),if_pos (by omega),if_neg (by omega),if_pos (by omega),if_pos (by omega),if_pos (by omega)]
 ·subst hj
  rw [if_pos (by omega),if_pos (by omega),if_pos (by omega),if_pos rfl,if_pos (by omega),if_pos (by omega),if_neg (by omega),if_pos (by omega)]
 ·by_cases h1:j<o+1+r.length
  ·rw [if_pos h1,if_neg (by omega),if_pos (by omega),if_neg (by omega),if_neg (by omega)]
   congr 1<;>omega
  ·rw [if_neg h1,if_neg (by omega),if_neg (by omega)]
   congr 1<;>omega
theorem z27 (b:Nat) (e:TypeId) (fr:Nat×Nat):∀ (vs:List Value) (o:Nat) (w:World) (c:Array Value),o+vs.length≤c.size→w.heap[b]?=some (.cells c e fr) →
  ∃ c',(w.setCells b o vs).heap[b]?=some (.cells c' e fr)∧c'.toList=putL c.toList o vs
 | [],o,w,c,_,h=>⟨c,h,by simp [putL]⟩
 | v::r,o,w,c,hl,h=>by
  simp only [List.length_cons] at hl
  obtain ⟨c',q1,q2⟩:=z27 b e fr r (o+1) (w.setCell ⟨b,o,none⟩ v) _ (by simp;omega) (zbo w ⟨b,o,none⟩ v rfl h)
  refine ⟨c',q1,?_⟩
  rw [q2,Array.toList_setIfInBounds]
  exact zmt _ _ _ _ (by simp;omega)
theorem SimN.turn {ι:Inj} {B:Nat} {hp hp':Array Obj} {ns:Nodes} {s:Stamp} {cells cells':List C} {p:Pos} {c':Array Value} {ety:TypeId} (h:SimN ι B hp ((s,cells)::ns)) (hs:ι.at_ s=some p)
  (hoth:∀ b,b≠p.blk→hp'[b]?=hp[b]?) (hb:hp'[p.blk]?=some (.cells c' ety (0,0))) (hsz:c'.size=p.tot) (hle:p.off+cells'.length≤p.tot) (hc:RCs ι cells' (c'.toList.drop p.off)):SimN ι B hp' ((s,cells')::ns):=by
 have nd:=h.nodup
 simp only [stamps,List.map_cons,List.nodup_cons] at nd
 refine ⟨by simpa [stamps] using h.nodup,fun s' cs' hm p' hp1=>?_,fun a b ha hb'=>h.inj a b (by simpa [stamps] using ha) (by simpa [stamps] using hb'),fun b f hf=>?_,fun a ha=>h.apart a (by simpa [stamps] using ha),h.nwb⟩
 ·simp only [List.mem_cons,Prod.mk.injEq] at hm
  rcases hm with ⟨rfl,rfl⟩ | hm
  ·rw [hs] at hp1;obtain rfl:=Option.some.inj hp1
   exact ⟨(h.lie _ _ (List.mem_cons_self ..) p hs).1,c',ety,hb,hsz,hle,hc⟩
  ·have hs':s'∈stamps ns:=List.mem_map.2 ⟨_,hm,rfl⟩
   have hne:p'.blk≠p.blk:=fun e=>by
    have:=h.inj s' s (List.mem_cons_of_mem _ hs') (List.mem_cons_self ..) p' p hp1 hs e
    subst this;exact nd.1 hs'
   obtain ⟨a1,c1,e1,a2,a3⟩:=h.lie s' cs' (List.mem_cons_of_mem _ hm) p' hp1
   exact ⟨a1,c1,e1,by rw [hoth _ hne];exact a2,a3⟩
 ·obtain ⟨c1,e1,fr,k1,k2⟩:=h.frz b f hf
  have hne:b≠p.blk:=fun e=>by
   have:=h.apart s (List.mem_cons_self ..) p hs
   rw [← e,hf] at this;simp at this
  exact ⟨c1,e1,fr,by rw [hoth _ hne];exact k1,k2⟩
theorem z3t {B b:Nat} (hb:B≤b):∀ (vs:List Value) (o:Nat) {a w:World},Below B a w→Below B a (w.setCells b o vs)
 | [],_,_,_,h=>h
 | v::r,o,_,_,h=>z3t hb r (o+1) (h.setCell (p:=⟨b,o,none⟩) hb v)
theorem z9n {u:Value} (h:Leaf u):u.oneCell'=true:=by cases u<;>first | rfl | exact absurd h (by simp [Leaf])
theorem zkv {ι:Inj} {c:C} {u:Value} (hc:c≠.dead) (h:RC ι c u):Leaf u:=by
 cases h with
 | v _ hl=>exact hl
 | own=>trivial
 | arr=>trivial
 | dead=>exact absurd rfl hc
theorem zdd (l:List Value) (o:Nat) (vs:List Value) (h:o+vs.length≤l.length) (j:Nat):(putL l o vs)[j]?=if o≤j∧j<o+vs.length then vs[j-o]? else l[j]?:=by
 simp only [putL,List.getElem?_append,List.length_take,List.length_append,List.getElem?_take,List.getElem?_drop]
 rw [Nat.min_eq_left (by omega)]
 by_cases h1:j<o
 ·rw [if_pos (by omega),if_pos h1,if_pos h1,if_neg (by omega)]
 ·by_cases h2:j<o+vs.length
  ·rw [if_pos h2,if_neg h1,if_pos (by omega)]
  ·rw [if_neg h2,if_neg (by omega)]
   congr 1;omega
theorem z7g (l:List Value) (o:Nat) (vs:List Value) (h:o+vs.length≤l.length):(putL l o vs).length=l.length:=by
 simp only [putL,List.length_append,List.length_take,List.length_drop];omega

structure InsOk (G:Cfg) (f k bys:Nat) (own:Bool):Prop where
 fn : ∃ fn, G.P.funcs[f]? = some fn ∧ (fn.name == "runtime.NumGoroutine") = false ∧ fn.body.isNone = false
 shift:∀ (b off n c i vb voff m vc:Nat) (cs vs:List Value) (w:World),i<n→0<m→n+m≤c→n+m≤9223372036854775807→vb≠b→cs.length=n*k→vs.length=m*k →
  (∀ j v,cs[j]?=some v→w.cell? ⟨b,off+j,none⟩=some v)→(∀ j,j<(n+m)*k→(w.cell? ⟨b,off+j,none⟩).isSome=true)→(∀ j,w.frozen? ⟨b,j,none⟩=false) →
  (∀ j v,vs[j]?=some v→w.cell? ⟨vb,voff+j,none⟩=some v)→(∀ v∈cs,v.oneCell'=true)→(∀ v∈vs,v.oneCell'=true) →
  ∀ (tA tB:TypeId) (kA kB:Nat),w.shape? vb=some (tA,kA)→w.shape? b=some (tB,kB)→kA≠0→kB≠0 →
  Calls G.P f #[.slice (some ⟨b,off,none⟩) n c,.int .i64 i,.slice (some ⟨vb,voff,none⟩) m vc] w fun e w' =>
   e=.returned (.slice (some ⟨b,off,none⟩) (n+m) c)∧w'=(w.drew.setCells b (off+(i+m)*k) (cs.drop (i*k))).setCells b (off+i*k) vs
 grow:∀ (b off n c i vb voff m vc:Nat) (cs vs:List Value) (w:World),i<n→0<m→n≤c→c<n+m→(n+m)*bys≤140737488355328→cs.length=n*k→vs.length=m*k →
  (∀ j v,cs[j]?=some v→w.cell? ⟨b,off+j,none⟩=some v) →
  (∀ j v,vs[j]?=some v→w.cell? ⟨vb,voff+j,none⟩=some v)→(∀ v∈cs,v.oneCell'=true)→(∀ v∈vs,v.oneCell'=true) →
  Calls G.P f #[.slice (some ⟨b,off,none⟩) n c,.int .i64 i,.slice (some ⟨vb,voff,none⟩) m vc] w fun e w'=>∃ (g:Nat) (z z':Array Value) (ety:TypeId),n+m≤g∧z.size=(n+m-i)*k∧z'.size=(g-(n+m))*k ∧
   e=.returned (.slice (some ⟨w.heap.size,0,none⟩) (n+m) g) ∧
   w'=(((w.alloc (.cells ((cs.take (i*k)).toArray++z++z') ety)).drew.setCells w.heap.size (i*k) vs).drew).setCells w.heap.size ((i+m)*k) (cs.drop (i*k))
 tail:∃ t ty,(∀ σ d h x y,zam G σ d h t t x y=apO own k bys σ d h x y) ∧
  (∀ (vb vo m vc:Nat) (r:Value) (w w':World),0<m→(Builtin.append_ #[t,t] ty #[.slice none 0 0,.slice (some ⟨vb,vo,none⟩) m vc]).run G.P w=.ok r w' →
   Calls G.P f #[.slice none 0 0,.int .i64 0,.slice (some ⟨vb,vo,none⟩) m vc] w fun e w2=>e=.returned r∧w2=w') ∧
  (∀ (a:Addr) (n c vb vo m vc:Nat) (r:Value) (w w':World),0<m→n≤c→(Builtin.append_ #[t,t] ty #[.slice (some a) n c,.slice (some ⟨vb,vo,none⟩) m vc]).run G.P w=.ok r w' →
   Calls G.P f #[.slice (some a) n c,.int .i64 n,.slice (some ⟨vb,vo,none⟩) m vc] w fun e w2=>e=.returned r∧w2=w')
def insC (cs:List C) (i k:Nat) (ys:List V):List C:=cs.take (i*k)++ys.map .v++cs.drop (i*k)
def insM (k bys:Nat) (σ:Stamp) (h:H) (x0:V) (i:Int) (x2:V):Option (List C×H) :=
 match x0,x2 with
 | .sl l 0 len _ esz,.fz ys m esz2 _ =>
  if esz=k∧esz2=k∧0<k∧0≤i∧i<len∧0<m∧ys.length=m*k∧(len+m)*bys≤140737488355328∧len+m<2^61∧ys.all leafV=true then
   (nd h l).bind fun cs=>if cs.length=len*k∧cs.all (fun c=>match c with | .dead=>false | .it ..=>false | _=>true)=true then some ([.arr σ (len+m) k (insC cs i.toNat k ys)],setAt h l .dead) else none
  else none
 | _,_=>none
def insE (own:Bool) (k bys:Nat) (σ:Stamp) (h:H) (x0 x2:V):Option (List C×H) :=
 match x2 with
 | .fz ys m _ _=>if 0<m∧ys.length≠0 then (apO own k bys σ 0 ([[]]::h) x0 x2).bind fun q =>
   match q.1,q.2 with
   | .sl l 0 n _ e,[[.arr s' n' e' cs]]::h'=>if l.last=s'∧n=n'∧e=e' then some ([.arr s' n' e' cs],h') else none
   | _,_=>none
  else none
 | _=>none
def insV (own:Bool) (k bys:Nat) (σ:Stamp) (h:H) (x0:V) (i:Int) (x2:V):Option (List C×H) :=
 if lenOf x0=some i.toNat∧0≤i then insE own k bys σ h x0 x2 else insM k bys σ h x0 i x2
def insX (t:FuncId→Option (Nat×Nat×Bool)):CallF:=fun f σ args h =>
 match t f,args with
 | some (k,bys,own),[x0,.p (.int .i64 i),x2]=>insV own k bys σ h x0 i x2
 | _,_=>none
theorem zdt {cs:List C} {i k n m:Nat} {ys:List V} (hc:cs.length=n*k) (hi:i≤n) (hy:ys.length=m*k):(insC cs i k ys).length=(n+m)*k:=by
 have h1:i*k≤n*k:=Nat.mul_le_mul_right _ hi
 simp only [insC,List.length_append,List.length_take,List.length_drop,List.length_map,Nat.add_mul]
 omega
theorem zin {ι:Inj} {cs:List C} {i k n m:Nat} {ys:List V} {us vs l:List Value} (hc:cs.length=n*k) (hi:i≤n) (hy:ys.length=m*k) (hu:us.length=n*k) (hv:vs.length=m*k)
  (h1:∀ (j:Nat) c u,cs[j]?=some c→us[j]?=some u→RC ι c u) (h2:∀ (j:Nat) x v,ys[j]?=some x→vs[j]?=some v→RC ι (.v x) v)
  (hl:∀ j,j<(n+m)*k→l[j]?=(us.take (i*k)++vs++us.drop (i*k))[j]?):RCs ι ((insC cs i k ys).map sh) l:=fun j c hj=>by
 have hlen:=zdt (i:=i) (k:=k) hc hi hy
 have h3:i*k≤n*k:=Nat.mul_le_mul_right _ hi
 rw [List.getElem?_map] at hj
 cases hd:(insC cs i k ys)[j]? with
 | none=>simp [hd] at hj
 | some d =>
  simp only [hd,Option.map_some,Option.some.injEq] at hj
  subst hj
  have hjl:j<(n+m)*k:=by rw [← hlen];exact (List.getElem?_eq_some_iff.1 hd).1
  rw [Nat.add_mul] at hjl
  rw [hl j (by rw [Nat.add_mul];omega)]
  unfold insC at hd
  simp only [List.getElem?_append,List.length_append,List.length_take,List.length_map,List.getElem?_take,List.getElem?_drop,List.getElem?_map] at hd ⊢
  rw [hc,hy,Nat.min_eq_left h3] at hd
  rw [hu,hv,Nat.min_eq_left h3]
  by_cases a1:j<i*k
  ·rw [if_pos (by omega),if_pos a1,if_pos a1] at hd
   rw [if_pos (by omega),if_pos a1,if_pos a1]
   have:j<us.length:=by omega
   exact ⟨us[j],List.getElem?_eq_getElem this,(h1 j d _ hd (List.getElem?_eq_getElem this)).sh⟩
  ·by_cases a2:j<i*k+m*k
   ·rw [if_pos (by omega),if_neg a1] at hd
    rw [if_pos (by omega),if_neg a1]
    have:j-i*k<vs.length:=by omega
    cases hx:ys[j-i*k]? with
    | none=>rw [hx] at hd;cases hd
    | some x =>
     rw [hx] at hd
     simp only [Option.map_some,Option.some.injEq] at hd
     subst hd
     exact ⟨vs[j-i*k],List.getElem?_eq_getElem this,(h2 _ x _ hx (List.getElem?_eq_getElem this)).sh⟩
   ·rw [if_neg (by omega)] at hd
    rw [if_neg (by omega)]
    have:i*k+(j-(i*k+m*k))<us.length:=by omega
    exact ⟨us[i*k+(j-(i*k+m*k))],List.getElem?_eq_getElem this,(h1 _ d _ hd (List.getElem?_eq_getElem this)).sh⟩
theorem z61 {w:World} {b o:Nat} {c:Array Value} {e:TypeId} {fr:Nat×Nat} (h:w.heap[b]?=some (.cells c e fr)) (j:Nat):w.cell? ⟨b,o+j,none⟩=(c.toList.drop o)[j]?:=by
 simp [World.cell?,h]
theorem zbq {w:World} {b:Nat} {c:Array Value} {e:TypeId} {fr:Nat×Nat} (h:w.heap[b]?=some (.cells c e fr)):w.shape? b=some (e,c.size):=by simp [World.shape?,h]

theorem znx {G:Cfg} {B:Nat} {f k bys:Nat} {own:Bool} (hI:InsOk G f k bys own) {σ:Stamp} {h h':H} {x0 x2:V} {i:Int} {cs:List C} {ι:Inj} {w:World} {u0 u2:Value} (hev:insM k bys σ h x0 i x2=some (cs,h'))
  (hS:SimN ι B w.heap (nodesH h)) (h0:RV ι x0 u0) (h2:RV ι x2 u2) (hf:Fresh σ ι (nodesH h)) (hB:B≤w.heap.size) :
  Calls G.P f #[u0,.int .i64 i,u2] w fun e w'=>∃ v ι',e=.returned v∧SimN ι' B w'.heap (z3 cs++nodesH h')∧RetOk ι' cs v∧Went σ B ι w (nodesH h) ι' w' (z3 cs++nodesH h'):=by
 unfold insM at hev
 split at hev
 ·rename_i l len av esz ys m esz2 tight
  split at hev
  ·rename_i hc
   obtain ⟨he1,he2,hk,hi0,hin,hm,hyl,hby,h61,hlf⟩:=hc
   obtain rfl:k=esz:=he1.symm
   obtain rfl:k=esz2:=he2.symm
   obtain ⟨cells,hnd,hev⟩:=Option.bind_eq_some_iff.1 hev
   split at hev
   ·rename_i hcl
    obtain ⟨hcl,hnd2⟩:=hcl
    simp only [Option.some.injEq,Prod.mk.injEq] at hev
    obtain ⟨rfl,rfl⟩:=hev
    obtain ⟨ii,rfl⟩:∃ ii:Nat,i=(ii:Int):=⟨i.toNat,by omega⟩
    have hin:ii<len:=by omega
    simp only [Int.toNat_natCast]
    have hlen:=zdt (i:=ii) (ys:=ys) (m:=m) hcl (by omega) hyl
    have hmk:0<m*k:=Nat.mul_pos hm hk
    have hlk:ii*k<len*k:=Nat.mul_lt_mul_of_pos_right hin hk
    cases h0 with
    | sl hp m1 m2 m3 m4 =>
     rename_i cap o p
     have ho:=m3 (by omega)
     simp only [Nat.add_zero] at ho
     subst ho
     have hbd:=m4 (by omega)
     cases h2 with
     | fz0=>simp at hyl;omega
     | fz hfz n1 n2 n3 n4 =>
      rename_i vcap vb vo fs
      obtain ⟨c2,e2,fr2,g1,g2⟩:=hS.frz vb fs hfz
      obtain ⟨c0,hat,hnode⟩:=nd_at hnd
      obtain ⟨s3,t3⟩:=zaf (ex:=[]) (w:=w) (by simpa using hS) hat
      rw [z3g hnode] at s3 t3
      simp only [List.nil_append,List.cons_append] at s3 t3
      obtain ⟨hBp,ca,ety,hb,hsz,hle,hrc⟩:=s3.lie l.last (cells.map sh) (List.mem_cons_self ..) p hp
      simp only [List.length_map] at hle
      have hlenk:(len+m)*k=len*k+m*k:=Nat.add_mul _ _ _
      -- the values
      obtain ⟨us,hus⟩:∃ us,us=(ca.toList.drop p.off).take (len*k):=⟨_,rfl⟩
      obtain ⟨vs,hvs⟩:∃ vs,vs=(fs.drop vo).take ys.length:=⟨_,rfl⟩
      have hul:us.length=len*k:=by rw [hus];simp;omega
      have hvl:vs.length=m*k:=by rw [hvs,n4.length,hyl]
      have hvb:vb≠p.blk:=fun e=>by
       have:=s3.apart l.last (List.mem_cons_self ..) p hp
       rw [← e,hfz] at this;simp at this
      have hcs:∀ (j:Nat) v,us[j]?=some v→w.cell? ⟨p.blk,p.off+j,none⟩=some v:=fun j v hj=>by
       rw [z61 hb]
       rw [hus,List.getElem?_take] at hj
       split at hj
       ·exact hj
       ·cases hj
      have hvv:∀ (j:Nat) v,vs[j]?=some v→w.cell? ⟨vb,vo+j,none⟩=some v:=fun j v hj=>by
       rw [z61 g1,g2]
       rw [hvs,List.getElem?_take] at hj
       split at hj
       ·exact hj
       ·cases hj
      have hru:∀ (j:Nat) c u,cells[j]?=some c→us[j]?=some u→RC ι c u:=fun j c u a b=>by
       obtain ⟨u',b1,b2⟩:=hrc j (sh c) (by rw [List.getElem?_map,a];rfl)
       rw [hus,List.getElem?_take] at b
       split at b
       ·rw [b1] at b;obtain rfl:=Option.some.inj b;exact b2.of_sh
       ·cases b
      have hrv:∀ (j:Nat) x v,ys[j]?=some x→vs[j]?=some v→RC ι (.v x) v:=fun j x v a b=>by
       obtain ⟨v',b1,b2⟩:=n4.get a
       rw [hvs,b1] at b
       obtain rfl:=Option.some.inj b
       exact .v b2 (zjf (List.all_eq_true.1 hlf _ (List.mem_of_getElem? a)) b2)
      have h1c:∀ v∈us,v.oneCell'=true:=fun v hv=>by
       obtain ⟨j,hj⟩:=List.mem_iff_getElem?.1 hv
       have hjl:j<cells.length:=by rw [hcl,← hul];exact (List.getElem?_eq_some_iff.1 hj).1
       have hr:=hru j _ v (List.getElem?_eq_getElem hjl) hj
       refine z9n (zkv (fun e=>?_) hr)
       have:=List.all_eq_true.1 hnd2 _ (List.getElem_mem hjl)
       rw [e] at this;simp at this
      have h1v:∀ v∈vs,v.oneCell'=true:=fun v hv=>by
       obtain ⟨j,hj⟩:=List.mem_iff_getElem?.1 hv
       have hjl:j<ys.length:=by rw [hyl,← hvl];exact (List.getElem?_eq_some_iff.1 hj).1
       exact z9n (zkv (by simp) (hrv j _ v (List.getElem?_eq_getElem hjl) hj))
      have hmv:∀ W:List Value,(us.take (ii*k)++vs++us.drop (ii*k)++W).length=(len+m)*k+W.length:=fun W=>by
       simp only [List.length_append,List.length_take,List.length_drop,hul,hvl,hlenk];omega
      have hfresh:σ∉stamps (z3 cells++nodesH (setAt h l .dead)):=fun hm=>hf.self.2 (t3 σ (by simp only [stamps,List.map_cons,List.mem_cons];exact .inr hm))
      have hnC:z3 (insC cells ii k ys)=z3 cells:=by
       unfold insC
       rw [zw,zw,z4v,List.append_nil,← zw,List.take_append_drop]
      have hnA:∀ (h2:H),z3 [C.arr σ (len+m) k (insC cells ii k ys)]++nodesH h2=(σ,(insC cells ii k ys).map sh)::(z3 cells++nodesH h2):=fun h2=>by
       simp [z3,nodesC,hnC]
      have hgrew:∀ {p':Pos},Grew σ ι (ι.put σ p') (nodesH h) (z3 [C.arr σ (len+m) k (insC cells ii k ys)]++nodesH (setAt h l .dead)):=fun {p'}=>.put rfl fun s hs=>by
       rw [hnA] at hs
       simp only [stamps,List.map_cons,List.mem_cons] at hs
       rcases hs with q | q
       ·exact .inr q
       ·exact .inl (t3 s (by simp only [stamps,List.map_cons,List.mem_cons];exact .inr q))
      by_cases hroom:len+m≤cap
      ·have hbd2:(len+m)*k≤cap*k:=Nat.mul_le_mul_right _ hroom
       have hkA:c2.size≠0:=fun e=>by
        have:fs.length=0:=by rw [← g2];simpa using e
        have:vs.length=0:=by rw [hvs];simp;omega
        omega
       refine (hI.shift p.blk p.off len cap ii vb vo m vcap us vs w hin hm hroom (by omega) hvb hul hvl hcs (fun j hj=>by rw [z61 hb,List.getElem?_eq_getElem (by simp;omega)];rfl) (fun j=>z2m hb) hvv h1c h1v _ _ _ _ (zbq g1) (zbq hb) hkA (by omega)).mono fun e w' he=>?_
       obtain ⟨rfl,rfl⟩:=he
       have hb':w.drew.heap[p.blk]?=some (.cells ca ety (0,0)):=hb
       have ed:(us.drop (ii*k)).length=len*k-ii*k:=by rw [List.length_drop,hul]
       have eim:(ii+m)*k=ii*k+m*k:=Nat.add_mul _ _ _
       obtain ⟨c3,q1,q2⟩:=z27 p.blk ety (0,0) (us.drop (ii*k)) (p.off+(ii+m)*k) w.drew ca (by rw [ed,eim];omega) hb'
       have l3:c3.size=ca.size:=by rw [← Array.length_toList,q2,z7g _ _ _ (by rw [ed,eim];simp;omega)];simp
       obtain ⟨c4,r1,r2⟩:=z27 p.blk ety (0,0) vs (p.off+ii*k) _ c3 (by rw [hvl,l3];omega) q1
       have l4:c4.size=ca.size:=by rw [← Array.length_toList,r2,z7g _ _ _ (by rw [hvl];simp;omega)];simp [l3]
       have hs2:ι.at_ σ=none:=hf.self.1
       have s5:=s3.turn (cells':=(insC cells ii k ys).map sh) (hp':=((w.drew.setCells p.blk (p.off+(ii+m)*k) (us.drop (ii*k))).setCells p.blk (p.off+ii*k) vs).heap) hp
        (fun b hne=>by rw [z2q _ _ _ _ _ hne,z2q _ _ _ _ _ hne];rfl) r1 (by rw [l4];exact hsz) (by rw [List.length_map,hlen];omega)
        (zin hcl (Nat.le_of_lt hin) hyl hul hvl hru hrv fun j hj=>by
         rw [List.getElem?_drop,r2,zdd _ _ _ (by rw [hvl];simp;omega),q2,zdd _ _ _ (by rw [ed,eim];simp;omega),hvl,ed]
         rw [eim]
         simp only [List.getElem?_append,List.length_append,List.length_take,List.getElem?_take,List.getElem?_drop]
         rw [hul,hvl,Nat.min_eq_left (Nat.le_of_lt hlk)]
         by_cases a1:j<ii*k
         ·rw [if_neg (by omega),if_neg (by omega),if_pos (by omega),if_pos a1,if_pos a1,hus,List.getElem?_take,if_pos (by omega),List.getElem?_drop]
         ·by_cases a2:j<ii*k+m*k
          ·rw [if_pos (by omega),if_pos (by omega),if_neg a1]
           congr 1;omega
          ·rw [if_neg (by omega),if_pos (by omega),if_neg (by omega)]
           congr 1;omega)
       have k5:=s5.restamp (s':=σ) (cells':=(insC cells ii k ys).map sh) (o:=0) hp hs2 hfresh (fun j c hj=>by rwa [Nat.zero_add]) (by simp)
       have hle2:=Inj.Le.put hs2 ⟨p.blk,p.off+0,p.tot⟩
       refine ⟨_,ι.put σ ⟨p.blk,p.off+0,p.tot⟩,rfl,by rw [hnA];exact k5,⟨fun hh d=>?_⟩,⟨hle2,hgrew,?_⟩⟩
       ·exact .sl (p:=⟨p.blk,p.off+0,p.tot⟩) (by show _=some _;exact Inj.put_same _ _ _) (Nat.le_refl _) hroom (fun _=>by simp) (fun _=>by simpa using hbd)
       ·exact z3t hBp _ _ (z3t hBp _ _ (z5u (Below.refl _ _)))
      ·refine (hI.grow p.blk p.off len cap ii vb vo m vcap us vs w hin hm (by omega) (by omega) hby hul hvl hcs hvv h1c h1v).mono fun e w' he=>?_
       obtain ⟨g,z,z',et,hg,hz,hz',rfl,rfl⟩:=he
       have hs2:ι.at_ σ=none:=hf.self.1
       have ed:(us.drop (ii*k)).length=len*k-ii*k:=by rw [List.length_drop,hul]
       have eim:(ii+m)*k=ii*k+m*k:=Nat.add_mul _ _ _
       have et':(us.take (ii*k)).length=ii*k:=by rw [List.length_take,hul];omega
       have ez:z.size=len*k+m*k-ii*k:=by rw [hz,Nat.sub_mul,Nat.add_mul]
       obtain ⟨ROW,hROW⟩:∃ ROW:Array Value,ROW=(us.take (ii*k)).toArray++z++z':=⟨_,rfl⟩
       rw [← hROW]
       have hRl:ROW.toList=us.take (ii*k)++z.toList++z'.toList:=by rw [hROW];simp
       have hRs:ROW.size=(len+m)*k+z'.size:=by
        rw [← Array.length_toList,hRl];simp only [List.length_append,et',Array.length_toList,ez];omega
       have hb0:(w.alloc (.cells ROW et)).drew.heap[w.heap.size]?=some (.cells ROW et (0,0)):=by
        show (w.heap.push _)[w.heap.size]?=_
        rw [Array.getElem?_push_size]
       obtain ⟨c3,q1,q2⟩:=z27 w.heap.size et (0,0) vs (ii*k) _ ROW (by rw [hvl,hRs];omega) hb0
       have l3:c3.size=ROW.size:=by rw [← Array.length_toList,q2,z7g _ _ _ (by rw [hvl];simp;omega)];simp
       have q1':((w.alloc (.cells ROW et)).drew.setCells w.heap.size (ii*k) vs).drew.heap[w.heap.size]?=some (.cells c3 et (0,0)):=q1
       obtain ⟨c4,r1,r2⟩:=z27 w.heap.size et (0,0) (us.drop (ii*k)) ((ii+m)*k) _ c3 (by rw [ed,eim,l3];omega) q1'
       have l4:c4.size=ROW.size:=by rw [← Array.length_toList,r2,z7g _ _ _ (by rw [ed,eim];simp;omega)];simp [l3]
       obtain ⟨W,hW⟩:∃ W,W=(((w.alloc (.cells ROW et)).drew.setCells w.heap.size (ii*k) vs).drew).setCells w.heap.size ((ii+m)*k) (us.drop (ii*k)):=⟨_,rfl⟩
       rw [← hW] at r1 ⊢
       have hWh:W.heap=(w.alloc (.cells c4 et)).heap:=by
        apply Array.ext_getElem?
        intro b
        by_cases hbe:b=w.heap.size
        ·subst hbe
         rw [r1]
         show _=(w.heap.push _)[w.heap.size]?
         rw [Array.getElem?_push_size]
        ·rw [hW,z2q _ _ _ _ _ hbe]
         show ((w.alloc (.cells ROW et)).drew.setCells w.heap.size (ii*k) vs).heap[b]?=_
         rw [z2q _ _ _ _ _ hbe]
         show (w.heap.push _)[b]?=(w.heap.push _)[b]?
         rw [Array.getElem?_push,Array.getElem?_push,if_neg hbe,if_neg hbe]
       have hpt:=Inj.Le.put hs2 ⟨w.heap.size,0,c4.size⟩
       have s4:SimN ι B w.heap (z3 cells++nodesH (setAt h l .dead)):=s3.part (Part.right [(l.last,cells.map sh)] _)
       have s5:=s4.new (w:=w) (s:=σ) (cells:=(insC cells ii k ys).map sh) (vals:=c4) (ety:=et) hs2 hfresh hB
        ((zin hcl (Nat.le_of_lt hin) hyl hul hvl hru hrv fun j hj=>by
         rw [r2,zdd _ _ _ (by rw [ed,eim];simp;omega),q2,zdd _ _ _ (by rw [hvl];simp;omega),hvl,ed,hRl]
         rw [eim]
         simp only [List.getElem?_append,List.length_append,List.length_take,List.getElem?_take,List.getElem?_drop]
         rw [hul,hvl,Nat.min_eq_left (Nat.le_of_lt hlk)]
         by_cases a1:j<ii*k
         ·rw [if_neg (by omega),if_neg (by omega),if_pos (by omega),if_pos a1,if_pos a1,if_pos (by omega),if_pos a1]
         ·by_cases a2:j<ii*k+m*k
          ·rw [if_neg (by omega),if_pos (by omega),if_pos (by omega),if_neg a1]
          ·rw [if_pos (by omega),if_neg (by omega)]).mono hpt) (by rw [List.length_map,hlen,l4,hRs];omega)
       rw [← hWh] at s5
       have hgk:(len+m)*k≤g*k:=Nat.mul_le_mul_right _ hg
       have hcz:c4.size=g*k:=by rw [l4,hRs,hz',Nat.sub_mul];omega
       refine ⟨_,ι.put σ ⟨w.heap.size,0,c4.size⟩,rfl,by rw [hnA];exact s5,⟨fun hh d=>?_⟩,⟨hpt,hgrew,?_⟩⟩
       ·exact .sl (p:=⟨w.heap.size,0,c4.size⟩) (by show _=some _;exact Inj.put_same _ _ _) (Nat.le_refl _) hg (fun _=>rfl) (fun _=>by simp [hcz])
       ·rw [hW]
        exact z3t hB _ _ (z5u (z3t hB _ _ (z5u ((Below.refl _ _).alloc hB _))))
   ·simp at hev
  ·simp at hev
 ·simp at hev
theorem zno {G:Cfg} {B:Nat} {f k bys:Nat} {own:Bool} (hI:InsOk G f k bys own) {σ:Stamp} {h h':H} {x0 x2:V} {i:Int} {cs:List C} {ι:Inj} {w:World} {u0 u2:Value} (hlen:lenOf x0=some i.toNat) (hi0:0≤i) (hev:insE own k bys σ h x0 x2=some (cs,h'))
  (hS:SimN ι B w.heap (nodesH h)) (h0:RV ι x0 u0) (h2:RV ι x2 u2) (hf:Fresh σ ι (nodesH h)) (hB:B≤w.heap.size) :
  Calls G.P f #[u0,.int .i64 i,u2] w fun e w'=>∃ v ι',e=.returned v∧SimN ι' B w'.heap (z3 cs++nodesH h')∧RetOk ι' cs v∧Went σ B ι w (nodesH h) ι' w' (z3 cs++nodesH h'):=by
 unfold insE at hev
 split at hev
 ·rename_i ys m esz2 tight
  split at hev
  ·rename_i hm
   obtain ⟨hm,hyl⟩:=hm
   obtain ⟨⟨v,h1⟩,hap,hev⟩:=Option.bind_eq_some_iff.1 hev
   obtain ⟨t,ty,hq,hT0,hT1⟩:=hI.tail
   rw [← hq] at hap
   have e0:nodesH ([[]]::h)=nodesH h:=rfl
   obtain ⟨ι',w',nx,u,hrun,hnx,hrv,hS',hle,hgr,hbl⟩:=zhh (G:=G) (t:=t) (t':=t) (ty:=ty) (d:=0) hB (by rw [e0];exact hS) (by rw [e0];exact hf) h0 h2 hap
   have hr:(Builtin.append_ #[t,t] ty #[u0,u2]).run G.P w=.ok u w':=by
    cases hx:(Builtin.append_ #[t,t] ty #[u0,u2]).run G.P w with
    | ok r w1 =>
     simp only [Sem.run_bind,hx,Result.andThen_ok,Sem.run_pure,Result.ok.injEq] at hrun
     obtain ⟨rfl,rfl⟩:=hrun
     rcases hnx with h | ⟨h,_⟩
     ·simp only [Next.value.injEq] at h;rw [h]
     ·cases h
    | _=>simp [hx,Result.andThen] at hrun
   have hu2:∃ vb vo vc,u2=.slice (some ⟨vb,vo,none⟩) m vc:=by
    cases h2 with
    | fz0=>simp at hyl
    | fz=>exact ⟨_,_,_,rfl⟩
   obtain ⟨vb,vo,vc,rfl⟩:=hu2
   have done:Calls G.P f #[u0,.int .i64 i,.slice (some ⟨vb,vo,none⟩) m vc] w fun e w2=>e=.returned u∧w2=w':=by
    obtain ⟨ii,rfl⟩:∃ ii:Nat,i=(ii:Int):=⟨i.toNat,by omega⟩
    simp only [Int.toNat_natCast] at hlen
    cases h0 with
    | p v0 =>
     unfold lenOf at hlen
     split at hlen
     ·rename_i hx;cases hx
      simp only [Option.some.injEq] at hlen;subst hlen
      exact hT0 _ _ _ _ _ _ _ hm hr
     ·rename_i s hx;cases hx
      exfalso
      have hsl:isSl (.p (.string s))=true:=by
       unfold zam at hap
       split at hap
       ·unfold z6x at hap
        split at hap
        ·cases hap
        ·obtain ⟨e2,he2,hap⟩:=Option.bind_eq_some_iff.1 hap
         obtain ⟨z2,hz2,hap⟩:=Option.bind_eq_some_iff.1 hap
         obtain ⟨n2,hn2,hap⟩:=Option.bind_eq_some_iff.1 hap
         obtain ⟨ys',hys,hap⟩:=Option.bind_eq_some_iff.1 hap
         split at hap
         ·cases hap
         ·split at hap
          ·split at hap
           ·assumption
           ·cases hap
          ·obtain ⟨q,hq',hap⟩:=Option.bind_eq_some_iff.1 hap
           unfold z8x at hap
           split at hap
           ·rename_i hx2;cases hx2
           ·rename_i hx2;cases hx2
           ·rename_i hx2;cases hx2
           ·cases hap
       ·split at hap
        ·simp [asI] at hap
        ·cases hap
      simp [isSl] at hsl
     ·rename_i hx;cases hx
     ·rename_i hx;cases hx
     ·cases hlen
    | sl hp m1 m2 m3 m4 =>
     simp only [lenOf,Option.some.injEq] at hlen;subst hlen
     exact hT1 _ _ _ _ _ _ _ _ _ _ hm (by omega) hr
    | @fz0 esz cap tight a ht =>
     simp only [lenOf,Option.some.injEq] at hlen;subst hlen
     exact hT1 _ _ _ _ _ _ _ _ _ _ hm (Nat.zero_le _) hr
    | fz k1 k2 k3 k4 k5 =>
     simp only [lenOf,Option.some.injEq] at hlen;subst hlen
     exact hT1 _ _ _ _ _ _ _ _ _ _ hm k2 hr
    | _=>simp [lenOf] at hlen
   refine done.mono fun e w2 he=>?_
   obtain ⟨rfl,rfl⟩:=he
   simp only at hev
   split at hev
   ·rename_i l n av e s' n' e' cs0 h''
    split at hev
    ·rename_i hc
     obtain ⟨hl,rfl,rfl⟩:=hc
     simp only [Option.some.injEq,Prod.mk.injEq] at hev
     obtain ⟨rfl,rfl⟩:=hev
     have e1:nodesH ([[C.arr s' n e cs0]]::h'')=z3 [C.arr s' n e cs0]++nodesH h'':=by simp [nodesH,nodesL,z3]
     rw [e1] at hS' hgr
     refine ⟨_,ι',rfl,hS',⟨fun hh d=>?_⟩,⟨hle,hgr,hbl⟩⟩
     cases hrv with
     | sl hp m1 m2 m3 m4=>exact .sl (by rw [← hl] at *;exact hp) (Nat.le_refl _) (by omega) m3 m4
    ·cases hev
   ·cases hev
  ·cases hev
 ·cases hev
theorem znz {G:Cfg} {t:FuncId→Option (Nat×Nat×Bool)} (ht:∀ f k b o,t f=some (k,b,o)→InsOk G f k b o) (B:Nat):CallOk G B (insX t):=by
 intro f σ args h cs h' hev ι w us hS hargs hf hB
 unfold insX at hev
 split at hev
 ·rename_i k bys own x0 i x2 htf
  have hI:=ht f k bys own htf
  refine ⟨hI.fn,?_⟩
  have e:∃ u0 u2,us=#[u0,.int .i64 i,u2]∧RV ι x0 u0∧RV ι x2 u2:=by
   obtain ⟨l,rfl⟩:∃ l:List Value,us=l.toArray:=⟨us.toList,by simp⟩
   simp only at hargs
   cases hargs with
   | cons r0 t0 =>
    cases t0 with
    | cons r1 t1 =>
     cases t1 with
     | cons r2 t2 =>
      cases t2
      cases r1
      exact ⟨_,_,rfl,r0,r2⟩
  obtain ⟨u0,u2,rfl,r0,r2⟩:=e
  unfold insV at hev
  split at hev
  ·rename_i hc
   exact zno hI hc.1 hc.2 hev hS r0 r2 hf hB
  ·exact znx hI hev hS r0 r2 hf hB
 ·simp at hev
def orX (a b:CallF):CallF:=fun f σ args h=>match a f σ args h with | some r=>some r | none=>b f σ args h
theorem orX_ok {G:Cfg} {B:Nat} {a b:CallF} (ha:CallOk G B a) (hb:CallOk G B b):CallOk G B (orX a b):=by
 intro f σ args h cs h' hev
 unfold orX at hev
 split at hev
 ·rename_i r hr
  simp only [Option.some.injEq] at hev
  subst hev
  exact ha f σ args h cs h' hr
 ·exact hb f σ args h cs h' hev
end Go.Ev
namespace Go.Ev
set_option linter.unusedVariables false
section
variable {N:Nat} {h0 Hp:H} {B:List Rt} {Γ:List (Nat×Stamp×List C)} {Δ:List Gw}
end
end Go.Ev
namespace Go.Ev
set_option linter.unusedVariables false
section
variable {G:Cfg} {X:CallF} {c:Code} {lv:Lv} {own:Bool} {e N D7 D28 f:Nat} {z:List V} {caps:List V} {α:Type} {dt:Dt α} {p:α→Option Bool} {Hp:H} {LL:Loc} {v:V}
end
section
variable {G:Cfg} {X:CallF} {c:Code} {lv:Lv} {own:Bool} {e M D7 D28 f:Nat} {z:List V} {caps:List V} {α:Type} {dt:Dt α} {p:α→Option Bool}
variable {N:Nat} {h0 Hp:H} {B:List Rt} {Γ:List (Nat×Stamp×List C)} {Δ:List Gw}
end
end Go.Ev
namespace Go.Ev
set_option linter.unusedVariables false
set_option linter.unusedSimpArgs false
structure Ct (α:Type) where
 sz:Nat
 R:α→List C→Prop
 len:∀ {a cs},R a cs→cs.length=sz
theorem RL.split {α β:Type} {R:α→List β→Prop} {k:Nat} (hk:∀ {a vs},R a vs→vs.length=k) {xs:List α} {ds:List β} (h:RL R xs ds) {i:Nat} (hi:i<xs.length) :
  ∃ P ws Q,ds=P++ws++Q∧P.length=i*k∧R xs[i] ws∧∀ x' ws',R x' ws'→RL R (xs.set i x') (P++ws'++Q):=by
 obtain ⟨ws,h1,h2⟩:=RL.get hk h hi
 have hl:=RL.length hk h
 have hm:(i+1)*k≤xs.length*k:=Nat.mul_le_mul_right k hi
 rw [Nat.succ_mul] at hm
 refine ⟨ds.take (i*k),ws,ds.drop (i*k+k),?_,by rw [List.length_take];omega,h1,fun x' ws' hR=>RL.set hk h hi hR⟩
 rw [← h2,List.append_assoc,← List.drop_drop,List.take_append_drop,List.take_append_drop]
def RsC {α:Type} (d:Ct α) (xs:List α) (c:C):Prop :=
 (xs=[]∧(c=.v (.p (.slice none 0 0))∨c=.v (.fz [] 0 d.sz true)))∨∃ s ds,c=.arr s xs.length d.sz ds∧RL d.R xs ds
def RsH {α:Type} (h:H) (d:Ct α) (xs:List α) (v:V):Prop :=
 (xs=[]∧(v=.p (.slice none 0 0)∨v=.fz [] 0 d.sz true))∨∃ l ds,v=.sl l 0 xs.length xs.length d.sz∧nd h l=some ds∧RL d.R xs ds
section
variable {α:Type} {h:H} {l:Loc} {off j:Nat} {cs:List C} {c:C} {d:Ct α} {xs:List α} {v:V}
theorem RsC.nil:RsC d [] (.v (.p (.slice none 0 0))):=.inl ⟨rfl,.inl rfl⟩
theorem RsC.nil' {e:Nat} (he:d.sz=e):RsC d [] (.v (.fz [] 0 e true)):=.inl ⟨rfl,.inr (by rw [he])⟩
theorem RsC.ld (hc:RsC d xs c) (ha:AtC h l off cs) (hj:cs[j]?=some c):ldO false 1 h (.ref l (off+j))=some (cellV l (off+j) c):=by
 rcases hc with ⟨_,rfl | rfl⟩ | ⟨s,ds,rfl,_⟩<;>exact ha.ldC hj rfl
theorem z8m {s:Stamp} {n e:Nat} {ds:List C}:(C.arr s n e ds).node s=some ds:=by simp [C.node]
theorem AtC.hopN (ha:AtC h l off cs) {s:Stamp} {ds:List C} (hj:cs[j]?=some c) (hd:c.node s=some ds):nd h (l.hop (off+j) s)=some ds:=by
 obtain ⟨p,q,hn,hp⟩:=ha
 exact nd_in hn (c:=c) (by rw [z9u hp (List.getElem?_eq_some_iff.1 hj).1,hj]) hd
theorem RsC.rs (hc:RsC d xs c) (ha:AtC h l off cs) (hj:cs[j]?=some c):RsH h d xs (cellV l (off+j) c):=by
 rcases hc with ⟨h0,rfl | rfl⟩ | ⟨s,ds,rfl,hl⟩
 ·exact .inl ⟨h0,.inl rfl⟩
 ·exact .inl ⟨h0,.inr rfl⟩
 ·exact .inr ⟨_,ds,rfl,ha.hopN hj z8m,hl⟩
theorem RsC.len (hc:RsC d xs c) (l:Loc) (o:Nat):lenO (cellV l o c)=some (.p (.int .i64 xs.length)):=by
 rcases hc with ⟨rfl,rfl | rfl⟩ | ⟨s,ds,rfl,hl⟩<;>rfl
theorem RsH.len (hv:RsH h d xs v):lenO v=some (.p (.int .i64 xs.length)):=by
 rcases hv with ⟨rfl,rfl | rfl⟩ | ⟨s,ds,rfl,_⟩<;>rfl
theorem RsH.up (hv:RsH h d xs v) (L:Layer):RsH (L::h) d xs v:=by
 rcases hv with hv | ⟨l,ds,rfl,hn,hl⟩
 ·exact .inl hv
 ·exact .inr ⟨l,ds,rfl,nd_up hn L,hl⟩
theorem RsH.el (hv:RsH h d xs v) {i:Int} {x:α} (hx:ix xs i=some x) {e:Nat} (he:d.sz=e):∃ l ws,iS e v i=some (.ref l (i.toNat*e))∧d.R x ws∧AtC h l (i.toNat*e) ws:=by
 subst he
 obtain ⟨h0,hi,rfl⟩:=z5j hx
 rcases hv with ⟨rfl,_⟩ | ⟨l,ds,rfl,hn,hl⟩
 ·simp at hi
 ·obtain ⟨P,ws,Q,rfl,hP,hR,_⟩:=hl.split (fun h=>d.len h) hi
  refine ⟨l,ws,?_,hR,P,Q,hn,hP⟩
  simp only [iS]
  rw [if_pos ⟨trivial,h0,by omega⟩,Nat.zero_add]
theorem RsC.open (hc:RsC d xs c) {i:Int} {x:α} (hx:ix xs i=some x) {e:Nat} (he:d.sz=e) :
  ∃ s P ws Q,c=.arr s xs.length e (P++ws++Q)∧P.length=i.toNat*e∧d.R x ws∧∀ x' ws',d.R x' ws'→RsC d (xs.set i.toNat x') (.arr s xs.length e (P++ws'++Q)):=by
 subst he
 obtain ⟨h0,hi,rfl⟩:=z5j hx
 rcases hc with ⟨rfl,_⟩ | ⟨s,ds,rfl,hl⟩
 ·simp at hi
 ·obtain ⟨P,ws,Q,rfl,hP,hR,hs⟩:=hl.split (fun h=>d.len h) hi
  exact ⟨s,P,ws,Q,rfl,hP,hR,fun x' ws' h=>.inr ⟨s,_,by rw [List.length_set],hs x' ws' h⟩⟩
theorem iS_arr {α:Type} {xs:List α} {i:Int} {x:α} (hx:ix xs i=some x) (l:Loc) (o e:Nat) (s:Stamp) (ds:List C):iS e (cellV l o (.arr s xs.length e ds)) i=some (.ref (l.hop o s) (i.toNat*e)):=by
 obtain ⟨h0,hi,_⟩:=z5j hx
 simp only [cellV,toV,Option.getD_some,iS]
 rw [if_pos ⟨trivial,h0,by omega⟩,Nat.zero_add]
theorem AtC.elem {s:Stamp} {n e k:Nat} {P ws Q:List C} (ha:AtC h l off cs) (hj:cs[j]?=some (.arr s n e (P++ws++Q))) (hP:P.length=k):AtC h (l.hop (off+j) s) k ws :=
 ⟨P,Q,ha.hopN hj z8m,hP⟩
end
def Foc (N:Nat) (h0:H) (B:List Rt) (l:Loc) (off:Nat) (cs:List C) (B':List C→List Rt):Prop :=
 ∀ {Γ:List (Nat×Stamp×List C)} {Δ:List Gw} {Hp:H},Fm N h0 B Γ Δ Hp→(AtC Hp l off cs∧l.lvl<h0.length)∧∀ cs',cs'.length=cs.length→Fm N h0 (B' cs') Γ Δ (ptC Hp l off cs')
section
variable {N:Nat} {h0 Hp:H} {B:List Rt} {Γ:List (Nat×Stamp×List C)} {Δ:List Gw} {l:Loc} {off j:Nat} {cs:List C} {B':List C→List Rt}
theorem Foc.of {i:Nat} (hi:B[i]?=some ⟨l,off,cs⟩):Foc N h0 B l off cs (fun cs'=>B.set i ⟨l,off,cs'⟩):=fun S=>by
 refine ⟨⟨S.atB hi,?_⟩,fun cs' hc=>S.setB hi hc⟩
 obtain ⟨L,rfl,h2,h3,h4,h5⟩:=S
 have:=(h3.at hi).lt
 rwa [ze] at this
theorem Foc.arr (F:Foc N h0 B l off cs B') {s:Stamp} {n e k:Nat} {P ws Q:List C} (hj:cs[j]?=some (.arr s n e (P++ws++Q))) (hP:P.length=k) :
  Foc N h0 B (l.hop (off+j) s) k ws (fun ws'=>B' (cs.set j (.arr s n e (P++ws'++Q)))):=fun {Γ Δ Hp} S=>by
 obtain ⟨⟨ha,hlv⟩,hs⟩:=F S
 refine ⟨⟨ha.elem hj hP,hlv⟩,fun ws' hl=>?_⟩
 have h1:AtC Hp (l.hop (off+j) s) 0 (P++ws++Q):=ha.hop hj z8m
 have h2:ptC Hp (l.hop (off+j) s) k ws'=ptC Hp (l.hop (off+j) s) 0 (P++ws'++Q):=by
  have:=h1.seg_pt (j:=k) (m:=ws.length) (ds:=ws') (by simp;omega) hl
  rw [Nat.zero_add] at this
  rw [this,← hP]
  congr 2
  ·rw [List.append_assoc P,List.take_left'];rfl
  ·rw [← List.drop_drop,List.append_assoc,List.drop_left,List.drop_left]
 rw [h2,ha.hop_pt hj (ds':=P++ws'++Q) z8m (by simp [hl])]
 exact hs _ (by simp)
theorem Foc.own (F:Foc N h0 B l off cs B') {s:Stamp} {ds:List C} (hj:cs[j]?=some (.own s ds)) :
  Foc N h0 B (l.hop (off+j) s) 0 ds (fun ds'=>B' (cs.set j (.own s ds'))):=fun {Γ Δ Hp} S=>by
 obtain ⟨⟨ha,hlv⟩,hs⟩:=F S
 refine ⟨⟨ha.sub hj,hlv⟩,fun ds' hl=>?_⟩
 rw [ha.hop_pt hj (ds':=ds') zk0 hl]
 exact hs _ (by simp)
theorem Fm.atF (S:Fm N h0 B Γ Δ Hp) (F:Foc N h0 B l off cs B'):AtC Hp l off cs:=(F S).1.1
theorem Fm.setF (S:Fm N h0 B Γ Δ Hp) (F:Foc N h0 B l off cs B') {cs':List C} (hc:cs'.length=cs.length):Fm N h0 (B' cs') Γ Δ (ptC Hp l off cs'):=(F S).2 cs' hc
theorem Fm.stF (S:Fm N h0 B Γ Δ Hp) (F:Foc N h0 B l off cs B') {σ:Stamp} {own:Bool} {x:V} (hx:Still x) (hj:(cs[j]?).isSome=true) :
  ∃ H',stO own 1 σ Hp (.ref l (off+j)) x=some H'∧Fm N h0 (B' (cs.set j (.v x))) Γ Δ H':=by
 have hlt:j<cs.length:=by
  obtain ⟨y,hy⟩:=Option.isSome_iff_exists.1 hj
  exact (List.getElem?_eq_some_iff.1 hy).1
 exact ⟨_,(S.atF F).st (own:=own) (σ:=σ) hx hlt,S.setF F (by simp)⟩
end
section
variable {h:H} {l:Loc} {off j:Nat} {cs:List C}
theorem AtC.ldAll (ha:AtC h l off cs) {n:Nat} {xs:List V} (hj:decide (j+n≤cs.length)=true) (hx:toVs l (off+j) ((cs.drop j).take n)=some xs):ldO true n h (.ref l (off+j))=some (.agg xs):=by
 rw [ha.ldAgg (of_decide_eq_true hj) hx];rfl
def Low (x:V):Prop:=∀ own H,layC own H x=some (.v x,H)
theorem Still.low {x:V} (h:Still x):Low x:=fun own H=>h.lay own H
theorem Low.hop (l:Loc) (o:Nat) (s:Stamp):Low (.ref (l.hop o s) 0):=fun own H=>by
 simp [layC,Loc.hop]
theorem lw_nil {own:Bool} {H:Ev.H}:layCs own H []=some ([],H):=rfl
theorem z4k {own:Bool} {H:Ev.H} {x:V} {xs:List V} {cs:List C} (hx:Low x) (t:layCs own H xs=some (cs,H)):layCs own H (x::xs)=some (.v x::cs,H):=by
 simp only [layCs,hx own H,Option.bind_some,t]
theorem z7r {own:Bool}:∀ {xs:List V} {H H':Ev.H} {cs:List C},layCs own H xs=some (cs,H')→cs.length=xs.length
 | [],H,H',cs,e=>by simp only [layCs,Option.some.injEq,Prod.mk.injEq] at e;obtain ⟨rfl,_⟩:=e;rfl
 | x::xs,H,H',cs,e=>by
  simp only [layCs] at e
  obtain ⟨⟨c,h1⟩,_,e2⟩:=Option.bind_eq_some_iff.1 e
  obtain ⟨⟨ds,h2⟩,e3,e4⟩:=Option.bind_eq_some_iff.1 e2
  simp only [Option.some.injEq,Prod.mk.injEq] at e4
  rw [← e4.1,List.length_cons,List.length_cons,z7r e3]
theorem AtC.stW (ha:AtC h l off cs) {own:Bool} {σ:Stamp} {xs:List V} {ws:List C} {n:Nat} (e:layCs own h xs=some (ws,h)) (hn:xs.length=n) (hj:j+n≤cs.length):stO own n σ h (.ref l (off+j)) (.agg xs)=some (ptC h l off (cs.take j++ws++cs.drop (j+n))):=by
 subst hn
 have hw:=z7r e
 obtain ⟨p,q,hn,hp⟩:=ha
 have hs:z1u l (off+j) (p++cs++q)[off+j]? (.agg xs)=false:=by
  cases (p++cs++q)[off+j]? with
  | none=>rfl
  | some c=>cases c<;>rfl
 unfold stO
 simp only [V.cells,bne_self_eq_false,Bool.not_true,Bool.or_self,Bool.false_eq_true,if_false,hn,Option.bind_some,hs,e]
 rw [if_pos (by simp;omega),ptC_eq hn hp (by simp;omega)]
 congr 2
 rw [List.append_assoc p,List.take_append,List.take_of_length_le (l:=p) (by omega),List.drop_append,List.drop_of_length_le (l:=p) (by omega),List.nil_append,hp,Nat.add_sub_cancel_left,Nat.add_assoc,Nat.add_sub_cancel_left,hw,List.take_append_of_le_length (by omega),List.drop_append_of_le_length (by omega)]
 simp
end
section
variable {N:Nat} {h0 Hp:H} {B:List Rt} {Γ:List (Nat×Stamp×List C)} {Δ:List Gw}
theorem Fm.stGw (S:Fm N h0 B Γ Δ Hp) {i d j n:Nat} {s σ:Stamp} {own:Bool} {xs:List V} {ws cs:List C} (hi:Γ[i]?=some (d,s,cs)) (hf:(freeG (Γ.eraseIdx i) d&&freeD Δ d)=true) (e:layCs own Hp xs=some (ws,Hp)) (hn:xs.length=n) (hj:decide (j+n≤cs.length)=true) :
  ∃ H',stO own n σ Hp (.ref ⟨h0.length,d,0,s,[]⟩ j) (.agg xs)=some H'∧Fm N h0 B (Γ.set i (d,s,cs.take j++ws++cs.drop (j+n))) Δ H':=by
 have hj:=of_decide_eq_true hj
 have hw:=z7r e
 have e2:=(S.atG hi).stW (σ:=σ) e hn hj
 rw [Nat.zero_add] at e2
 exact ⟨_,e2,S.setG hi hf (by simp;omega)⟩
theorem Fm.appR {H1:H} (S:Fm N h0 B Γ Δ H1) {i j d d0 b e:Nat} {s0 σ:Stamp} {cs ns:List C} {c:C} {α:Type} {dt:Ct α} {xs zs:List α} {y:α} {own t:Bool} {ys:List V}
  (hi:Γ[i]?=some (d0,s0,cs)) (hj:cs[j]?=some c) (hc:RsC dt xs c) (e1:layCs own Hp ys=some (ns,H1)) (hys:ys.length=e) (hR:dt.R y ns) (hz:ap b xs [y]=some zs) (he:dt.sz=e) (hk:e≠0) (hd:d<N)
  (hf:(freeG (Γ.eraseIdx i) d0&&freeD Δ d0)=true) (hf2:(freeG Γ d&&freeD Δ d)=true) :
  ∃ c' ds H',apO own e b σ d Hp (cellV ⟨h0.length,d0,0,s0,[]⟩ j c) (.fz ys 1 e t)=some (.sl ⟨h0.length,d,0,σ,[]⟩ 0 zs.length zs.length e,H')∧RL dt.R zs ds∧slotOf H' d=some [.arr σ zs.length e ds]∧Fm N h0 B (Γ.set i (d0,s0,cs.set j c')) Δ H':=by
 subst he
 obtain ⟨⟨hb1,hb2⟩,rfl⟩:=zdl hz
 simp only [List.length_cons,List.length_nil,Nat.zero_add] at hb1 hb2
 have ha:=S.atG hi
 have hlt:=(List.getElem?_eq_some_iff.1 hj).1
 have same:ptC H1 ⟨h0.length,d0,0,s0,[]⟩ 0 (cs.set j c)=H1:=by
  rw [show cs.set j c=cs from by rw [← (List.getElem?_eq_some_iff.1 hj).2];exact List.set_getElem_self ..]
  exact ha.same
 have base:∀ x,apO own dt.sz b σ d Hp x (.fz ys 1 dt.sz t)=apTo dt.sz b σ d H1 1 ns x:=fun x=>by
  unfold apO
  simp only [lenOf,cellsOf,Option.bind_some,e1]
  rw [if_neg (by omega),if_neg (by omega)]
 have fin:∀ (c':C) (ds:List C) (n:Nat),n=(xs++[y]).length→RL dt.R (xs++[y]) ds →
   ∃ H',some (V.sl (Ev.newLoc H1 d σ) 0 n n dt.sz,zl (ptC H1 ⟨h0.length,d0,0,s0,[]⟩ 0 (cs.set j c')) d [.arr σ n dt.sz ds])=some (V.sl ⟨h0.length,d,0,σ,[]⟩ 0 (xs++[y]).length (xs++[y]).length dt.sz,H')∧RL dt.R (xs++[y]) ds∧slotOf H' d=some [.arr σ (xs++[y]).length dt.sz ds]∧Fm N h0 B (Γ.set i (d0,s0,cs.set j c')) Δ H':=fun c' ds n hn hl=>by
  subst hn
  have S2:=S.setG (cs':=cs.set j c') hi hf (by simp)
  have hf3:(freeG (Γ.set i (d0,s0,cs.set j c')) d&&freeD Δ d)=true:=by
   simp only [Bool.and_eq_true] at hf2 ⊢
   refine ⟨List.all_eq_true.2 fun x hx=>?_,hf2.2⟩
   rcases mem_set hx (List.getElem?_eq_some_iff.1 hi).1 with rfl | hx
   ·have:=List.all_eq_true.1 hf2.1 (d0,s0,cs) (List.mem_of_getElem? hi)
    simpa using this
   ·exact List.all_eq_true.1 hf2.1 _ (mem_erase hx)
  refine ⟨_,by rw [S.newLoc],hl,?_,?_⟩
  ·obtain ⟨L,e2,h2,_⟩:=S2
   rw [e2]
   simp only [zl,slotOf]
   rw [List.getElem?_set_self (by omega)]
  ·have S3:=S2
   obtain ⟨L,e2,h2,h3,h4,h5⟩:=S2
   rw [e2] at S3 ⊢
   exact z5g S3 hf3 _
 rcases hc with ⟨rfl,rfl | rfl⟩ | ⟨s,ds,rfl,hl⟩
 ·obtain ⟨H',q1,q2,q3,q4⟩:=fin (.v (.p (.slice none 0 0))) ns 1 rfl (RL.one hR)
  refine ⟨_,ns,H',?_,q2,q3,q4⟩
  rw [base,← q1,same]
  simp only [cellV,toV,Option.getD_some,apTo]
  rw [if_pos ⟨by simpa using hb1,by omega⟩]
 ·obtain ⟨H',q1,q2,q3,q4⟩:=fin (.v (.fz [] 0 dt.sz true)) ns 1 rfl (RL.one hR)
  refine ⟨_,ns,H',?_,q2,q3,q4⟩
  rw [base,← q1,same]
  simp only [cellV,toV,Option.getD_some,apTo]
  rw [if_pos ⟨trivial,trivial,by simp,by simpa using hb1,by omega,by simp⟩]
  simp
 ·have hlen:=RL.length (fun h=>dt.len h) hl
  obtain ⟨H',q1,q2,q3,q4⟩:=fin .dead (ds++ns) (xs.length+1) (by simp) (hl.append (RL.one hR))
  refine ⟨_,ds++ns,H',?_,q2,q3,q4⟩
  have hnode:nd H1 ((⟨h0.length,d0,0,s0,[]⟩:Loc).hop j s)=some ds:=by
   have:=ha.hopN hj (s:=s) (ds:=ds) z8m
   rwa [Nat.zero_add] at this
  have hkill:=zcp (s:=s) ha hj (by simp [C.node])
  rw [Nat.zero_add] at hkill
  rw [base,← q1]
  simp only [cellV,toV,Option.getD_some,apTo]
  rw [if_neg (by simp),hnode]
  simp only [Option.bind_some]
  rw [if_neg (by omega),if_pos ⟨trivial,hlen,hb1,hb2⟩,hkill]
theorem Fm.stR (S:Fm N h0 B Γ Δ Hp) {i j d d0 n e:Nat} {s0 s σ:Stamp} {cs ds:List C} (hsl:slotOf Hp d=some [.arr s n e ds]) (hi:Γ[i]?=some (d0,s0,cs)) (hj:(cs[j]?).isSome=true) (hf:(freeG (Γ.eraseIdx i) d0&&freeD Δ d0)=true) (hf2:(freeG Γ d&&freeD Δ d)=true) :
  ∃ H',stO true 1 σ Hp (.ref ⟨h0.length,d0,0,s0,[]⟩ j) (.sl ⟨h0.length,d,0,s,[]⟩ 0 n n e)=some H'∧Fm N h0 B (Γ.set i (d0,s0,cs.set j (.arr s n e ds))) Δ H':=by
 have hlt:j<cs.length:=by
  obtain ⟨y,hy⟩:=Option.isSome_iff_exists.1 hj
  exact (List.getElem?_eq_some_iff.1 hy).1
 have ha:=S.atG hi
 have S0:=S
 obtain ⟨L,rfl,h2,h3,h4,h5⟩:=S
 simp only [slotOf] at hsl
 have hlay:layC true (L::pts h0 B) (.sl ⟨h0.length,d,0,s,[]⟩ 0 n n e)=some (.arr s n e ds,L.set d [.dead]::pts h0 B):=by
  simp [layC,top,ze,rootC,zc,hsl]
 have S1:=z5g S0 hf2 [.dead]
 have ha1:=S1.atG hi
 obtain ⟨p,q,hn,hp⟩:=ha
 have hp0:p=[]:=List.length_eq_zero_iff.1 hp
 subst hp0
 obtain ⟨p1,q1,hn1,hp1⟩:=ha1
 have hp1':p1=[]:=List.length_eq_zero_iff.1 hp1
 subst hp1'
 refine ⟨_,?_,S1.setG (cs':=cs.set j (.arr s n e ds)) hi hf (by simp)⟩
 have hsm:z1u ⟨h0.length,d0,0,s0,[]⟩ j ([]++cs++q)[j]? (.sl ⟨h0.length,d,0,s,[]⟩ 0 n n e)=false:=by
  cases hx:([]++cs++q)[j]? with
  | none=>rfl
  | some x=>cases x<;>simp [z1u,Loc.hop]
 unfold stO
 simp only [V.cells,hn,hsm,Option.bind_some,layCs,hlay]
 simp only [List.length_cons,List.length_nil,Bool.not_true,Bool.false_or,Nat.zero_add,bne_self_eq_false,Bool.false_eq_true,if_false,hn1,Option.bind_some]
 rw [if_pos (by simp;omega),z5z _ _ _ (by simp;omega),ptC_eq (off:=0) hn1 rfl (by simp)]
 congr 2
 rw [List.append_assoc,List.nil_append,List.nil_append,List.set_append_left _ _ (by omega)]
end
end Go.Ev
namespace Go.Ev
theorem lx_nil {own:Bool} {H:Ev.H}:layCs own H []=some (([]:List C),H):=rfl
theorem lx_pl {own:Bool} {H H':Ev.H} {x:V} {xs:List V} {cs:List C} (hx:Still x) (t:layCs own H xs=some (cs,H')):layCs own H (x::xs)=some (.v x::cs,H'):=by
 simp only [layCs,hx.lay,Option.bind_some,t]
theorem lx_ow {own:Bool} {H H1 H':Ev.H} {x:V} {c:C} {xs:List V} {cs:List C} (hx:layC own H x=some (c,H1)) (t:layCs own H1 xs=some (cs,H')):layCs own H (x::xs)=some (c::cs,H'):=by
 simp only [layCs,hx,Option.bind_some,t]
end Go.Ev
namespace Go.Ev
theorem AtC.stL {h h1:H} {l:Loc} {off j:Nat} {cs:List C} (ha:AtC h l off cs) (ha1:AtC h1 l off cs) {own:Bool} {σ:Stamp} {xs:List V} {ws:List C} {n:Nat} (e:layCs own h xs=some (ws,h1)) (hn:xs.length=n) (hj:j+n≤cs.length):stO own n σ h (.ref l (off+j)) (.agg xs)=some (ptC h1 l off (cs.take j++ws++cs.drop (j+n))):=by
 subst hn
 have hw:=z7r e
 obtain ⟨p,q,hn,hp⟩:=ha
 obtain ⟨p1,q1,hn1,hp1⟩:=ha1
 have hs:z1u l (off+j) (p++cs++q)[off+j]? (.agg xs)=false:=by
  cases (p++cs++q)[off+j]? with
  | none=>rfl
  | some c=>cases c<;>rfl
 unfold stO
 simp only [V.cells,bne_self_eq_false,Bool.not_true,Bool.or_self,Bool.false_eq_true,if_false,hn,Option.bind_some,hs,e,hn1]
 rw [if_pos (by simp;omega),ptC_eq hn1 hp1 (by simp;omega)]
 congr 2
 rw [List.append_assoc p1,List.take_append,List.take_of_length_le (l:=p1) (by omega),List.drop_append,List.drop_of_length_le (l:=p1) (by omega),List.nil_append,hp1,Nat.add_sub_cancel_left,Nat.add_assoc,Nat.add_sub_cancel_left,hw,List.take_append_of_le_length (by omega),List.drop_append_of_le_length (by omega)]
 simp
theorem Fm.stL {N:Nat} {h0 Hp H1:H} {B B0:List Rt} {Γ Γ0:List (Nat×Stamp×List C)} {Δ Δ0:List Gw} (S0:Fm N h0 B0 Γ0 Δ0 Hp) (S:Fm N h0 B Γ Δ H1) {i0 i d j n:Nat} {s σ:Stamp} {own:Bool} {xs:List V} {ws cs:List C} (hi0:Γ0[i0]?=some (d,s,cs)) (hi:Γ[i]?=some (d,s,cs)) (hf:(freeG (Γ.eraseIdx i) d&&freeD Δ d)=true) (e:layCs own Hp xs=some (ws,H1)) (hn:xs.length=n) (hj:decide (j+n≤cs.length)=true) :
  ∃ H',stO own n σ Hp (.ref ⟨h0.length,d,0,s,[]⟩ j) (.agg xs)=some H'∧Fm N h0 B (Γ.set i (d,s,cs.take j++ws++cs.drop (j+n))) Δ H':=by
 have hj:=of_decide_eq_true hj
 have hw:=z7r e
 have e2:=(S0.atG hi0).stL (S.atG hi) (σ:=σ) e hn hj
 rw [Nat.zero_add] at e2
 exact ⟨_,e2,S.setG hi hf (by simp;omega)⟩
end Go.Ev
namespace Go.Ev
theorem FrCs.vals {l:Loc}:∀ {cs:List C} {ys:List V} (o:Nat),FrCs cs ys→∃ xs,toVs l o cs=some xs∧∀ H,layCs true H xs=some (xs.map .v,H)
 | [],[],_,_=>⟨[],rfl,fun _=>rfl⟩
 | c::cs,y::ys,o,⟨h1,h2⟩=>by
  obtain ⟨xs,q1,q2⟩:=FrCs.vals (l:=l) (o+1) h2
  have hc:∃ x,toV l o c=some x∧∀ H,layC true H x=some (.v x,H):=by
   rcases h1 with ⟨rfl,hs⟩ | ⟨s,n,k,ws,rfl,_,rfl⟩
   ·exact ⟨y,rfl,fun H=>hs.lay true H⟩
   ·exact ⟨_,rfl,fun H=>by simp [layC,Loc.hop]⟩
  obtain ⟨x,e1,e2⟩:=hc
  refine ⟨x::xs,by simp only [toVs,e1,Option.bind_some,q1],fun H=>?_⟩
  simp only [layCs,e2,Option.bind_some,q2,List.map_cons]
 | [],_::_,_,h=>by cases h
 | _::_,[],_,h=>by cases h
section
variable {N:Nat} {h0 Hp:H} {B:List Rt} {Γ:List (Nat×Stamp×List C)} {Δ:List Gw}
theorem Fm.cpV (S:Fm N h0 B Γ Δ Hp) {i d n:Nat} {s:Stamp} {cs:List C} {ys:List V} (hi:Γ[i]?=some (d,s,cs)) (hy:FrCs cs ys) (hn:ys.length=n) :
  ∃ xs,toVs ⟨h0.length,d,0,s,[]⟩ 0 cs=some xs∧xs.length=n∧ldO true n Hp (.ref ⟨h0.length,d,0,s,[]⟩ 0)=some (.agg xs)∧∀ H,layCs true H xs=some (xs.map .v,H):=by
 have ha:=S.atG hi
 have hlen:=hy.len
 obtain ⟨xs,e1,e2⟩:=hy.vals (l:=⟨h0.length,d,0,s,[]⟩) 0
 refine ⟨xs,e1,by rw [z9z e1];omega,?_,e2⟩
 have:=ha.ldAgg (j:=0) (n:=n) (agg:=true) (xs:=xs) (by omega) (by rw [List.drop_zero,List.take_of_length_le (by omega)];exact e1)
 simpa [mkV] using this
theorem Fm.frzX (S:Fm N h0 B Γ Δ Hp) {i d:Nat} {s:Stamp} {cs:List C} {ys xs:List V} (hi:Γ[i]?=some (d,s,cs)) (hf:(freeG (Γ.eraseIdx i) d&&freeD Δ d)=true) (hy:FrCs cs ys) (hx:toVs ⟨h0.length,d,0,s,[]⟩ 0 cs=some xs) :
  ∃ H',(∀ frz τ,expF frz τ Hp (.agg xs)=some (.v (.agg ys),H'))∧layCs false Hp xs=some (ys.map .v,H')∧Fm N h0 B (Γ.set i (d,s,ys.map .v)) Δ H':=by
 have ha:=S.atG hi
 have hl:(⟨h0.length,d,0,s,[]⟩:Loc).lvl=top Hp:=by simp [top,S.len]
 have hlen:=hy.len
 obtain ⟨zs,e1,e2,e3⟩:=zlb (pre:=[]) hl (by simpa using ha) hy
 have e1':toVs ⟨h0.length,d,0,s,[]⟩ 0 cs=some zs:=e1
 rw [hx] at e1'
 obtain rfl:=Option.some.inj e1'
 refine ⟨_,fun frz τ=>?_,e3,by simpa using S.setG (cs':=ys.map .v) hi hf (by simp [hlen])⟩
 cases frz<;>simp [expF,expC,e2]
theorem AtC.ldX {h:H} {l:Loc} {off:Nat} {xs:List V} {n:Nat} (ha:AtC h l off (xs.map .v)) (hn:xs.length=n) (hp:0<n):ldO true n h (.ref l off)=some (.agg xs):=by
 have:=ha.ldVs (j:=0) (xs:=xs) (n:=n) hn (by rw [List.drop_zero,List.take_of_length_le (by simp [hn])]) hp
 simpa using this
theorem Fm.stX (S:Fm N h0 B Γ Δ Hp) {i d n:Nat} {s σ:Stamp} {xs:List V} {cs:List C} (hi:Γ[i]?=some (d,s,cs)) (hf:(freeG (Γ.eraseIdx i) d&&freeD Δ d)=true) (e:∀ H,layCs true H xs=some (xs.map .v,H)) (hn:xs.length=n) (hc:cs.length=n) :
  ∃ H',stO true n σ Hp (.ref ⟨h0.length,d,0,s,[]⟩ 0) (.agg xs)=some H'∧Fm N h0 B (Γ.set i (d,s,xs.map .v)) Δ H':=by
 obtain ⟨H',e1,S1⟩:=S.stGw (σ:=σ) (j:=0) (n:=n) hi hf (e Hp) hn (by simp [hc])
 refine ⟨H',e1,?_⟩
 rw [List.take_zero,List.nil_append,Nat.zero_add,List.drop_of_length_le (by omega),List.append_nil] at S1
 exact S1
end
end Go.Ev
namespace Go.Ev
section
variable {α β γ δ:Type} {x:Option β} {Q:β→α→Prop} {K:δ→Option α}
theorem Sim.asF {A B:Option γ} {g:γ→Option δ} (s:Sim x (B.bind fun v=>(g v).bind K) Q):Sim x (((bif false then A else B).bind g).bind K) Q:=Sim.as s
end
end Go.Ev
namespace Go.Ev
set_option linter.unusedVariables false
structure z7 where
 Rid:ByteArray
 Ssrc:Int
 Height:Int
def z7.tp (x:z7):(ByteArray×(Int×(Int×Unit))):=(x.Rid,(x.Ssrc,(x.Height,())))
def zb:Dt z7:=(dP dS (dP (dI .u32) (dP (dI .i64) dU))).via z7.tp
theorem zb.inv {x:z7} {vs:List V} (h:zb.R x vs):vs=[.p (.string x.Rid),.p (.int .u32 x.Ssrc),.p (.int .i64 x.Height)]:=by
 obtain ⟨u0,w0,e0,h0,u1,w1,e1,h1,u2,w2,e2,h2,hend⟩:=h
 obtain rfl:u0=[.p (.string x.Rid)]:=h0
 obtain rfl:u1=[.p (.int .u32 x.Ssrc)]:=h1
 obtain rfl:u2=[.p (.int .i64 x.Height)]:=h2
 obtain rfl:=(show _=[] from hend)
 subst e2
 subst e1
 subst e0
 rfl
theorem zb.mk {y_Rid:ByteArray} {y_Ssrc:Int} {y_Height:Int} :zb.R (⟨y_Rid,y_Ssrc,y_Height⟩:z7) [.p (.string y_Rid),.p (.int .u32 y_Ssrc),.p (.int .i64 y_Height)]:=⟨[.p (.string y_Rid)],[.p (.int .u32 y_Ssrc),.p (.int .i64 y_Height)],rfl,rfl,⟨[.p (.int .u32 y_Ssrc)],[.p (.int .i64 y_Height)],rfl,rfl,⟨[.p (.int .i64 y_Height)],[],rfl,rfl,rfl⟩⟩⟩
structure TzTape where
 f_L:(List Int)
 f_At:Int
def TzTape.tp (x:TzTape):((List Int)×(Int×Unit)):=(x.f_L,(x.f_At,()))
def z3s:Dt TzTape:=(dP (dSl (dI .i64)) (dP (dI .i64) dU)).via TzTape.tp
theorem z3s.inv {x:TzTape} {vs:List V} (h:z3s.R x vs):∃ v0,vs=[v0,.p (.int .i64 x.f_At)]∧SlF (dI .i64) x.f_L v0:=by
 obtain ⟨u0,w0,e0,h0,u1,w1,e1,h1,hend⟩:=h
 obtain ⟨v0,rfl,s0⟩:=h0
 obtain rfl:u1=[.p (.int .i64 x.f_At)]:=h1
 obtain rfl:=(show _=[] from hend)
 subst e1
 subst e0
 exact ⟨v0,rfl,s0⟩
theorem z3s.mk {y_f_L:(List Int)} {y_f_At:Int} {v0:V} (s0:SlF (dI .i64) y_f_L v0):z3s.R (⟨y_f_L,y_f_At⟩:TzTape) [v0,.p (.int .i64 y_f_At)]:=⟨[v0],[.p (.int .i64 y_f_At)],rfl,⟨v0,rfl,s0⟩,⟨[.p (.int .i64 y_f_At)],[],rfl,rfl,rfl⟩⟩
structure TaiRtp where
 Marker:Bool
 f_Type:Int
 Seq:Int
 Time:Int
 Ssrc:Int
 Csrc:(List Int)
 Profile:Int
 Ext:(List Int)
 Payload:(List Int)
def TaiRtp.tp (x:TaiRtp):(Bool×(Int×(Int×(Int×(Int×((List Int)×(Int×((List Int)×((List Int)×Unit))))))))):=(x.Marker,(x.f_Type,(x.Seq,(x.Time,(x.Ssrc,(x.Csrc,(x.Profile,(x.Ext,(x.Payload,())))))))))
def z9:Dt TaiRtp:=(dP dB (dP (dI .i64) (dP (dI .u16) (dP (dI .u32) (dP (dI .u32) (dP (dSl (dI .u32)) (dP (dI .u16) (dP (dSl (dI .u8)) (dP (dSl (dI .u8)) dU))))))))).via TaiRtp.tp
theorem z9.inv {x:TaiRtp} {vs:List V} (h:z9.R x vs):∃ v5 v7 v8,vs=[.p (.bool x.Marker),.p (.int .i64 x.f_Type),.p (.int .u16 x.Seq),.p (.int .u32 x.Time),.p (.int .u32 x.Ssrc),v5,.p (.int .u16 x.Profile),v7,v8]∧SlF (dI .u32) x.Csrc v5∧SlF (dI .u8) x.Ext v7∧SlF (dI .u8) x.Payload v8:=by
 obtain ⟨u0,w0,e0,h0,u1,w1,e1,h1,u2,w2,e2,h2,u3,w3,e3,h3,u4,w4,e4,h4,u5,w5,e5,h5,u6,w6,e6,h6,u7,w7,e7,h7,u8,w8,e8,h8,hend⟩:=h
 obtain rfl:u0=[.p (.bool x.Marker)]:=h0
 obtain rfl:u1=[.p (.int .i64 x.f_Type)]:=h1
 obtain rfl:u2=[.p (.int .u16 x.Seq)]:=h2
 obtain rfl:u3=[.p (.int .u32 x.Time)]:=h3
 obtain rfl:u4=[.p (.int .u32 x.Ssrc)]:=h4
 obtain ⟨v5,rfl,s5⟩:=h5
 obtain rfl:u6=[.p (.int .u16 x.Profile)]:=h6
 obtain ⟨v7,rfl,s7⟩:=h7
 obtain ⟨v8,rfl,s8⟩:=h8
 obtain rfl:=(show _=[] from hend)
 subst e8
 subst e7
 subst e6
 subst e5
 subst e4
 subst e3
 subst e2
 subst e1
 subst e0
 exact ⟨v5,v7,v8,rfl,s5,s7,s8⟩
theorem z9.mk {y_Marker:Bool} {y_f_Type:Int} {y_Seq:Int} {y_Time:Int} {y_Ssrc:Int} {y_Csrc:(List Int)} {y_Profile:Int} {y_Ext:(List Int)} {y_Payload:(List Int)} {v5:V} {v7:V} {v8:V} (s5:SlF (dI .u32) y_Csrc v5) (s7:SlF (dI .u8) y_Ext v7) (s8:SlF (dI .u8) y_Payload v8):z9.R (⟨y_Marker,y_f_Type,y_Seq,y_Time,y_Ssrc,y_Csrc,y_Profile,y_Ext,y_Payload⟩:TaiRtp) [.p (.bool y_Marker),.p (.int .i64 y_f_Type),.p (.int .u16 y_Seq),.p (.int .u32 y_Time),.p (.int .u32 y_Ssrc),v5,.p (.int .u16 y_Profile),v7,v8]:=⟨[.p (.bool y_Marker)],[.p (.int .i64 y_f_Type),.p (.int .u16 y_Seq),.p (.int .u32 y_Time),.p (.int .u32 y_Ssrc),v5,.p (.int .u16 y_Profile),v7,v8],rfl,rfl,⟨[.p (.int .i64 y_f_Type)],[.p (.int .u16 y_Seq),.p (.int .u32 y_Time),.p (.int .u32 y_Ssrc),v5,.p (.int .u16 y_Profile),v7,v8],rfl,rfl,⟨[.p (.int .u16 y_Seq)],[.p (.int .u32 y_Time),.p (.int .u32 y_Ssrc),v5,.p (.int .u16 y_Profile),v7,v8],rfl,rfl,⟨[.p (.int .u32 y_Time)],[.p (.int .u32 y_Ssrc),v5,.p (.int .u16 y_Profile),v7,v8],rfl,rfl,⟨[.p (.int .u32 y_Ssrc)],[v5,.p (.int .u16 y_Profile),v7,v8],rfl,rfl,⟨[v5],[.p (.int .u16 y_Profile),v7,v8],rfl,⟨v5,rfl,s5⟩,⟨[.p (.int .u16 y_Profile)],[v7,v8],rfl,rfl,⟨[v7],[v8],rfl,⟨v7,rfl,s7⟩,⟨[v8],[],rfl,⟨v8,rfl,s8⟩,rfl⟩⟩⟩⟩⟩⟩⟩⟩⟩
structure z5 where
 Class:Int
 Costs:(List Int)
 Goods:(List Int)
def z5.tp (x:z5):(Int×((List Int)×((List Int)×Unit))):=(x.Class,(x.Costs,(x.Goods,())))
def z4:Dt z5:=(dP (dI .i64) (dP (dSl (dI .i64)) (dP (dSl (dI .i64)) dU))).via z5.tp
theorem z4.inv {x:z5} {vs:List V} (h:z4.R x vs):∃ v1 v2,vs=[.p (.int .i64 x.Class),v1,v2]∧SlF (dI .i64) x.Costs v1∧SlF (dI .i64) x.Goods v2:=by
 obtain ⟨u0,w0,e0,h0,u1,w1,e1,h1,u2,w2,e2,h2,hend⟩:=h
 obtain rfl:u0=[.p (.int .i64 x.Class)]:=h0
 obtain ⟨v1,rfl,s1⟩:=h1
 obtain ⟨v2,rfl,s2⟩:=h2
 obtain rfl:=(show _=[] from hend)
 subst e2
 subst e1
 subst e0
 exact ⟨v1,v2,rfl,s1,s2⟩
theorem z4.mk {y_Class:Int} {y_Costs:(List Int)} {y_Goods:(List Int)} {v1:V} {v2:V} (s1:SlF (dI .i64) y_Costs v1) (s2:SlF (dI .i64) y_Goods v2):z4.R (⟨y_Class,y_Costs,y_Goods⟩:z5) [.p (.int .i64 y_Class),v1,v2]:=⟨[.p (.int .i64 y_Class)],[v1,v2],rfl,rfl,⟨[v1],[v2],rfl,⟨v1,rfl,s1⟩,⟨[v2],[],rfl,⟨v2,rfl,s2⟩,rfl⟩⟩⟩
structure z1b where
 first:Int
 last:Int
 count:Int
 mask:Int
def z1b.tp (x:z1b):(Int×(Int×(Int×(Int×Unit)))):=(x.first,(x.last,(x.count,(x.mask,()))))
structure z6 where
 slots:(List Int)
 last:Int
 total:Int
def z6.tp (x:z6):((List Int)×(Int×(Int×Unit))):=(x.slots,(x.last,(x.total,())))
structure z18 where
 told:z7
 seen:z1b
 meter:z6
 came:Bool
 f_until:Int
 resting:Bool
 woken:Bool
 kept:Int
structure z8 where
 l:(List z18)
structure z23 where
 ID:Int
 Data:(List Int)
def z23.tp (x:z23):(Int×((List Int)×Unit)):=(x.ID,(x.Data,()))
def z3e:Dt z23:=(dP (dI .i64) (dP (dSl (dI .u8)) dU)).via z23.tp
theorem z3e.inv {x:z23} {vs:List V} (h:z3e.R x vs):∃ v1,vs=[.p (.int .i64 x.ID),v1]∧SlF (dI .u8) x.Data v1:=by
 obtain ⟨u0,w0,e0,h0,u1,w1,e1,h1,hend⟩:=h
 obtain rfl:u0=[.p (.int .i64 x.ID)]:=h0
 obtain ⟨v1,rfl,s1⟩:=h1
 obtain rfl:=(show _=[] from hend)
 subst e1
 subst e0
 exact ⟨v1,rfl,s1⟩
theorem z3e.mk {y_ID:Int} {y_Data:(List Int)} {v1:V} (s1:SlF (dI .u8) y_Data v1):z3e.R (⟨y_ID,y_Data⟩:z23) [.p (.int .i64 y_ID),v1]:=⟨[.p (.int .i64 y_ID)],[v1],rfl,rfl,⟨[v1],[],rfl,⟨v1,rfl,s1⟩,rfl⟩⟩
structure za where
 l:(List z5)
 now:(List Int)
 best:(List Int)
 good:(List Int)
 cost:Int
def za.tp (x:za):((List z5)×((List Int)×((List Int)×((List Int)×(Int×Unit))))):=(x.l,(x.now,(x.best,(x.good,(x.cost,())))))
def zg:Ct z18:=⟨10,fun x cs=>∃ (se_3:Stamp),∃ (se_4:Stamp),cs=[.v (.p (.string x.told.Rid)),.v (.p (.int .u32 x.told.Ssrc)),.v (.p (.int .i64 x.told.Height)),.own se_3 (List.map C.v [(.p (.int .i64 x.seen.first)),(.p (.int .i64 x.seen.last)),(.p (.int .i64 x.seen.count)),(.p (.int .u64 x.seen.mask))]),.own se_4 (List.map C.v [(.p (.int .i64 ((x.meter.slots.getD 0 0)))),(.p (.int .i64 ((x.meter.slots.getD 1 0)))),(.p (.int .i64 ((x.meter.slots.getD 2 0)))),(.p (.int .i64 ((x.meter.slots.getD 3 0)))),(.p (.int .i64 ((x.meter.slots.getD 4 0)))),(.p (.int .i64 x.meter.last)),(.p (.int .i64 x.meter.total))]),.v (.p (.bool x.came)),.v (.p (.int .i64 x.f_until)),.v (.p (.bool x.resting)),.v (.p (.bool x.woken)),.v (.p (.int .i64 x.kept))],fun h=>by obtain ⟨se_3,se_4,h0⟩:=h;subst h0;rfl⟩
end Go.Ev
namespace Go.RidX
open Go.Ev (runes z5b z68 z4n z33 itAt z67 z65 V)
open Go.Proofs Go.Proofs.Ytceljnchfgimbaa
open Go.RowKit (Below wrap64 Hid)
set_option maxRecDepth 1000000
set_option maxHeartbeats 2000000
set_option linter.unusedSimpArgs false
set_option linter.unusedVariables false
def isRid (r:Int):Bool:=(decide (r≥97)&&decide (r≤122))||(decide (r≥65)&&decide (r≤90))||(decide (r≥48)&&decide (r≤57))||(r==45)||(r==95)
theorem zh6 (n:Int):wrap64 (wrap64 n+1)=wrap64 (n+1):=by
 simp only [wrap64]
 omega
def rightB (s:ByteArray):Bool:=(runes s 0).all isRid&&(decide (1≤wrap64 (runes s 0).length)&&decide (wrap64 (runes s 0).length≤8))
def countN (s:ByteArray):Int:=wrap64 (runes s 0).length
theorem zok (c:Int) (w:World):Calls Try.prog 162 #[.int .i32 c] w fun e w'=>e=.returned (.bool (isRid c))∧w'=w:=by
 go_enter Try.func162,Try.ntmps162
 go_wp2
 all_goals
  go_ret
  refine ⟨?_,rfl⟩
  simp only [Ending.returned.injEq,Value.bool.injEq,isRid]
  simp [*]
  try grind
theorem rid_Right (s:ByteArray) (w:World):Calls Try.prog 129 #[.string s] w fun e w'=>e=.returned (.bool (rightB s))∧Below w.heap.size w w':=by
 go_enter Try.func129,Try.ntmps129
 go_wp2
 go_loopw [3] (fun n wr=>∃ (pos:Nat) (pre:List Int) (c:Int),wr.heap[w.heap.size]?=some (.stringIter s pos)∧Below w.heap.size w wr∧n=.int .i64 c∧c=wrap64 (pre.length:Int)∧pre.all isRid=true∧runes s 0=pre++runes s pos) (fun _ wr=>s.size-wr.iterPos w.heap.size)
 case atStart=>exact ⟨0,[],0,by simp [World.iter_heap],(Below.refl _ w).alloc (Nat.le_refl _) _,rfl,by simp [wrap64],rfl,rfl⟩
 case round =>
  obtain ⟨pos,pre,c,hk,hb,rfl,hc,hall,hrs⟩:=hrel
  by_cases hp:pos<s.size
  ·have hnx:∀ ty,(Instr.next (.pointer (some ⟨w.heap.size,0,none⟩)) true ty).run Try.prog wr=_:=fun ty=>z4n hk ty hp
   have hk1:=z67 (pos:=pos+(Utf8.decode s pos).2) hk
   have hb1:Below w.heap.size w (itAt wr w.heap.size s (pos+(Utf8.decode s pos).2)):=hb.trans (Go.Ev.Below.setIter (Nat.le_refl _))
   have hwd:=z65 s pos hp
   have hmu:wr.iterPos w.heap.size=pos:=by simp [World.iterPos,hk]
   have hmu2:(itAt wr w.heap.size s (pos+(Utf8.decode s pos).2)).iterPos w.heap.size=pos+(Utf8.decode s pos).2:=by simp [World.iterPos,hk1]
   rw [z5b hp] at hrs
   have k1:∀ {b:Bool},isRid ↑(Utf8.decode s pos).fst=b→b=false→(runes s 0).all isRid=false:=fun e1 e2=>by
    rw [hrs,List.all_append,List.all_cons,e1,e2]
    simp
   have k2:∀ {b:Bool},isRid ↑(Utf8.decode s pos).fst=b→b=true→(pre++[((Utf8.decode s pos).1:Int)]).all isRid=true:=fun e1 e2=>by
    rw [List.all_append,List.all_cons,e1,e2,hall]
    rfl
   have k3:Hid (wrap64 (c+1)=wrap64 ((pre++[((Utf8.decode s pos).1:Int)]).length:Int)):=by
    unfold Hid
    rw [hc,zh6,List.length_append];rfl
   have k4:Hid (runes s 0=(pre++[((Utf8.decode s pos).1:Int)])++runes s (pos+(Utf8.decode s pos).2)):=by unfold Hid;rw [hrs];simp
   clear hrs hall hc
   go_wp2_with (go_at_call 162;refine (zok _ _).mono ?_;rintro e W2 ⟨rfl,rfl⟩)
   ·rename_i hone
    have k5:rightB s=false:=by unfold rightB;rw [k1 rfl (by simpa using hone)];rfl
    clear hone k1 k2 k3 k4
    go_ret
    rw [k5]
    exact ⟨rfl,hb1⟩
   ·rename_i hone
    have k5:=k2 rfl (by simpa using hone)
    clear hone k1 k2
    go_roundw
    case rel=>exact ⟨_,pre++[((Utf8.decode s pos).1:Int)],_,hk1,hb1,rfl,k3.out,k5,k4.out⟩
    case measure =>
     rw [hmu,hmu2]
     omega
  ·have hnx:∀ ty,(Instr.next (.pointer (some ⟨w.heap.size,0,none⟩)) true ty).run Try.prog wr=_:=fun ty=>z33 hk ty hp
   rw [z68 hp,List.append_nil] at hrs
   have k1:∀ {b:Bool},decide (c≤8)=b→1≤c→rightB s=b:=fun e1 e2=>by
    unfold rightB
    rw [hrs,hall,← hc,e1];simp [e2]
   have k2:c<1→rightB s=false:=fun e2=>by
    unfold rightB
    rw [hrs,hall,← hc];simp;omega
   clear hrs hall hc
   go_wp2
   ·rename_i h1
    have k5:=k1 rfl h1
    go_ret
    rw [k5]
    exact ⟨rfl,hb⟩
   ·rename_i h1
    have k5:=k2 (by omega)
    go_ret
    exact ⟨rfl,hb⟩
theorem ref_Count (s:ByteArray) (w:World):Calls Try.prog 181 #[.string s] w fun e w'=>e=.returned (.int .i64 (countN s))∧Below w.heap.size w w':=by
 go_enter Try.func181,Try.ntmps181
 go_wp2
 go_loopw [3] (fun n wr=>∃ (pos:Nat) (pre:List Int) (c:Int),wr.heap[w.heap.size]?=some (.stringIter s pos)∧Below w.heap.size w wr∧n=.int .i64 c∧c=wrap64 (pre.length:Int)∧runes s 0=pre++runes s pos) (fun _ wr=>s.size-wr.iterPos w.heap.size)
 case atStart=>exact ⟨0,[],0,by simp [World.iter_heap],(Below.refl _ w).alloc (Nat.le_refl _) _,rfl,by simp [wrap64],rfl⟩
 case round =>
  obtain ⟨pos,pre,c,hk,hb,rfl,hc,hrs⟩:=hrel
  by_cases hp:pos<s.size
  ·have hnx:∀ ty,(Instr.next (.pointer (some ⟨w.heap.size,0,none⟩)) true ty).run Try.prog wr=_:=fun ty=>z4n hk ty hp
   have hk1:=z67 (pos:=pos+(Utf8.decode s pos).2) hk
   have hb1:Below w.heap.size w (itAt wr w.heap.size s (pos+(Utf8.decode s pos).2)):=hb.trans (Go.Ev.Below.setIter (Nat.le_refl _))
   have hwd:=z65 s pos hp
   have hmu:wr.iterPos w.heap.size=pos:=by simp [World.iterPos,hk]
   have hmu2:(itAt wr w.heap.size s (pos+(Utf8.decode s pos).2)).iterPos w.heap.size=pos+(Utf8.decode s pos).2:=by simp [World.iterPos,hk1]
   rw [z5b hp] at hrs
   have k3:Hid (wrap64 (c+1)=wrap64 ((pre++[((Utf8.decode s pos).1:Int)]).length:Int)):=by
    unfold Hid
    rw [hc,zh6,List.length_append];rfl
   have k4:Hid (runes s 0=(pre++[((Utf8.decode s pos).1:Int)])++runes s (pos+(Utf8.decode s pos).2)):=by unfold Hid;rw [hrs];simp
   clear hrs hc
   go_wp2
   go_roundw
   case rel=>exact ⟨_,pre++[((Utf8.decode s pos).1:Int)],_,hk1,hb1,rfl,k3.out,k4.out⟩
   case measure =>
    rw [hmu,hmu2]
    omega
  ·have hnx:∀ ty,(Instr.next (.pointer (some ⟨w.heap.size,0,none⟩)) true ty).run Try.prog wr=_:=fun ty=>z33 hk ty hp
   rw [z68 hp,List.append_nil] at hrs
   have k1:Hid (countN s=c):=by unfold Hid countN;rw [hrs,hc]
   clear hrs hc
   go_wp2
   go_ret
   rw [k1.out]
   exact ⟨rfl,hb⟩
theorem zlp (s:ByteArray) (w:World) {n:Int} (hn:countN s=n):Calls Try.prog 181 #[.string s] w fun e w'=>e=.returned (.int .i64 n)∧Below w.heap.size w w':=by
 subst hn;exact ref_Count s w
theorem zlh (c:Int) (w:World):Calls Try.prog 180 #[.int .i32 c] w fun e w'=>e=.returned (.bool (isRid c))∧w'=w:=by
 go_enter Try.func180,Try.ntmps180
 go_wp2
 all_goals
  go_ret
  refine ⟨?_,rfl⟩
  simp only [Ending.returned.injEq,Value.bool.injEq,isRid]
  simp [*]
  try grind
theorem ref_Rid (s:ByteArray) (w:World):Calls Try.prog 174 #[.string s] w fun e w'=>e=.returned (.bool (rightB s))∧Below w.heap.size w w':=by
 go_enter Try.func174,Try.ntmps174
 go_wp2
 go_loopw [] (fun  wr=>∃ (pos:Nat) (pre:List Int),wr.heap[w.heap.size]?=some (.stringIter s pos)∧Below w.heap.size w wr∧pre.all isRid=true∧runes s 0=pre++runes s pos) (fun  wr=>s.size-wr.iterPos w.heap.size)
 case atStart=>exact ⟨0,[],by simp [World.iter_heap],(Below.refl _ w).alloc (Nat.le_refl _) _,rfl,rfl⟩
 case round =>
  obtain ⟨pos,pre,hk,hb,hall,hrs⟩:=hrel
  by_cases hp:pos<s.size
  ·have hnx:∀ ty,(Instr.next (.pointer (some ⟨w.heap.size,0,none⟩)) true ty).run Try.prog wr=_:=fun ty=>z4n hk ty hp
   have hk1:=z67 (pos:=pos+(Utf8.decode s pos).2) hk
   have hb1:Below w.heap.size w (itAt wr w.heap.size s (pos+(Utf8.decode s pos).2)):=hb.trans (Go.Ev.Below.setIter (Nat.le_refl _))
   have hwd:=z65 s pos hp
   have hmu:wr.iterPos w.heap.size=pos:=by simp [World.iterPos,hk]
   have hmu2:(itAt wr w.heap.size s (pos+(Utf8.decode s pos).2)).iterPos w.heap.size=pos+(Utf8.decode s pos).2:=by simp [World.iterPos,hk1]
   rw [z5b hp] at hrs
   have k1:∀ {b:Bool},isRid ↑(Utf8.decode s pos).fst=b→b=false→(runes s 0).all isRid=false:=fun e1 e2=>by
    rw [hrs,List.all_append,List.all_cons,e1,e2]
    simp
   have k2:∀ {b:Bool},isRid ↑(Utf8.decode s pos).fst=b→b=true→(pre++[((Utf8.decode s pos).1:Int)]).all isRid=true:=fun e1 e2=>by
    rw [List.all_append,List.all_cons,e1,e2,hall]
    rfl
   have k4:Hid (runes s 0=(pre++[((Utf8.decode s pos).1:Int)])++runes s (pos+(Utf8.decode s pos).2)):=by unfold Hid;rw [hrs];simp
   clear hrs hall
   go_wp2_with (go_at_call 180;refine (zlh _ _).mono ?_;rintro e W2 ⟨rfl,rfl⟩)
   ·rename_i hone
    have k5:rightB s=false:=by unfold rightB;rw [k1 rfl (by simpa using hone)];rfl
    clear hone k1 k2 k4
    go_ret
    rw [k5]
    exact ⟨rfl,hb1⟩
   ·rename_i hone
    have k5:=k2 rfl (by simpa using hone)
    clear hone k1 k2
    go_roundw
    case rel=>exact ⟨_,pre++[((Utf8.decode s pos).1:Int)],hk1,hb1,k5,k4.out⟩
    case measure =>
     rw [hmu,hmu2]
     omega
  ·have hnx:∀ ty,(Instr.next (.pointer (some ⟨w.heap.size,0,none⟩)) true ty).run Try.prog wr=_:=fun ty=>z33 hk ty hp
   rw [z68 hp,List.append_nil] at hrs
   obtain ⟨n,hn⟩:∃ n,countN s=n:=⟨_,rfl⟩
   have k1:∀ {b:Bool},decide (n≤8)=b→1≤n→rightB s=b:=fun e1 e2=>by
    unfold rightB
    rw [hrs,hall,← hrs,show wrap64 ((runes s 0).length:Int)=n from hn,e1];simp [e2]
   have k2:n<1→rightB s=false:=fun e2=>by
    unfold rightB
    rw [hrs,hall,← hrs,show wrap64 ((runes s 0).length:Int)=n from hn];simp;omega
   have hn':Hid (countN s=n):=hn
   clear hrs hall hn
   go_wp2_with (go_at_call 181;refine (zlp _ _ hn'.out).mono ?_;rintro e W2 ⟨rfl,hB⟩)
   ·rename_i hB0 h1
    have k5:=k1 rfl h1
    go_ret
    rw [k5]
    exact ⟨rfl,hb.trans ((hB0.mono hb.size).trans (hB.mono (Nat.le_trans hb.size hB0.size)))⟩
   ·rename_i h1
    have k5:=k2 (by omega)
    go_ret
    exact ⟨rfl,hb.trans (hB.mono hb.size)⟩
def lowR (r:Int):Int:=if 65≤r∧r≤90 then r+32 else r
def foldS (l:List Int):ByteArray:=l.foldl (fun a r=>a++Utf8.encode (lowR r)) ByteArray.empty
theorem zlw (l:List Int) (r:Int):foldS (l++[r])=foldS l++Utf8.encode (lowR r):=by simp [foldS]
theorem enc_le (r:Int):(Utf8.encode r).size≤4:=by
 simp only [Utf8.encode]
 generalize (if Utf8.valid r=true then r.toNat else Utf8.runeError)=c
 split
 ·simp [ByteArray.size]
 ·split
  ·simp [ByteArray.size]
  ·split<;>simp [ByteArray.size]
theorem zkw (s:ByteArray) (pos:Nat):(Utf8.decode s pos).2≤4:=by
 simp only [Utf8.decode]
 repeat' split
 all_goals simp
def foldB (s:ByteArray):ByteArray:=foldS (runes s 0)
theorem ref_Fold (s:ByteArray) (hs:s.size<2^40) (w:World):Calls Try.prog 175 #[.string s] w fun e w'=>e=.returned (.string (foldB s))∧Below w.heap.size w w':=by
 go_enter Try.func175,Try.ntmps175
 go_wp2
 go_loopw [3] (fun n wr=>∃ (pos:Nat) (pre:List Int) (c:ByteArray),wr.heap[w.heap.size]?=some (.stringIter s pos)∧Below w.heap.size w wr∧n=.string c∧c=foldS pre∧c.size≤4*pre.length∧pre.length≤pos∧pos≤s.size+3∧runes s 0=pre++runes s pos) (fun _ wr=>s.size-wr.iterPos w.heap.size)
 case atStart=>exact ⟨0,[],ByteArray.empty,by simp [World.iter_heap],(Below.refl _ w).alloc (Nat.le_refl _) _,rfl,rfl,by simp,by simp,by simp,rfl⟩
 case round =>
  obtain ⟨pos,pre,c,hk,hb,rfl,hc,hsz,hpl,hps,hrs⟩:=hrel
  by_cases hp:pos<s.size
  ·have hnx:∀ ty,(Instr.next (.pointer (some ⟨w.heap.size,0,none⟩)) true ty).run Try.prog wr=_:=fun ty=>z4n hk ty hp
   have hk1:=z67 (pos:=pos+(Utf8.decode s pos).2) hk
   have hb1:Below w.heap.size w (itAt wr w.heap.size s (pos+(Utf8.decode s pos).2)):=hb.trans (Go.Ev.Below.setIter (Nat.le_refl _))
   have hwd:=z65 s pos hp
   have hmu:wr.iterPos w.heap.size=pos:=by simp [World.iterPos,hk]
   have hmu2:(itAt wr w.heap.size s (pos+(Utf8.decode s pos).2)).iterPos w.heap.size=pos+(Utf8.decode s pos).2:=by simp [World.iterPos,hk1]
   rw [z5b hp] at hrs
   have hw4:=zkw s pos
   obtain ⟨r,hr⟩:∃ r:Int,r=((Utf8.decode s pos).1:Int):=⟨_,rfl⟩
   rw [← hr] at hnx hrs
   have k4:Hid (runes s 0=(pre++[r])++runes s (pos+(Utf8.decode s pos).2)):=by unfold Hid;rw [hrs];simp
   have k5:∀ {x:Int},9223372036854775807<c.size+(Utf8.encode x).size→False:=fun {x} h=>by
    have:=enc_le x;omega
   have k7:∀ {x:Int},x=lowR r→Hid (c++Utf8.encode x=foldS (pre++[r])∧(c++Utf8.encode x).size≤4*(pre++[r]).length):=fun {x} e=>by
    have:=enc_le x
    refine ⟨by rw [zlw,← hc,e],?_⟩
    rw [ByteArray.size_append,List.length_append]
    simp only [List.length_cons,List.length_nil]
    omega
   have k8:(pre++[r]).length≤pos+(Utf8.decode s pos).2:=by rw [List.length_append];simp only [List.length_cons,List.length_nil];omega
   have k9:pos+(Utf8.decode s pos).2≤s.size+3:=by omega
   clear hrs hc hr
   go_wp2
   ·exact (k5 (by assumption)).elim
   ·have k6:=k7 (x:=r-65+97) (by unfold lowR;rw [if_pos ⟨by assumption,by assumption⟩];omega)
    go_roundw
    case rel=>exact ⟨_,pre++[r],_,hk1,hb1,rfl,k6.out.1,k6.out.2,k8,k9,k4.out⟩
    case measure =>
     rw [hmu,hmu2]
     omega
   ·exact (k5 (by assumption)).elim
   ·rename_i h1 h2 _
    have k6:=k7 (x:=r) (by unfold lowR;rw [if_neg (by omega)])
    go_roundw
    case rel=>exact ⟨_,pre++[r],_,hk1,hb1,rfl,k6.out.1,k6.out.2,k8,k9,k4.out⟩
    case measure =>
     rw [hmu,hmu2]
     omega
   ·exact (k5 (by assumption)).elim
   ·rename_i h1 _
    have k6:=k7 (x:=r) (by unfold lowR;rw [if_neg (by omega)])
    go_roundw
    case rel=>exact ⟨_,pre++[r],_,hk1,hb1,rfl,k6.out.1,k6.out.2,k8,k9,k4.out⟩
    case measure =>
     rw [hmu,hmu2]
     omega
  ·have hnx:∀ ty,(Instr.next (.pointer (some ⟨w.heap.size,0,none⟩)) true ty).run Try.prog wr=_:=fun ty=>z33 hk ty hp
   rw [z68 hp,List.append_nil] at hrs
   have k1:Hid (foldB s=c):=by unfold Hid foldB;rw [hrs,hc]
   clear hrs hc
   go_wp2
   go_ret
   rw [k1.out]
   exact ⟨rfl,hb⟩
theorem app1 {P:Program} {ops:Array Oper} {rest:List Oper} {o:Oper} {a:Act} {Q:Exit→Act→World→Prop} {w1:World} (hgd:o.guard=none) (s x:Operand) (t:TypeId)
  (ho:o.op=.call { callee:=.builtin .append,args:=#[s,x],argTypes:=#[t,t] }) (base:Nat) (e:TypeId) (i:TypeInfo) (ht:P.underlying t=some (.slice e)) (hi:P.info? e=some i) (hz:i.zero=some (.int .i32 0))
  (hsize:i.size=1) (hby:i.bytes=4) {v:Value} (n:Nat) (xs:List Value) (hs:a.eval s=v) (hown:w1.ownsRow base e 1 v n xs) {r:Int} {e':TypeId}
  (hx:a.eval x=.slice (some ⟨w1.heap.size,0,none⟩) 1 1) (hn:n<2^44) (hbase:base≤w1.heap.size)
  (h:∀ v' w',w'.ownsRow base e 1 v' (n+1) (xs++[.int .i32 r])→(w1.alloc (.cells #[.int .i32 r] e')).grownBy w' v.ownBlock→wpList P ops Q rest (a.put o.dst v') w'):wpList P ops Q (o::rest) a (w1.alloc (.cells #[.int .i32 r] e')):=by
 refine wpList_append_own _ hgd s x t ho base e i (.int .i32 0) 1 4 ht hi hz hsize hby rfl (by decide) v n xs hs (hown.alloc _) ⟨w1.heap.size,0,none⟩ 1 1 [.int .i32 r] hx rfl ?_ ?_ (by unfold maxLen;omega) (by omega) ?_ fun v' w' h1 h2 _=>h v' w' h1 h2
 ·intro j u hj;match j,hj with | 0,hj=>simp at hj;subst hj;simp [Addr.add]
 ·intro u hu;simp at hu;subst hu;rfl
 ·exact Nat.le_trans hbase (by show _≤(w1.heap.push _).size;rw [Array.size_push];omega)
theorem zle {w:World} {base e k:Nat} {v:Value} {n:Nat} {xs:List Value} {s:ByteArray} {pos:Nat} (h:w.ownsRow base e 1 v n xs) (hk:k<base):(itAt w k s pos).ownsRow base e 1 v n xs:=by
 obtain ⟨h1,h2 | ⟨g,cap,cur,h2,h3,h4,h5⟩⟩:=h
 ·exact ⟨h1,.inl h2⟩
 ·refine ⟨h1,.inr ⟨g,cap,cur,h2,h3,?_,h5⟩⟩
  simp only [itAt]
  rw [Array.getElem?_setIfInBounds_ne (by omega)];exact h4
theorem zma {P:Program} {w:World} {base e src dst:Nat} {v:Value} {n:Nat} {ns:List Int} (h:w.ownsRow base e 1 v n (ns.map (Value.int .i32))) (hs:P.underlying src=some (.slice e)) (he:P.underlying e=some (.int .i32)) (hd:P.underlying dst=some .string) :
  (convert src dst v).run P w=.ok (.string (runesBytes ns)) w:=by
 have h0:=h
 obtain ⟨h1,⟨rfl,rfl⟩ | ⟨g,cap,cur,rfl,h3,h4,h5,h6,h7,h8⟩⟩:=h
 ·have:ns=[]:=by simpa using h1
  subst this
  exact run_convert_runes_nil w src dst e 0 0 hs he hd
 ·have hl:n=ns.length:=by simpa using h1.symm
  subst hl
  have:=run_convert_runes (P:=P) w src dst e ⟨g,0,none⟩ ns.length cap ns (Nat.le_refl _) hs he hd (fun j hj=>h0.cells (g:=g) rfl j _ (by simp [List.getD,List.getElem?_eq_getElem hj]))
  rw [List.take_of_length_le (Nat.le_refl _)] at this
  exact this
theorem zki (l:List Int):runesBytes (l.map lowR)=foldS l:=by
 unfold runesBytes foldS;rw [List.foldl_map]
theorem zcz {w W1 w':World} {s:ByteArray} {pos e:Nat} {v:Value} {n:Nat} {xs:List Value} {o:Obj} (hk1:W1.heap[w.heap.size]?=some (.stringIter s pos)) (hb1:Below w.heap.size w W1) (how1:W1.ownsRow (w.heap.size+1) e 1 v n xs)
  (hg:(W1.alloc o).grownBy w' v.ownBlock):w'.heap[w.heap.size]?=some (.stringIter s pos)∧Below w.heap.size w w':=by
 have hlt:=(Array.getElem?_eq_some_iff.1 hk1).1
 have hsz:(W1.alloc o).heap.size=W1.heap.size+1:=by show (W1.heap.push o).size=_;simp
 refine ⟨?_,(hb1.alloc hb1.size o).grown hg (by have:=hb1.size;omega) fun k hk=>?_⟩
 ·rw [hg.block _ (by omega) (fun e=>by have:=(how1.lt _ e.symm).1;omega),Below.heap_alloc _ _ _ hlt]
  exact hk1
 ·have:=(how1.lt _ hk).1;omega
theorem ze7 (pre:List Int) (r x:Int) (h:x=lowR r):(pre.map lowR).map (Value.int .i32)++[Value.int .i32 x]=((pre++[r]).map lowR).map (Value.int .i32):=by
 subst h;simp
theorem rid_Fold (s:ByteArray) (hs:s.size<2^40) (w:World):Calls Try.prog 164 #[.string s] w fun e w'=>e=.returned (.string (foldB s))∧Below w.heap.size w w':=by
 obtain ⟨i0,hi,hz0,hz1,hz2⟩:=info_parts (show (Try.prog.info? 21).map (fun i=>(i.zero,i.size,i.bytes))=some (some (.int .i32 0),1,4) from by kernel_rfl)
 go_enter Try.func164,Try.ntmps164
 go_wp2
 go_loopw [3] (fun v wr=>∃ (pos:Nat) (pre:List Int),wr.heap[w.heap.size]?=some (.stringIter s pos)∧Below w.heap.size w wr∧wr.ownsRow (w.heap.size+1) 21 1 v pre.length ((pre.map lowR).map (Value.int .i32))∧pre.length≤pos∧pos≤s.size+3∧runes s 0=pre++runes s pos) (fun _ wr=>s.size-wr.iterPos w.heap.size)
 case atStart=>exact ⟨0,[],by simp [World.iter_heap],(Below.refl _ w).alloc (Nat.le_refl _) _,World.ownsRow_nil ..,by simp,by simp,rfl⟩
 case round =>
  obtain ⟨pos,pre,hk,hb,how,hpl,hps,hrs⟩:=hrel
  by_cases hp:pos<s.size
  ·have hnx:∀ ty,(Instr.next (.pointer (some ⟨w.heap.size,0,none⟩)) true ty).run Try.prog wr=_:=fun ty=>z4n hk ty hp
   have hk1:=z67 (pos:=pos+(Utf8.decode s pos).2) hk
   have hb1:Below w.heap.size w (itAt wr w.heap.size s (pos+(Utf8.decode s pos).2)):=hb.trans (Go.Ev.Below.setIter (Nat.le_refl _))
   have how1:=zle (s:=s) (pos:=pos+(Utf8.decode s pos).2) how (Nat.lt_succ_self _)
   have hwd:=z65 s pos hp
   have hmu:wr.iterPos w.heap.size=pos:=by simp [World.iterPos,hk]
   rw [z5b hp] at hrs
   have hw4:=zkw s pos
   obtain ⟨r,hr⟩:∃ r:Int,r=((Utf8.decode s pos).1:Int):=⟨_,rfl⟩
   rw [← hr] at hnx hrs
   have k4:Hid (runes s 0=(pre++[r])++runes s (pos+(Utf8.decode s pos).2)):=by unfold Hid;rw [hrs];simp
   have k8:(pre++[r]).length≤pos+(Utf8.decode s pos).2:=by rw [List.length_append];simp only [List.length_cons,List.length_nil];omega
   have k9:pos+(Utf8.decode s pos).2≤s.size+3:=by omega
   have hn44:pre.length<2^44:=by omega
   have hW1:w.heap.size+1≤(itAt wr w.heap.size s (pos+(Utf8.decode s pos).2)).heap.size:=(Array.getElem?_eq_some_iff.1 hk1).1
   clear hrs hr how hk hb
   generalize itAt wr w.heap.size s (pos+(Utf8.decode s pos).2)=W1 at hnx hk1 hb1 how1 hW1
   go_wp2_with (first | (at_builtin;refine app1 rfl (.tmp 19) (.tmp 21) 233 rfl (w.heap.size+1) 21 i0 Try.underlying233 hi hz0 hz1 hz2 pre.length _ rfl how1 rfl hn44 hW1 ?_) | go_in)
   ·have e1:r+32=lowR r:=by unfold lowR;rw [if_pos ⟨by assumption,by assumption⟩]
    intro v' w' hown hgrow
    obtain ⟨hk2,hb2⟩:=zcz hk1 hb1 how1 hgrow
    have hmu3:w'.iterPos w.heap.size=pos+(Utf8.decode s pos).2:=by simp [World.iterPos,hk2]
    have hown2:w'.ownsRow (w.heap.size+1) 21 1 v' (pre++[r]).length (((pre++[r]).map lowR).map (Value.int .i32)):=by
     rw [← ze7 pre r _ e1,List.length_append]
     simpa using hown
    clear hown hgrow hk1 hb1 how1 e1
    go_wp2
    go_roundw
    case rel=>exact ⟨_,pre++[r],hk2,hb2,hown2,k8,k9,k4.out⟩
    case measure =>
     rw [hmu,hmu3]
     omega
   ·rename_i h1 h2
    have e1:r=lowR r:=by unfold lowR;rw [if_neg (by omega)]
    intro v' w' hown hgrow
    obtain ⟨hk2,hb2⟩:=zcz hk1 hb1 how1 hgrow
    have hmu3:w'.iterPos w.heap.size=pos+(Utf8.decode s pos).2:=by simp [World.iterPos,hk2]
    have hown2:w'.ownsRow (w.heap.size+1) 21 1 v' (pre++[r]).length (((pre++[r]).map lowR).map (Value.int .i32)):=by
     rw [← ze7 pre r _ e1,List.length_append]
     simpa using hown
    clear hown hgrow hk1 hb1 how1 e1
    go_wp2
    go_roundw
    case rel=>exact ⟨_,pre++[r],hk2,hb2,hown2,k8,k9,k4.out⟩
    case measure =>
     rw [hmu,hmu3]
     omega
   ·rename_i h1
    have e1:r=lowR r:=by unfold lowR;rw [if_neg (by omega)]
    intro v' w' hown hgrow
    obtain ⟨hk2,hb2⟩:=zcz hk1 hb1 how1 hgrow
    have hmu3:w'.iterPos w.heap.size=pos+(Utf8.decode s pos).2:=by simp [World.iterPos,hk2]
    have hown2:w'.ownsRow (w.heap.size+1) 21 1 v' (pre++[r]).length (((pre++[r]).map lowR).map (Value.int .i32)):=by
     rw [← ze7 pre r _ e1,List.length_append]
     simpa using hown
    clear hown hgrow hk1 hb1 how1 e1
    go_wp2
    go_roundw
    case rel=>exact ⟨_,pre++[r],hk2,hb2,hown2,k8,k9,k4.out⟩
    case measure =>
     rw [hmu,hmu3]
     omega
  ·have hnx:∀ ty,(Instr.next (.pointer (some ⟨w.heap.size,0,none⟩)) true ty).run Try.prog wr=_:=fun ty=>z33 hk ty hp
   rw [z68 hp,List.append_nil] at hrs
   have hcv:=zma (P:=Try.prog) (src:=233) (dst:=9) how Try.underlying233 Try.underlying21 Try.underlying9
   rw [zki,← hrs,show foldS (runes s 0)=foldB s from rfl] at hcv
   clear hrs how
   go_wp2
   go_ret
   exact ⟨rfl,hb⟩
end Go.RidX
namespace Go.InsX
open Go.Proofs Go.Proofs.Ytceljnchfgimbaa Go.Lib
open Go.RowKit (Below)
set_option maxRecDepth 1000000
set_option maxHeartbeats 2000000
set_option linter.unusedSimpArgs false
set_option linter.unusedVariables false
set_option maxHeartbeats 4000000 in
theorem ins_shift_120 (b off n c i vb voff m vc:Nat) (cs vs:List Value) (w:World) (hi:i<n) (hm:0<m) (hroom:n+m≤c) (h63:n+m≤9223372036854775807) (hvb:vb≠b)
  (hcl:cs.length=n*3) (hvl:vs.length=m*3)
  (hcs:∀ j v,cs[j]?=some v→w.cell? ⟨b,off+j,none⟩=some v) (hsp:∀ j,j<(n+m)*3→(w.cell? ⟨b,off+j,none⟩).isSome=true) (hfz:∀ j,w.frozen? ⟨b,j,none⟩=false)
  (hvs:∀ j v,vs[j]?=some v→w.cell? ⟨vb,voff+j,none⟩=some v) (h1c:∀ v∈cs,v.oneCell'=true) (h1v:∀ v∈vs,v.oneCell'=true)
  (tA tB:TypeId) (kA kB:Nat) (hsa:w.shape? vb=some (tA,kA)) (hsb:w.shape? b=some (tB,kB)) (hkA:kA≠0) (hkB:kB≠0) :
  Calls Try.prog 120 #[.slice (some ⟨b,off,none⟩) n c,.int .i64 i,.slice (some ⟨vb,voff,none⟩) m vc] w fun e w' =>
   e=.returned (.slice (some ⟨b,off,none⟩) (n+m) c)∧w'=(w.drew.setCells b (off+(i+m)*3) (cs.drop (i*3))).setCells b (off+i*3) vs:=by
 have ht:Try.prog.underlying 57=some (.slice 60):=by kernel_rfl
 obtain ⟨i0,hinf,hz0,hz1,hz2⟩:=info_parts (show (Try.prog.info? 60).map (fun i=>(i.zero,i.size,i.bytes))=some (some (.agg #[.int .i64 0,.int .i64 0,.int .i64 0]),3,24) from by kernel_rfl)
 have mixed:Try.prog.follows .mixedOrders=true:=by kernel_rfl
 have hz1':¬ ((m:Int)=0):=by omega
 have hz2':¬ ((i:Int)=(n:Int)):=by omega
 have hsz:(Try.prog.info? 60).map (·.size)=some 3:=by rw [hinf];simp [hz1]
 have hso:∀ w,(Go.sizeOf 60).run Try.prog w=.ok 3 w:=fun w=>by simp [sizeOf,typeInfo,hinf,hz1]
 have hov:∀ lb cb,(callFunc 158 #[.slice (some ⟨vb,voff,none⟩) m vc,.slice (some ⟨b,off+(i+m)*3,none⟩) lb cb]).run Try.prog w=.ok (.value (.bool false)) w:=fun lb cb=>by
  rw [run_callFunc_extern Try.func158 (by kernel_rfl) (by kernel_rfl) (by kernel_rfl) (e:=Extern.SlicesOverlaps.overlaps #[57,57] #[4]) (by kernel_rfl),
   Go.Ev.run_overlaps_clean w 57 4 60 ht 3 hso ⟨vb,voff,none⟩ ⟨b,off+(i+m)*3,none⟩ m vc lb cb hvb tA tB kA kB hsa hsb hkA hkB (hfz _) (hfz _)]
  rfl
 have hdl:(cs.drop (i*3)).length=(n-i)*3:=by rw [List.length_drop,hcl];omega
 have hw1:IntKind.i64.wrap ((i:Int)+(m:Int))=(i:Int)+(m:Int):=by rw [IntKind.wrap_i64];omega
 have hw2:IntKind.i64.wrap ((n:Int)+(m:Int))=(n:Int)+(m:Int):=by rw [IntKind.wrap_i64];omega
 have hb1:(0:Int)≤(i:Int)+(m:Int):=by omega
 have hin:i≤n:=by omega
 have htn:((i:Int)+(m:Int)).toNat=i+m:=by omega
 have hb2:¬ (c=i+m):=by omega
 have hb3:(i:Int)≤(n:Int)+(m:Int):=by omega
 have hb4:¬ (c=i):=by omega
 have hcp1:∀ ty dc sc,(Builtin.copy_ #[57,57] ty #[.slice (some ⟨b,off+(i+m)*3,none⟩) (n+m-(i+m)) dc,.slice (some ⟨b,off+i*3,none⟩) (n+m-i) sc]).run Try.prog w.drew=.ok (goInt ((n-i:Nat):Int)) (w.drew.setCells b (off+(i+m)*3) (cs.drop (i*3))):=fun ty dc sc =>
  Go.Ev.run_copy_k w.drew _ _ ty 60 b (off+(i+m)*3) (n+m-(i+m)) dc ⟨b,off+i*3,none⟩ (n+m-i) sc 3 (cs.drop (i*3)) ht hsz (n-i) (by simp only [Nat.min_def];split<;>omega) hdl
   (fun j v hj=>by rw [Addr.add_lit,Nat.add_assoc];exact hcs (i*3+j) v (by rwa [List.getElem?_drop] at hj))
   (fun j hj=>by rw [Nat.add_assoc];exact hsp _ (by omega)) (fun j hj=>hfz _) (fun v hv=>h1c v (List.mem_of_mem_drop hv))
 obtain ⟨W1,hW1⟩:∃ W1,W1=w.drew.setCells b (off+(i+m)*3) (cs.drop (i*3)):=⟨_,rfl⟩
 have hsp1:∀ k,k<(n+m)*3→(W1.cell? ⟨b,off+k,none⟩).isSome=true:=fun k hk=>by
  rw [hW1]
  exact isSome_setCells b _ _ _ (fun j hj=>by rw [Nat.add_assoc];exact hsp _ (by omega)) _ (hsp k hk)
 have hcp2:∀ (W:World),(∀ x,W.cell? x=W1.cell? x)→(∀ x,W.frozen? x=W1.frozen? x)→∀ ty dc,(Builtin.copy_ #[57,57] ty #[.slice (some ⟨b,off+i*3,none⟩) (n+m-i) dc,.slice (some ⟨vb,voff,none⟩) m vc]).run Try.prog W=.ok (goInt m) (W.setCells b (off+i*3) vs):=fun W hWc hWf ty dc =>
  Go.Ev.run_copy_k W _ _ ty 60 b (off+i*3) (n+m-i) dc ⟨vb,voff,none⟩ m vc 3 vs ht hsz m (by simp only [Nat.min_def];split<;>omega) hvl
   (fun j v hj=>by
    rw [Addr.add_lit,hWc,hW1,World.cell?_setCells_out b _ _ _ _ (fun h _=>absurd h hvb)]
    exact hvs j v hj)
   (fun j hj=>by rw [hWc,Nat.add_assoc];exact hsp1 _ (by omega)) (fun j hj=>by rw [hWf,hW1,World.frozen?_setCells];exact hfz _) h1v
 rw [← hW1] at hcp1
 go_enter Try.func120,Try.ntmps120
 go_wp2_with (simp only [hov])
 go_region_law_o (refine step_copy_runI rfl _ _ 57 57 rfl _ _ (by simp [Act.eval,Act.put]) (by simp [Act.eval,Act.put]) (hcp1 _ _ _) ?_)
 go_wp2_with (at_builtin;refine wpList_copy_runI _ rfl _ _ 57 57 rfl _ _ rfl rfl (hcp2 _ (fun _=>rfl) (fun _=>rfl) _ _) ?_)
 go_ret
 first | exact ⟨rfl,rfl⟩ | exact ⟨rfl,by rw [hW1]⟩
set_option maxHeartbeats 4000000 in
theorem ins_grow_120 (b off n c i vb voff m vc:Nat) (cs vs:List Value) (w:World) (hi:i<n) (hm:0<m) (hnc:n≤c) (hroom:c<n+m) (hbig:(n+m)*24≤140737488355328)
  (hcl:cs.length=n*3) (hvl:vs.length=m*3)
  (hcs:∀ j v,cs[j]?=some v→w.cell? ⟨b,off+j,none⟩=some v)
  (hvs:∀ j v,vs[j]?=some v→w.cell? ⟨vb,voff+j,none⟩=some v) (h1c:∀ v∈cs,v.oneCell'=true) (h1v:∀ v∈vs,v.oneCell'=true) :
  Calls Try.prog 120 #[.slice (some ⟨b,off,none⟩) n c,.int .i64 i,.slice (some ⟨vb,voff,none⟩) m vc] w fun e w' =>
   e=.returned (.slice (some ⟨w.heap.size,0,none⟩) (n+m) (grownCap w (n+m) c 60)) ∧
   w'=(((w.alloc (.cells ((cs.take (i*3)).toArray++Builtin.zeroCells ((.agg #[.int .i64 0,.int .i64 0,.int .i64 0]):Value).cells (n+m-i)++Builtin.zeroCells ((.agg #[.int .i64 0,.int .i64 0,.int .i64 0]):Value).cells (grownCap w (n+m) c 60-(n+m))) 60)).drew.setCells w.heap.size (i*3) vs).drew).setCells w.heap.size ((i+m)*3) (cs.drop (i*3)):=by
 have ht:Try.prog.underlying 57=some (.slice 60):=by kernel_rfl
 have ht3:Try.prog.underlying 3=some (.int .i64):=by kernel_rfl
 obtain ⟨i0,hi0,hz0,hzs,hzb⟩:=info_parts (show (Try.prog.info? 60).map (fun i=>(i.zero,i.size,i.bytes))=some (some (.agg #[.int .i64 0,.int .i64 0,.int .i64 0]),3,24) from by kernel_rfl)
 have mixed:Try.prog.follows .mixedOrders=true:=by kernel_rfl
 have hz1:¬ ((m:Int)=0):=by omega
 have hz2:¬ ((i:Int)=(n:Int)):=by omega
 have hz3:(c:Int)<(n:Int)+(m:Int):=by omega
 have hsz:(Try.prog.info? 60).map (·.size)=some 3:=by rw [hi0];simp [hzs]
 have hbw:b<w.heap.size:=block_lt_of_cell (hcs 0 _ (List.getElem?_eq_getElem (by omega)))
 have hvw:vb<w.heap.size:=block_lt_of_cell (hvs 0 _ (List.getElem?_eq_getElem (by omega)))
 have hkk:(n:Int)+(m:Int)-(i:Int)=((n+m-i:Nat):Int):=by omega
 have hik:i+(n+m-i)=n+m:=by omega
 have htl:(cs.take (i*3)).length=i*3:=by rw [List.length_take];omega
 have hold:(Builtin.firstCells i0.size i (.slice (some ⟨b,off,none⟩) i c)).run Try.prog w.drew=.ok (cs.take (i*3)).toArray w.drew:=by
  rw [hzs]
  have:=run_loadCells_list (P:=Try.prog) w.drew ⟨b,off,none⟩ (cs.take (i*3)) (fun j v hj=>by
   rw [Addr.add_lit]
   rw [List.getElem?_take] at hj
   split at hj
   ·exact hcs j v hj
   ·cases hj)
  rw [htl] at this
  exact this
 have hrz:∀ ty,(Builtin.append_ #[57,3] ty #[.slice (some ⟨b,off,none⟩) i c,.int .i64 ((n:Int)+(m:Int)-(i:Int))]).run Try.prog w =
   .ok (.slice (some ⟨w.heap.size,0,none⟩) (n+m) (grownCap w (n+m) c 60)) (w.drew.alloc (.cells ((cs.take (i*3)).toArray++Builtin.zeroCells ((.agg #[.int .i64 0,.int .i64 0,.int .i64 0]):Value).cells (n+m-i)++Builtin.zeroCells ((.agg #[.int .i64 0,.int .i64 0,.int .i64 0]):Value).cells (grownCap w (n+m) c 60-(n+m))) 60)):=fun ty=>by
  have h:=Lib.run_append_grow_zeros w 57 3 ty 60 i0 _ .i64 .i64 ht ht3 hi0 hz0 (some ⟨b,off,none⟩) i c (cs.take (i*3)) hold (n+m-i) (by omega) (by omega) (by omega) (by omega) (by rw [hzb];omega) (by rw [hzb,hik];exact growslice_fits hroom hbig)
  rw [hik] at h
  rw [hkk]
  exact h
 obtain ⟨G,hG⟩:∃ G,G=grownCap w (n+m) c 60:=⟨_,rfl⟩
 obtain ⟨ROW,hROW⟩:∃ ROW:Array Value,ROW=(cs.take (i*3)).toArray++Builtin.zeroCells ((.agg #[.int .i64 0,.int .i64 0,.int .i64 0]):Value).cells (n+m-i)++Builtin.zeroCells ((.agg #[.int .i64 0,.int .i64 0,.int .i64 0]):Value).cells (G-(n+m)):=⟨_,rfl⟩
 rw [← hG] at hrz ⊢
 rw [← hROW] at hrz ⊢
 have hRl:(n+m)*3≤ROW.size:=by
  rw [hROW]
  simp [Builtin.zeroCells,Value.cells]
  omega
 obtain ⟨W1,hW1⟩:∃ W1,W1=w.drew.alloc (.cells ROW 60):=⟨_,rfl⟩
 rw [← hW1] at hrz
 have hN:∀ j,j<(n+m)*3→(W1.cell? ⟨w.heap.size,j,none⟩).isSome=true:=fun j hj=>by
  rw [hW1,World.cell?_alloc_at (w:=w.drew) ROW _ w.heap.size j rfl,Array.getElem?_eq_getElem (by omega)];rfl
 have hNf:∀ j,W1.frozen? ⟨w.heap.size,j,none⟩=false:=fun j=>by rw [hW1];exact World.frozen?_alloc_at (w:=w.drew) ROW _ w.heap.size j rfl
 have hOb:∀ j v,w.cell? ⟨b,j,none⟩=some v→W1.cell? ⟨b,j,none⟩=some v:=fun j v h=>by rw [hW1,World.cell?_alloc_past (w:=w.drew) _ b j hbw];exact h
 have hOv:∀ j v,w.cell? ⟨vb,j,none⟩=some v→W1.cell? ⟨vb,j,none⟩=some v:=fun j v h=>by rw [hW1,World.cell?_alloc_past (w:=w.drew) _ vb j hvw];exact h
 have hcpA:∀ (W:World),(∀ x,W.cell? x=W1.cell? x)→(∀ x,W.frozen? x=W1.frozen? x)→∀ ty dc,(Builtin.copy_ #[57,57] ty #[.slice (some ⟨w.heap.size,i*3,none⟩) (n+m-i) dc,.slice (some ⟨vb,voff,none⟩) m vc]).run Try.prog W=.ok (goInt (m:Int)) (W.setCells w.heap.size (i*3) vs):=fun W hWc hWf ty dc =>
  Go.Ev.run_copy_k W _ _ ty 60 w.heap.size (i*3) (n+m-i) dc ⟨vb,voff,none⟩ m vc 3 vs ht hsz m (by simp only [Nat.min_def];split<;>omega) hvl
   (fun j v hj=>by rw [Addr.add_lit,hWc];exact hOv _ v (hvs j v hj))
   (fun j hj=>by rw [hWc];exact hN _ (by omega)) (fun j hj=>by rw [hWf];exact hNf _) h1v
 have hGn:n+m≤G:=by rw [hG];exact grownCap_ge w _ _ _
 have hG63:G≤9223372036854775807:=by
  have:=grownCap_le_maxLen w (n+m) c 60 (by unfold maxLen;omega)
  rw [← hG] at this
  unfold maxLen at this
  omega
 have hGi:¬ (G=i):=by omega
 have hGim:¬ (G=i+m):=by omega
 have hci:¬ (c=i):=by omega
 have hbN:b≠w.heap.size:=by omega
 have hdl:(cs.drop (i*3)).length=(n-i)*3:=by rw [List.length_drop,hcl];omega
 have hcpB:∀ (W:World),(∀ x,W.cell? x=(W1.setCells w.heap.size (i*3) vs).cell? x)→(∀ x,W.frozen? x=(W1.setCells w.heap.size (i*3) vs).frozen? x)→∀ ty dc sc,(Builtin.copy_ #[57,57] ty #[.slice (some ⟨w.heap.size,(i+m)*3,none⟩) (n+m-(i+m)) dc,.slice (some ⟨b,off+i*3,none⟩) (n-i) sc]).run Try.prog W=.ok (goInt ((n-i:Nat):Int)) (W.setCells w.heap.size ((i+m)*3) (cs.drop (i*3))):=fun W hWc hWf ty dc sc =>
  Go.Ev.run_copy_k W _ _ ty 60 w.heap.size ((i+m)*3) (n+m-(i+m)) dc ⟨b,off+i*3,none⟩ (n-i) sc 3 (cs.drop (i*3)) ht hsz (n-i) (by simp only [Nat.min_def];split<;>omega) hdl
   (fun j v hj=>by
    rw [Addr.add_lit,hWc,World.cell?_setCells_out _ _ _ _ _ (fun h _=>absurd h hbN),Nat.add_assoc]
    exact hOb _ v (hcs (i*3+j) v (by rwa [List.getElem?_drop] at hj)))
   (fun j hj=>by rw [hWc];exact isSome_setCells _ _ _ _ (fun t ht=>hN _ (by omega)) _ (hN _ (by omega)))
   (fun j hj=>by rw [hWf,World.frozen?_setCells];exact hNf _) (fun v hv=>h1c v (List.mem_of_mem_drop hv))
 subst hW1
 have hE1:∀ x,((w.alloc (.cells ROW 60)).drew).cell? x=(w.drew.alloc (.cells ROW 60)).cell? x:=fun x=>rfl
 have hE2:∀ x,((w.alloc (.cells ROW 60)).drew).frozen? x=(w.drew.alloc (.cells ROW 60)).frozen? x:=fun x=>rfl
 have hF1:∀ x,(((w.alloc (.cells ROW 60)).drew.setCells w.heap.size (i*3) vs).drew).cell? x=((w.drew.alloc (.cells ROW 60)).setCells w.heap.size (i*3) vs).cell? x:=fun x=>rfl
 have hF2:∀ x,(((w.alloc (.cells ROW 60)).drew.setCells w.heap.size (i*3) vs).drew).frozen? x=((w.drew.alloc (.cells ROW 60)).setCells w.heap.size (i*3) vs).frozen? x:=fun x=>rfl
 have hw1:IntKind.i64.wrap ((i:Int)+(m:Int))=(i:Int)+(m:Int):=by rw [IntKind.wrap_i64];omega
 have hb1:(0:Int)≤(i:Int)+(m:Int):=by omega
 have hin:i≤n:=by omega
 have htn:((i:Int)+(m:Int)).toNat=i+m:=by omega
 have hb3:(i:Int)≤(n:Int):=by omega
 clear hkk hik hold hROW hG hRl htl
 go_enter Try.func120,Try.ntmps120
 go_wp2_with (first
  | (at_builtin;refine Lib.wpList_append_run _ rfl _ _ _ _ rfl _ _ rfl rfl _ _ (hrz _) ?_)
  | (at_builtin;refine wpList_copy_runI _ rfl _ _ 57 57 rfl _ _ rfl rfl (hcpA _ hE1 hE2 _ _) ?_)
  | (at_builtin;refine wpList_copy_runI _ rfl _ _ 57 57 rfl _ _ rfl rfl (hcpB _ (fun _=>rfl) (fun _=>rfl) _ _ _) ?_))
 go_region_law_o (refine step_copy_runI rfl _ _ 57 57 rfl (.slice (some ⟨w.heap.size,(i+m)*3,none⟩) (n+m-(i+m)) (G-(i+m))) (.slice (some ⟨b,off+i*3,none⟩) (n-i) (c-i)) (by simp [Act.eval,Act.put]) (by simp [Act.eval,Act.put]) (hcpB _ hF1 hF2 3 (G-(i+m)) (c-i)) ?_)
 go_wp2
 go_ret
 exact ⟨rfl,rfl⟩
set_option maxHeartbeats 4000000 in
theorem ins_tail0_120 (vb vo m vc:Nat) (r:Value) (w w':World) (hm:0<m) (hr:(Builtin.append_ #[57,57] 57 #[.slice none 0 0,.slice (some ⟨vb,vo,none⟩) m vc]).run Try.prog w=.ok r w') :
  Calls Try.prog 120 #[.slice none 0 0,.int .i64 0,.slice (some ⟨vb,vo,none⟩) m vc] w fun e w2=>e=.returned r∧w2=w':=by
 have ht:Try.prog.underlying 57=some (.slice 60):=by kernel_rfl
 have mixed:Try.prog.follows .mixedOrders=true:=by kernel_rfl
 have hz1:¬ ((m:Int)=0):=by omega
 go_enter Try.func120,Try.ntmps120
 go_wp2_with (at_builtin;refine Lib.wpList_append_run _ rfl _ _ _ _ rfl _ _ rfl rfl _ _ hr ?_)
 go_ret
 exact ⟨rfl,rfl⟩
set_option maxHeartbeats 4000000 in
theorem ins_tail_120 (a:Addr) (n c vb vo m vc:Nat) (r:Value) (w w':World) (hm:0<m) (hnc:n≤c) (hr:(Builtin.append_ #[57,57] 57 #[.slice (some a) n c,.slice (some ⟨vb,vo,none⟩) m vc]).run Try.prog w=.ok r w') :
  Calls Try.prog 120 #[.slice (some a) n c,.int .i64 n,.slice (some ⟨vb,vo,none⟩) m vc] w fun e w2=>e=.returned r∧w2=w':=by
 have ht:Try.prog.underlying 57=some (.slice 60):=by kernel_rfl
 have mixed:Try.prog.follows .mixedOrders=true:=by kernel_rfl
 have hz1:¬ ((m:Int)=0):=by omega
 obtain ⟨b,o,sp⟩:=a
 go_enter Try.func120,Try.ntmps120
 go_wp2_with (at_builtin;refine Lib.wpList_append_run _ rfl _ _ _ _ rfl _ _ rfl rfl _ _ hr ?_)
 all_goals (go_ret;exact ⟨rfl,rfl⟩)
end Go.InsX
namespace Go.Ev
open Go.Proofs
def ownT:TypeId→Bool:=fun t=>[76,87,136,144,186].contains t
def frzF:FuncId→Bool:=fun f=>[32,85,88,86].contains f
def frzIn:FuncId→Bool:=fun f=>[86].contains f
def frzMk:TypeId→Bool:=fun t=>[].contains t
noncomputable def G:Cfg:=⟨Try.prog,ownT,frzF,frzIn,frzMk⟩
noncomputable def XT (f:FuncId) (args:List V):Option Value :=
 if f=129 then (match args with | [.p (.string s)]=>some (.bool (RidX.rightB s)) | _=>none) else
 if f=181 then (match args with | [.p (.string s)]=>some (.int .i64 (RidX.countN s)) | _=>none) else
 if f=174 then (match args with | [.p (.string s)]=>some (.bool (RidX.rightB s)) | _=>none) else
 if f=175 then (match args with | [.p (.string s)]=>if s.size<2^40 then some (.string (RidX.foldB s)) else none | _=>none) else
 if f=164 then (match args with | [.p (.string s)]=>if s.size<2^40 then some (.string (RidX.foldB s)) else none | _=>none) else
 none
noncomputable def X1:CallF:=plainX XT
theorem x1_ok (B:Nat):CallOk G B X1:=zml (fun f args v h=>by
 unfold XT at h
 split at h
 ·rename_i hf;subst hf
  split at h
  ·rename_i s;cases h
   exact ⟨[.string s],rfl,⟨Try.f129,Try.func129,by kernel_rfl,by kernel_rfl⟩,fun w=>RidX.rid_Right s w⟩
  ·cases h
 split at h
 ·rename_i hf;subst hf
  split at h
  ·rename_i s;cases h
   exact ⟨[.string s],rfl,⟨Try.f181,Try.func181,by kernel_rfl,by kernel_rfl⟩,fun w=>RidX.ref_Count s w⟩
  ·cases h
 split at h
 ·rename_i hf;subst hf
  split at h
  ·rename_i s;cases h
   exact ⟨[.string s],rfl,⟨Try.f174,Try.func174,by kernel_rfl,by kernel_rfl⟩,fun w=>RidX.ref_Rid s w⟩
  ·cases h
 split at h
 ·rename_i hf;subst hf
  split at h
  ·rename_i s;split at h
   ·rename_i hs;cases h
    exact ⟨[.string s],rfl,⟨Try.f175,Try.func175,by kernel_rfl,by kernel_rfl⟩,fun w=>RidX.ref_Fold s hs w⟩
   ·cases h
  ·cases h
 split at h
 ·rename_i hf;subst hf
  split at h
  ·rename_i s;split at h
   ·rename_i hs;cases h
    exact ⟨[.string s],rfl,⟨Try.f164,Try.func164,by kernel_rfl,by kernel_rfl⟩,fun w=>RidX.rid_Fold s hs w⟩
   ·cases h
  ·cases h
 cases h) B
def insT (f:FuncId):Option (Nat×Nat×Bool) :=
 if f=120 then some (3,24,false) else
 none
theorem ins_ok (f k b:Nat) (o:Bool) (h:insT f=some (k,b,o)):InsOk G f k b o:=by
 unfold insT at h
 split at h
 ·rename_i hf;subst hf;cases h
  exact ⟨⟨Try.f120,Try.func120,by kernel_rfl,by kernel_rfl⟩,InsX.ins_shift_120,fun b off n c i vb voff m vc cs vs w a1 a2 a3 a4 a5 a6 a7 a8 a9 a10 a11=>(InsX.ins_grow_120 b off n c i vb voff m vc cs vs w a1 a2 a3 a4 a5 a6 a7 a8 a9 a10 a11).mono fun e w' he=>⟨_,_,_,_,grownCap_ge _ _ _ _,by simp [Builtin.zeroCells,Value.cells],by simp [Builtin.zeroCells,Value.cells],he.1,he.2⟩,⟨57,57,fun _ _ _ _ _=>by kernel_rfl,InsX.ins_tail0_120,InsX.ins_tail_120⟩⟩
 cases h
noncomputable def X0:CallF:=orX X1 (insX insT)
theorem x_ok (B:Nat):CallOk G B X0:=orX_ok (x1_ok B) (znz ins_ok B)
theorem mixed:G.P.follows .mixedOrders=true:=by kernel_rfl
end Go.Ev
namespace Go.Ev
open Go.Proofs
set_option linter.unusedVariables false
set_option linter.unusedSimpArgs false
set_option maxRecDepth 100000
noncomputable section
abbrev KT1:=Exit→Env→H→Option (List C × H)
variable (rec : CallF) (loop : LoopV) (σ : Stamp)
theorem zfh (x0:V) (x1:Int) (x2:Int) (x3:Bool) (x4:Int) (h:H):cvBody G rec loop 41 σ [x0,(.p (.int .u16 x1)),(.p (.int .u32 x2)),(.p (.bool x3)),(.p (.int .i64 x4))] h =
(boxO false (0::0::0::σ) 5 (List.replicate 45 []::h) x0).bind fun q1 =>
need (∃ z,tzero Try.prog 87=some z∧slotOf (alO [.p (.bool false),.p (.int .i64 0),.p (.int .u16 0),.p (.int .u32 0),.p (.int .u32 0),.p (.slice none 0 0),.p (.int .u16 0),.p (.slice none 0 0),.p (.slice none 0 0)] (7::0::1::0::σ) 11 q1.2).2 11=some [.own (7::0::1::0::σ) (z.map .v)]) (
(fA q1.1 1).bind fun t2 =>
(ldO false 1 (alO [.p (.bool false),.p (.int .i64 0),.p (.int .u16 0),.p (.int .u32 0),.p (.int .u32 0),.p (.slice none 0 0),.p (.int .u16 0),.p (.slice none 0 0),.p (.slice none 0 0)] (7::0::1::0::σ) 11 q1.2).2 t2).bind fun t3 =>
(castI .u32 t3).bind fun n4 =>
(mkO 1 1 [.p (.int .u8 0)] (5::0::1::0::σ) 19 (alO [.p (.bool false),.p (.int .i64 0),.p (.int .u16 0),.p (.int .u32 0),.p (.int .u32 0),.p (.slice none 0 0),.p (.int .u16 0),.p (.slice none 0 0),.p (.slice none 0 0)] (7::0::1::0::σ) 11 q1.2).2 x4 x4).bind fun q5 =>
need (ldO false 1 q5.2 t2=some (.p (.int .u32 n4))) (
need (∃ z,tzero Try.prog 87=some z∧slotOf q5.2 11=some [.own (7::0::1::0::σ) (z.map .v)]) (
(buildV Try.prog 87 [(1,(.p (.int .i64 96))),(2,(.p (.int .u16 x1))),(3,(.p (.int .u32 x2))),(4,(.p (.int .u32 n4))),(6,(.p (.int .u16 48862))),(8,q5.1)]).bind fun t6 =>
((stO true 9 (8::0::1::0::σ) q5.2 (.ref (newLoc (alO [.p (.bool false),.p (.int .i64 0),.p (.int .u16 0),.p (.int .u32 0),.p (.int .u32 0),.p (.slice none 0 0),.p (.int .u16 0),.p (.slice none 0 0),.p (.slice none 0 0)] (7::0::1::0::σ) 11 q1.2).2 11 (7::0::1::0::σ)) 0) t6).map fun h=>(udf,h)).bind fun q7 =>
(fA q1.1 0).bind fun t8 =>
(ldO false 1 q7.2 t8).bind fun t9 =>
(castS t9).bind fun s10 =>
(buildV Try.prog 154 [(0,(.p (.int .i64 1))),(1,(.fz (s10.data.toList.map fun b=>.p (.int .u8 b.toNat)) s10.size 1 false))]).bind fun t11 =>
(bSV Try.prog 155 1 [(0,t11)]).bind fun t12 =>
(callO rec 85 (5::0::1::1::0::σ) [(.p (.int .u16 48862)),t12] q7.2 (some 27)).bind fun q13 =>
(extV q13.1 0).bind fun t14 =>
(extV q13.1 1).bind fun t15 =>
(castI .i64 t15).bind fun n16 =>
(fA (.ref (newLoc (alO [.p (.bool false),.p (.int .i64 0),.p (.int .u16 0),.p (.int .u32 0),.p (.int .u32 0),.p (.slice none 0 0),.p (.int .u16 0),.p (.slice none 0 0),.p (.slice none 0 0)] (7::0::1::0::σ) 11 q1.2).2 11 (7::0::1::0::σ)) 0) 7).bind fun t17 =>
((stO true 1 (10::0::1::1::0::σ) q13.2 t17 t14).map fun h=>(udf,h)).bind fun q18 =>
(bif x3 then (some (decide (x4>0))) else (some false)).bind fun b19 =>
bif b19 then (
(fA (.ref (newLoc (alO [.p (.bool false),.p (.int .i64 0),.p (.int .u16 0),.p (.int .u32 0),.p (.int .u32 0),.p (.slice none 0 0),.p (.int .u16 0),.p (.slice none 0 0),.p (.slice none 0 0)] (7::0::1::0::σ) 11 q1.2).2 11 (7::0::1::0::σ)) 0) 8).bind fun t20 =>
(ldO false 1 q18.2 t20).bind fun t21 =>
(iS 1 t21 0).bind fun t22 =>
((stO true 1 (3::1::0::1::1::1::0::σ) q18.2 t22 (.p (.int .u8 1))).map fun h=>(udf,h)).bind fun q23 =>
(ldO true 9 q23.2 (.ref (newLoc (alO [.p (.bool false),.p (.int .i64 0),.p (.int .u16 0),.p (.int .u32 0),.p (.int .u32 0),.p (.slice none 0 0),.p (.int .u16 0),.p (.slice none 0 0),.p (.slice none 0 0)] (7::0::1::0::σ) 11 q1.2).2 11 (7::0::1::0::σ)) 0)).bind fun t24 =>
(callFO rec 86 (1::0::1::1::1::1::0::σ) [t24] q23.2 (some 41)).bind fun q25 =>
(extV q25.1 0).bind fun t26 =>
(extV q25.1 1).bind fun t27 =>
(castI .i64 t27).bind fun n28 =>
fin false σ q25.2 [t26])
else (
(ldO true 9 q18.2 (.ref (newLoc (alO [.p (.bool false),.p (.int .i64 0),.p (.int .u16 0),.p (.int .u32 0),.p (.int .u32 0),.p (.slice none 0 0),.p (.int .u16 0),.p (.slice none 0 0),.p (.slice none 0 0)] (7::0::1::0::σ) 11 q1.2).2 11 (7::0::1::0::σ)) 0)).bind fun t29 =>
(callFO rec 86 (1::0::1::1::1::1::0::σ) [t29] q18.2 (some 41)).bind fun q30 =>
(extV q30.1 0).bind fun t31 =>
(extV q30.1 1).bind fun t32 =>
(castI .i64 t32).bind fun n33 =>
fin false σ q30.2 [t31])))):=by kernel_rfl
def z2w:Code:=(codeAt (bodyOf Try.f86) [1,1,1,1,1,1,1,0,1,0,0])
def z2u:Lv:=⟨130,12,[(0,130)]⟩
def z4y:KT1:=(kBlock 0 (kSeq G rec loop (codeAt (bodyOf Try.f86) [1,1,1,1,1,1,1,1]) ⟨12,12,[]⟩ (1::1::1::1::1::1::1::0::σ) (finC G true Try.f86 (1::σ))))
theorem zfg (x0:V) (h:H):cvBody G rec loop 86 σ [x0] h =
(boxO true (0::0::0::σ) 1 (List.replicate 82 []::h) x0).bind fun q1 =>
(ldO true 9 q1.2 q1.1).bind fun t2 =>
(callO rec 134 (1::0::0::1::0::σ) [t2] q1.2 (some 11)).bind fun q3 =>
(castI .i64 q3.1).bind fun n4 =>
bif n4 != 0 then (
fin true σ q3.2 [(.p (.slice .none 0 0)),(.p (.int .i64 n4))])
else (
(fA q1.1 5).bind fun t5 =>
(ldO false 1 q3.2 t5).bind fun t6 =>
(lenO t6).bind fun t7 =>
(castI .i64 t7).bind fun n8 =>
(fA q1.1 1).bind fun t9 =>
(ldO false 1 q3.2 t9).bind fun t10 =>
(castI .i64 t10).bind fun n11 =>
(fA q1.1 6).bind fun t12 =>
(ldO false 1 q3.2 t12).bind fun t13 =>
(castI .u16 t13).bind fun n14 =>
bif n14 != 0 then (
(fA q1.1 0).bind fun t15 =>
(ldO false 1 q3.2 t15).bind fun t16 =>
(asB t16).bind fun b17 =>
bif b17 then (
(bSV Try.prog 79 2 [(0,(.p (.int .u8 (IntKind.wrap .u8 (intBits .or .i64 (intBits .or .i64 128 n8) 16))))),(1,(.p (.int .u8 (IntKind.wrap .u8 (intBits .or .i64 n11 128)))))]).bind fun t18 =>
(fA q1.1 2).bind fun t19 =>
(ldO false 1 q3.2 t19).bind fun t20 =>
(castI .u16 t20).bind fun n21 =>
(callO rec 135 (8::0::1::1::1::1::1::0::σ) [t18,(.p (.int .u64 (IntKind.wrap .u64 n21))),(.p (.int .i64 2))] q3.2 (some 38)).bind fun q22 =>
(fA q1.1 3).bind fun t23 =>
(ldO false 1 q22.2 t23).bind fun t24 =>
(castI .u32 t24).bind fun n25 =>
(fA q1.1 4).bind fun t26 =>
(ldO false 1 q22.2 t26).bind fun t27 =>
(castI .u32 t27).bind fun n28 =>
(callO rec 135 (4::0::1::1::1::1::1::1::0::σ) [q22.1,(.p (.int .u64 (IntKind.wrap .u64 n25))),(.p (.int .i64 4))] q22.2 (some 43)).bind fun q29 =>
need ((some (.p (.int .u64 (IntKind.wrap .u64 n28))):Option V)=some (.p (.int .u64 (IntKind.wrap .u64 n28)))) (
need (ldO false 1 q29.2 t26=some (.p (.int .u32 n28))) (
(callO rec 135 (8::0::1::1::1::1::1::1::0::σ) [q29.1,(.p (.int .u64 (IntKind.wrap .u64 n28))),(.p (.int .i64 4))] q29.2 (some 47)).bind fun q30 =>
(fA q1.1 5).bind fun t31 =>
(ldO false 1 q30.2 t31).bind fun t32 =>
(lenO t32).bind fun t33 =>
(castI .i64 t33).bind fun n34 =>
(loop z2w z2u (1::0::1::1::1::1::1::1::1::0::σ) (envL [(1,q1.1),(7,q30.1),(49,t32),(50,(.p (.int .i64 n34))),(51,(.p (.int .i64 0)))]) q30.2).bind fun r35=>z4y rec loop σ r35.1 r35.2.1 r35.2.2)))
else (
(bSV Try.prog 79 2 [(0,(.p (.int .u8 (IntKind.wrap .u8 (intBits .or .i64 (intBits .or .i64 128 n8) 16))))),(1,(.p (.int .u8 (IntKind.wrap .u8 n11))))]).bind fun t36 =>
(fA q1.1 2).bind fun t37 =>
(ldO false 1 q3.2 t37).bind fun t38 =>
(castI .u16 t38).bind fun n39 =>
(callO rec 135 (8::0::1::1::1::1::1::0::σ) [t36,(.p (.int .u64 (IntKind.wrap .u64 n39))),(.p (.int .i64 2))] q3.2 (some 38)).bind fun q40 =>
(fA q1.1 3).bind fun t41 =>
(ldO false 1 q40.2 t41).bind fun t42 =>
(castI .u32 t42).bind fun n43 =>
(fA q1.1 4).bind fun t44 =>
(ldO false 1 q40.2 t44).bind fun t45 =>
(castI .u32 t45).bind fun n46 =>
(callO rec 135 (4::0::1::1::1::1::1::1::0::σ) [q40.1,(.p (.int .u64 (IntKind.wrap .u64 n43))),(.p (.int .i64 4))] q40.2 (some 43)).bind fun q47 =>
need ((some (.p (.int .u64 (IntKind.wrap .u64 n46))):Option V)=some (.p (.int .u64 (IntKind.wrap .u64 n46)))) (
need (ldO false 1 q47.2 t44=some (.p (.int .u32 n46))) (
(callO rec 135 (8::0::1::1::1::1::1::1::0::σ) [q47.1,(.p (.int .u64 (IntKind.wrap .u64 n46))),(.p (.int .i64 4))] q47.2 (some 47)).bind fun q48 =>
(fA q1.1 5).bind fun t49 =>
(ldO false 1 q48.2 t49).bind fun t50 =>
(lenO t50).bind fun t51 =>
(castI .i64 t51).bind fun n52 =>
(loop z2w z2u (1::0::1::1::1::1::1::1::1::0::σ) (envL [(1,q1.1),(7,q48.1),(49,t50),(50,(.p (.int .i64 n52))),(51,(.p (.int .i64 0)))]) q48.2).bind fun r53=>z4y rec loop σ r53.1 r53.2.1 r53.2.2))))
else (
(fA q1.1 0).bind fun t54 =>
(ldO false 1 q3.2 t54).bind fun t55 =>
(asB t55).bind fun b56 =>
bif b56 then (
(bSV Try.prog 79 2 [(0,(.p (.int .u8 (IntKind.wrap .u8 (intBits .or .i64 128 n8))))),(1,(.p (.int .u8 (IntKind.wrap .u8 (intBits .or .i64 n11 128)))))]).bind fun t57 =>
(fA q1.1 2).bind fun t58 =>
(ldO false 1 q3.2 t58).bind fun t59 =>
(castI .u16 t59).bind fun n60 =>
(callO rec 135 (8::0::1::1::1::1::1::0::σ) [t57,(.p (.int .u64 (IntKind.wrap .u64 n60))),(.p (.int .i64 2))] q3.2 (some 38)).bind fun q61 =>
(fA q1.1 3).bind fun t62 =>
(ldO false 1 q61.2 t62).bind fun t63 =>
(castI .u32 t63).bind fun n64 =>
(fA q1.1 4).bind fun t65 =>
(ldO false 1 q61.2 t65).bind fun t66 =>
(castI .u32 t66).bind fun n67 =>
(callO rec 135 (4::0::1::1::1::1::1::1::0::σ) [q61.1,(.p (.int .u64 (IntKind.wrap .u64 n64))),(.p (.int .i64 4))] q61.2 (some 43)).bind fun q68 =>
need ((some (.p (.int .u64 (IntKind.wrap .u64 n67))):Option V)=some (.p (.int .u64 (IntKind.wrap .u64 n67)))) (
need (ldO false 1 q68.2 t65=some (.p (.int .u32 n67))) (
(callO rec 135 (8::0::1::1::1::1::1::1::0::σ) [q68.1,(.p (.int .u64 (IntKind.wrap .u64 n67))),(.p (.int .i64 4))] q68.2 (some 47)).bind fun q69 =>
(fA q1.1 5).bind fun t70 =>
(ldO false 1 q69.2 t70).bind fun t71 =>
(lenO t71).bind fun t72 =>
(castI .i64 t72).bind fun n73 =>
(loop z2w z2u (1::0::1::1::1::1::1::1::1::0::σ) (envL [(1,q1.1),(7,q69.1),(49,t71),(50,(.p (.int .i64 n73))),(51,(.p (.int .i64 0)))]) q69.2).bind fun r74=>z4y rec loop σ r74.1 r74.2.1 r74.2.2)))
else (
(bSV Try.prog 79 2 [(0,(.p (.int .u8 (IntKind.wrap .u8 (intBits .or .i64 128 n8))))),(1,(.p (.int .u8 (IntKind.wrap .u8 n11))))]).bind fun t75 =>
(fA q1.1 2).bind fun t76 =>
(ldO false 1 q3.2 t76).bind fun t77 =>
(castI .u16 t77).bind fun n78 =>
(callO rec 135 (8::0::1::1::1::1::1::0::σ) [t75,(.p (.int .u64 (IntKind.wrap .u64 n78))),(.p (.int .i64 2))] q3.2 (some 38)).bind fun q79 =>
(fA q1.1 3).bind fun t80 =>
(ldO false 1 q79.2 t80).bind fun t81 =>
(castI .u32 t81).bind fun n82 =>
(fA q1.1 4).bind fun t83 =>
(ldO false 1 q79.2 t83).bind fun t84 =>
(castI .u32 t84).bind fun n85 =>
(callO rec 135 (4::0::1::1::1::1::1::1::0::σ) [q79.1,(.p (.int .u64 (IntKind.wrap .u64 n82))),(.p (.int .i64 4))] q79.2 (some 43)).bind fun q86 =>
need ((some (.p (.int .u64 (IntKind.wrap .u64 n85))):Option V)=some (.p (.int .u64 (IntKind.wrap .u64 n85)))) (
need (ldO false 1 q86.2 t83=some (.p (.int .u32 n85))) (
(callO rec 135 (8::0::1::1::1::1::1::1::0::σ) [q86.1,(.p (.int .u64 (IntKind.wrap .u64 n85))),(.p (.int .i64 4))] q86.2 (some 47)).bind fun q87 =>
(fA q1.1 5).bind fun t88 =>
(ldO false 1 q87.2 t88).bind fun t89 =>
(lenO t89).bind fun t90 =>
(castI .i64 t90).bind fun n91 =>
(loop z2w z2u (1::0::1::1::1::1::1::1::1::0::σ) (envL [(1,q1.1),(7,q87.1),(49,t89),(50,(.p (.int .i64 n91))),(51,(.p (.int .i64 0)))]) q87.2).bind fun r92=>z4y rec loop σ r92.1 r92.2.1 r92.2.2))))):=by kernel_rfl
theorem zit (x1:V) (x7:V) (x49:V) (x50:Int) (x51:Int) (h:H):zo G rec loop z2w z2u σ (envL [(1,x1),(7,x7),(49,x49),(50,(.p (.int .i64 x50))),(51,(.p (.int .i64 x51)))]) h =
bif decide (x51<x50) then (
(iS 1 x49 x51).bind fun t93 =>
(ldO false 1 h t93).bind fun t94 =>
(castI .u32 t94).bind fun n95 =>
(callO rec 135 (3::1::0::1::1::0::σ) [x7,(.p (.int .u64 (IntKind.wrap .u64 n95))),(.p (.int .i64 4))] h (some 58)).bind fun q96 =>
loop z2w z2u (1::σ) (envL [(1,x1),(7,q96.1),(49,x49),(50,(.p (.int .i64 x50))),(51,(.p (.int .i64 (IntKind.wrap .i64 (x51+1)))))]) q96.2)
else (
some ((.exit 0),(envL [(1,x1),(7,x7)]),h)):=by kernel_rfl
theorem z5h (x1:V) (x7:V) (h:H):z4y rec loop σ (.exit 0) (envL [(1,x1),(7,x7)]) h =
(fA x1 6).bind fun t97 =>
(ldO false 1 h t97).bind fun t98 =>
(castI .u16 t98).bind fun n99 =>
bif n99 != 0 then (
(fA x1 6).bind fun t100 =>
(ldO false 1 h t100).bind fun t101 =>
(castI .u16 t101).bind fun n102 =>
(fA x1 7).bind fun t103 =>
(ldO false 1 h t103).bind fun t104 =>
(lenO t104).bind fun t105 =>
(castI .i64 t105).bind fun n106 =>
(callO rec 135 (4::0::1::0::1::1::1::1::1::1::1::1::0::σ) [x7,(.p (.int .u64 (IntKind.wrap .u64 n102))),(.p (.int .i64 2))] h (some 67)).bind fun q107 =>
need ((some (.p (.int .u64 (IntKind.wrap .u64 (IntKind.wrap .i64 (Int.tdiv n106 4))))):Option V)=some (.p (.int .u64 (IntKind.wrap .u64 (IntKind.wrap .i64 (Int.tdiv n106 4)))))) (
need (ldO false 1 q107.2 t103=some t104) (
(callO rec 135 (10::0::1::0::1::1::1::1::1::1::1::1::0::σ) [q107.1,(.p (.int .u64 (IntKind.wrap .u64 (IntKind.wrap .i64 (Int.tdiv n106 4))))),(.p (.int .i64 2))] q107.2 (some 73)).bind fun q108 =>
(fA x1 7).bind fun t109 =>
(ldO false 1 q108.2 t109).bind fun t110 =>
(apO true 1 1 (3::1::1::0::1::1::1::1::1::1::1::1::0::σ) 77 q108.2 q108.1 t110).bind fun q111 =>
(fA x1 8).bind fun t112 =>
(ldO false 1 q111.2 t112).bind fun t113 =>
(apO true 1 1 (3::0::1::1::1::1::1::1::1::1::1::0::σ) 81 q111.2 q111.1 t113).bind fun q114 =>
fin true σ q114.2 [q114.1,(.p (.int .i64 0))])))
else (
(fA x1 8).bind fun t115 =>
(ldO false 1 h t115).bind fun t116 =>
(apO true 1 1 (3::0::1::1::1::1::1::1::1::1::1::0::σ) 81 h x7 t116).bind fun q117 =>
fin true σ q117.2 [q117.1,(.p (.int .i64 0))]):=by kernel_rfl
def z8f:Code:=(codeAt (bodyOf Try.f135) [1,1,1,0,1,0,0])
def z87:Lv:=⟨128,64,[(0,128)]⟩
def zf0:KT1:=(kBlock 0 (kSeq G rec loop (codeAt (bodyOf Try.f135) [1,1,1,1]) ⟨64,64,[]⟩ (1::1::1::0::σ) (finC G false Try.f135 (1::σ))))
theorem zif (x0:V) (x1:Int) (x2:Int) (h:H):cvBody G rec loop 135 σ [x0,(.p (.int .u64 x1)),(.p (.int .i64 x2))] h =
(bSV Try.prog 79 0 []).bind fun t1 =>
(apO true 1 1 (2::0::1::0::σ) 11 (List.replicate 35 []::h) t1 x0).bind fun q2 =>
(bif decide (x2<1) then (some true) else (some (decide (x2>8)))).bind fun b3 =>
bif b3 then (
fin false σ q2.2 [q2.1])
else (
(loop z8f z87 (1::0::1::1::1::0::σ) (envL [(1,(.p (.int .u64 x1))),(7,q2.1),(8,(.p (.int .i64 (IntKind.wrap .i64 (x2-1)))))]) q2.2).bind fun r4=>zf0 rec loop σ r4.1 r4.2.1 r4.2.2):=by kernel_rfl
theorem zm0 (x1:Int) (x7:V) (x8:Int) (h:H):zo G rec loop z8f z87 σ (envL [(1,(.p (.int .u64 x1))),(7,x7),(8,(.p (.int .i64 x8)))]) h =
bif decide (x8≥0) then (
(shiftV .shr .u64 x1 (IntKind.wrap .u64 (IntKind.wrap .i64 (8*x8)))).bind fun t5 =>
(castI .u64 t5).bind fun n6 =>
(bSV Try.prog 79 1 [(0,(.p (.int .u8 (IntKind.wrap .u8 n6))))]).bind fun t7 =>
(apO true 1 1 (8::0::1::0::σ) 33 h x7 t7).bind fun q8 =>
loop z8f z87 (1::σ) (envL [(1,(.p (.int .u64 x1))),(7,q8.1),(8,(.p (.int .i64 (IntKind.wrap .i64 (x8-1)))))]) q8.2)
else (
some ((.exit 0),(envL [(7,x7)]),h)):=by kernel_rfl
theorem zil (x7:V) (h:H):zf0 rec loop σ (.exit 0) (envL [(7,x7)]) h =
fin false σ h [x7]:=by kernel_rfl
end
end Go.Ev
namespace Go.Ev
open Go.Proofs
set_option linter.unusedVariables false
set_option linter.unusedSimpArgs false
set_option maxRecDepth 100000
section
variable {β α : Type} {Q : β→α→Prop} {K : Exit × Env × H→Option α}
def z2v {β:Type} (k:Nat) (kE0:(List Int)→Option β) (x1:Int) (x7:(List Int)) (x8:Int):Option β:=match k with
| 0=>none
| k+1 =>
bif decide (x8≥0) then (
(shP .shr .u64 x1 (IntKind.wrap .u64 (IntKind.wrap .i64 (8*x8)))).bind fun n27 =>
(ap 1 x7 ([(IntKind.wrap .u8 n27)])).bind fun a30 =>
z2v k kE0 x1 a30 (IntKind.wrap .i64 (x8-1)))
else (
kE0 x7)
def zk (k:Nat) (x0:(List Int)) (x1:Int) (x2:Int):Option ((List Int)) :=
(ap 1 (([]:List Int)) x0).bind fun a4 =>
(bif decide (x2<1) then (some true) else (some (decide (x2>8)))).bind fun b10 =>
bif b10 then (
some (a4))
else (
z2v k (fun r40_7 =>
some (r40_7)) x1 a4 (IntKind.wrap .i64 (x2-1)))
theorem zi4 {h:H}  {kE0:(List Int)→Option β} (hE0:∀ (q7:(List Int)) (v38:V) (H36:Go.Ev.H) (_:Fm 35 h [] [] [⟨[11,33],v38,(dI .u8),q7⟩] H36),Sim (kE0 q7) (K ((.exit 0),(envL [(7,v38)]),H36)) Q) (k:Nat):∀ (x1:Int) (x7:(List Int)) (x8:Int) (v24:V) (H22:Go.Ev.H) (_:Fm 35 h [] [] [⟨[11,33],v24,(dI .u8),x7⟩] H22) {σ:Stamp},Sim (z2v k kE0 x1 x7 x8) ((cvL G X0 z8f z87 σ (envL [(1,(.p (.int .u64 x1))),(7,v24),(8,(.p (.int .i64 x8)))]) H22).bind K) Q:=by
 induction k with
 | zero=>intros;exact .no
 | succ k ih =>
  intro x1 x7 x8 v24 H22 S23 σ
  rw [z2v]
  refine .round (Sim.ext (zm0 _ _ _ _ _ _ _) ?_)
  refine .cq ?_ ?_
  ·refine .bd fun n27 h28=>?_
   refine .op (shP_ok h28) ?_
   refine .ci ?_
   have h29:=SlF.int1 .u8 (IntKind.wrap .u8 n27)
   refine .op (bldS (pC rfl pN) (by kernel_rfl:_=some (vOf h29))) ?_
   refine .bd fun a30 h31=>?_
   obtain ⟨v32,H33,e34,S35⟩:=S23.app (i:=0) (d:=33) (e:=1) (own:=true) (σ:=(8::0::1::0::σ)) rfl (h29.h H22).y h31 rfl (by decide) (by decide) rfl
   refine .op (e34) ?_
   exact ih x1 a30 (IntKind.wrap .i64 (x8-1)) v32 H33 (S35.wk2 aN (aC ⟨[33,11,33],by simp,aM 0 rfl⟩ aN))
  exact hE0 x7 v24 H22 (S23.wk2 aN (aC ⟨[11,33],by simp,aM 0 rfl⟩ aN))
theorem zm (k:Nat) {h:H} {σ:Stamp} (x0:List Int) {u0:V} (hu0:SlH h (dI .u8) x0 u0) (x1:Int) (x2:Int):Sim (zk k x0 x1 x2) (ev G X0 135 σ [u0,(.p (.int .u64 x1)),(.p (.int .i64 x2))] h) (fun r s=>∃ (c0:C),∃ (a0:List V),OwnS c0 (dI .u8).sz r.length a0∧(dI .u8).L r a0∧s=([c0],h)):=by
 refine .ev rfl (Sim.ext (zif _ _ _ _ _ _ _) ?_)
 rw [zk]
 have S0:Fm 35 h [] [] [] (List.replicate 35 []::h):=Fm.start0
 have h1:SlF (dI .u8) ([]:List Int) (.fz [] 0 1 true):=SlF.lit (cs:=[]) RL.nil rfl rfl true
 refine .op (bldS pN (by kernel_rfl:_=some (vOf h1))) ?_
 have S3:=S0.nil' (dI .u8) [] (e:=1) rfl
 refine .bd fun a4 h5=>?_
 obtain ⟨v6,H7,e8,S9⟩:=S3.app (i:=0) (d:=11) (e:=1) (own:=true) (σ:=(2::0::1::0::σ)) rfl (S3.low hu0).y h5 rfl (by decide) (by decide) rfl
 refine .op (e8) ?_
 refine .ch (P:=fun r y=>r=y) ?_ (fun b10 y11 h12 h13=>?_)
 ·refine .cq ?_ ?_
  ·exact .ret rfl rfl
  ·exact .ret rfl rfl
 subst h13
 refine .cq ?_ ?_
 ·obtain ⟨c20,cs21,H15,e16,h18,h19,S17⟩:=S9.expOwn (i:=0) (τ:=0::1::σ) rfl rfl rfl
  exact .fin (S17.finE (Ex.st e16 Ex.nil)) ⟨c20,cs21,h18,h19,rfl⟩
 refine .as (zi4 ?_ k x1 a4 (IntKind.wrap .i64 (x2-1)) v6 H7 (S9.wk2 aN (aC ⟨[11],by simp,aM 0 rfl⟩ aN)))
 ·intro r40_7 v43 H41 S42
  refine .ext (zil _ _ _ _ _) ?_
  obtain ⟨c50,cs51,H45,e46,h48,h49,S47⟩:=S42.expOwn (i:=0) (τ:=0::1::σ) rfl rfl rfl
  exact .fin (S47.finE (Ex.st e46 Ex.nil)) ⟨c50,cs51,h48,h49,rfl⟩
end
end Go.Ev
namespace Go.Ev
open Go.Proofs
set_option linter.unusedVariables false
set_option linter.unusedSimpArgs false
set_option maxRecDepth 100000
noncomputable section
abbrev KT2:=Exit→Env→H→Option (List C × H)
variable (rec : CallF) (loop : LoopV) (σ : Stamp)
theorem zf8 (x0:V) (h:H):cvBody G rec loop 134 σ [x0] h =
(boxO true (0::0::0::σ) 1 (List.replicate 38 []::h) x0).bind fun q1 =>
(fA q1.1 1).bind fun t2 =>
(ldO false 1 q1.2 t2).bind fun t3 =>
(castI .i64 t3).bind fun n4 =>
(bif decide (n4<0) then (some true) else ((fA q1.1 1).bind fun t5 =>
(ldO false 1 q1.2 t5).bind fun t6 =>
(castI .i64 t6).bind fun n7 =>
some (decide (n7>127)))).bind fun b8 =>
(bif b8 then (some true) else ((fA q1.1 5).bind fun t9 =>
(ldO false 1 q1.2 t9).bind fun t10 =>
(lenO t10).bind fun t11 =>
(castI .i64 t11).bind fun n12 =>
some (decide (n12>15)))).bind fun b13 =>
(bif b13 then (some true) else ((fA q1.1 7).bind fun t14 =>
(ldO false 1 q1.2 t14).bind fun t15 =>
(lenO t15).bind fun t16 =>
(castI .i64 t16).bind fun n17 =>
some ((Int.tmod n17 4) != 0))).bind fun b18 =>
(bif b18 then (some true) else ((fA q1.1 6).bind fun t19 =>
(ldO false 1 q1.2 t19).bind fun t20 =>
(castI .u16 t20).bind fun n21 =>
(bif n21==0 then ((fA q1.1 7).bind fun t22 =>
(ldO false 1 q1.2 t22).bind fun t23 =>
(lenO t23).bind fun t24 =>
(castI .i64 t24).bind fun n25 =>
some (decide (n25>0))) else (some false)).bind fun b26 =>
some b26)).bind fun b27 =>
bif b27 then (
fin false σ q1.2 [(.p (.int .i64 1))])
else (
(ldO true 9 q1.2 q1.1).bind fun t28 =>
(callO rec 165 (1::0::0::1::1::0::σ) [t28] q1.2 (some 36)).bind fun q29 =>
(castI .i64 q29.1).bind fun n30 =>
bif decide (n30>1500) then (
fin false σ q29.2 [(.p (.int .i64 3))])
else (
fin false σ q29.2 [(.p (.int .i64 0))])):=by kernel_rfl
theorem zgz (x0:V) (h:H):cvBody G rec loop 165 σ [x0] h =
(boxO true (0::0::0::σ) 1 (List.replicate 23 []::h) x0).bind fun q1 =>
(fA q1.1 5).bind fun t2 =>
(ldO false 1 q1.2 t2).bind fun t3 =>
(lenO t3).bind fun t4 =>
(castI .i64 t4).bind fun n5 =>
(fA q1.1 8).bind fun t6 =>
(ldO false 1 q1.2 t6).bind fun t7 =>
(lenO t7).bind fun t8 =>
(castI .i64 t8).bind fun n9 =>
(fA q1.1 6).bind fun t10 =>
(ldO false 1 q1.2 t10).bind fun t11 =>
(castI .u16 t11).bind fun n12 =>
bif n12 != 0 then (
(fA q1.1 7).bind fun t13 =>
(ldO false 1 q1.2 t13).bind fun t14 =>
(lenO t14).bind fun t15 =>
(castI .i64 t15).bind fun n16 =>
fin false σ q1.2 [(.p (.int .i64 (IntKind.wrap .i64 ((IntKind.wrap .i64 ((IntKind.wrap .i64 ((IntKind.wrap .i64 (12+(IntKind.wrap .i64 (4*n5))))+n9))+4))+n16))))])
else (
fin false σ q1.2 [(.p (.int .i64 (IntKind.wrap .i64 ((IntKind.wrap .i64 (12+(IntKind.wrap .i64 (4*n5))))+n9))))]):=by kernel_rfl
end
end Go.Ev
namespace Go.Ev
open Go.Proofs
set_option linter.unusedVariables false
set_option linter.unusedSimpArgs false
set_option maxRecDepth 100000
section
variable {β α : Type} {Q : β→α→Prop} {K : Exit × Env × H→Option α}
def z8d (x0:TaiRtp):Option (Int) :=
bif x0.Profile != 0 then (
some ((IntKind.wrap .i64 ((IntKind.wrap .i64 ((IntKind.wrap .i64 ((IntKind.wrap .i64 (12+(IntKind.wrap .i64 (4*((x0.Csrc.length:Int))))))+((x0.Payload.length:Int))))+4))+((x0.Ext.length:Int))))))
else (
some ((IntKind.wrap .i64 ((IntKind.wrap .i64 (12+(IntKind.wrap .i64 (4*((x0.Csrc.length:Int))))))+((x0.Payload.length:Int))))))
theorem zkm {h:H} {σ:Stamp} (x0:TaiRtp) {u0:List V} (hu0:z9.R x0 u0):Sim (z8d x0) (ev G X0 165 σ [(.agg u0)] h) (fun r s=>s=([.v (.p (.int .i64 r))],h)):=by
 refine .ev rfl (Sim.ext (zgz _ _ _ _ _) ?_)
 rw [z8d]
 obtain ⟨v1,v3,v5,rfl,h2,h4,h6⟩:=z9.inv hu0
 have S0:Fm 23 h [] [] [] (List.replicate 23 []::h):=Fm.start0
 obtain ⟨H7,e8,S9⟩:=S0.box (own:=true) (d:=1) (s:=(0::0::0::σ)) (xs:=[(.p (.bool x0.Marker)),(.p (.int .i64 x0.f_Type)),(.p (.int .u16 x0.Seq)),(.p (.int .u32 x0.Time)),(.p (.int .u32 x0.Ssrc)),v1,(.p (.int .u16 x0.Profile)),v3,v5]) (sC (sB _) (sC (sI _ _) (sC (sI _ _) (sC (sI _ _) (sC (sI _ _) (sC h2.still (sC (sI _ _) (sC h4.still (sC h6.still sN))))))))) (by decide) rfl
 refine .op (e8) ?_
 refine .fa ?_
 refine .op ((S9.atG (i:=0) rfl).ld (j:=5) rfl) ?_
 refine .op ((h2.h H7).len) ?_
 refine .ci ?_
 refine .fa ?_
 refine .op ((S9.atG (i:=0) rfl).ld (j:=8) rfl) ?_
 refine .op ((h6.h H7).len) ?_
 refine .ci ?_
 refine .fa ?_
 refine .op ((S9.atG (i:=0) rfl).ld (j:=6) rfl) ?_
 refine .ci ?_
 refine .cq ?_ ?_
 ·refine .fa ?_
  refine .op ((S9.atG (i:=0) rfl).ld (j:=7) rfl) ?_
  refine .op ((h4.h H7).len) ?_
  refine .ci ?_
  exact .fin (S9.finN (lC (sI _ _).lv lN)) rfl
 exact .fin (S9.finN (lC (sI _ _).lv lN)) rfl
def z5t (x0:TaiRtp):Option (Int) :=
(bif decide (x0.f_Type<0) then (some true) else (some (decide (x0.f_Type>127)))).bind fun b11 =>
(bif b11 then (some true) else (some (decide (((x0.Csrc.length:Int))>15)))).bind fun b15 =>
(bif b15 then (some true) else (some ((Int.tmod ((x0.Ext.length:Int)) 4) != 0))).bind fun b19 =>
(bif b19 then (some true) else ((bif x0.Profile==0 then (some (decide (((x0.Ext.length:Int))>0))) else (some false)).bind fun b23 =>
some b23)).bind fun b27 =>
bif b27 then (
some (1))
else (
(z8d x0).bind fun r32 =>
bif decide (r32>1500) then (
some (3))
else (
some (0)))
theorem zjy {h:H} {σ:Stamp} (x0:TaiRtp) {u0:List V} (hu0:z9.R x0 u0):Sim (z5t x0) (ev G X0 134 σ [(.agg u0)] h) (fun r s=>s=([.v (.p (.int .i64 r))],h)):=by
 refine .ev rfl (Sim.ext (zf8 _ _ _ _ _) ?_)
 rw [z5t]
 obtain ⟨v1,v3,v5,rfl,h2,h4,h6⟩:=z9.inv hu0
 have S0:Fm 38 h [] [] [] (List.replicate 38 []::h):=Fm.start0
 obtain ⟨H7,e8,S9⟩:=S0.box (own:=true) (d:=1) (s:=(0::0::0::σ)) (xs:=[(.p (.bool x0.Marker)),(.p (.int .i64 x0.f_Type)),(.p (.int .u16 x0.Seq)),(.p (.int .u32 x0.Time)),(.p (.int .u32 x0.Ssrc)),v1,(.p (.int .u16 x0.Profile)),v3,v5]) (sC (sB _) (sC (sI _ _) (sC (sI _ _) (sC (sI _ _) (sC (sI _ _) (sC h2.still (sC (sI _ _) (sC h4.still (sC h6.still sN))))))))) (by decide) rfl
 refine .op (e8) ?_
 refine .fa ?_
 refine .op ((S9.atG (i:=0) rfl).ld (j:=1) rfl) ?_
 refine .ci ?_
 refine .ch (P:=fun r y=>r=y) ?_ (fun b11 y12 h13 h14=>?_)
 ·refine .cq ?_ ?_
  ·exact .ret rfl rfl
  ·refine .fa ?_
   refine .op ((S9.atG (i:=0) rfl).ld (j:=1) rfl) ?_
   refine .ci ?_
   exact .ret rfl rfl
 subst h14
 refine .ch (P:=fun r y=>r=y) ?_ (fun b15 y16 h17 h18=>?_)
 ·refine .cq ?_ ?_
  ·exact .ret rfl rfl
  ·refine .fa ?_
   refine .op ((S9.atG (i:=0) rfl).ld (j:=5) rfl) ?_
   refine .op ((h2.h H7).len) ?_
   refine .ci ?_
   exact .ret rfl rfl
 subst h18
 refine .ch (P:=fun r y=>r=y) ?_ (fun b19 y20 h21 h22=>?_)
 ·refine .cq ?_ ?_
  ·exact .ret rfl rfl
  ·refine .fa ?_
   refine .op ((S9.atG (i:=0) rfl).ld (j:=7) rfl) ?_
   refine .op ((h4.h H7).len) ?_
   refine .ci ?_
   exact .ret rfl rfl
 subst h22
 refine .ch (P:=fun r y=>r=y) ?_ (fun b27 y28 h29 h30=>?_)
 ·refine .cq ?_ ?_
  ·exact .ret rfl rfl
  ·refine .fa ?_
   refine .op ((S9.atG (i:=0) rfl).ld (j:=6) rfl) ?_
   refine .ci ?_
   refine .ch (P:=fun r y=>r=y) ?_ (fun b23 y24 h25 h26=>?_)
   ·refine .cq ?_ ?_
    ·refine .fa ?_
     refine .op ((S9.atG (i:=0) rfl).ld (j:=7) rfl) ?_
     refine .op ((h4.h H7).len) ?_
     refine .ci ?_
     exact .ret rfl rfl
    ·exact .ret rfl rfl
   subst h26
   exact .ret rfl rfl
 subst h30
 refine .cq ?_ ?_
 ·exact .fin (S9.finN (lC (sI _ _).lv lN)) rfl
 refine .op ((S9.atG (i:=0) rfl).ldVs (j:=0) (xs:=[(.p (.bool x0.Marker)),(.p (.int .i64 x0.f_Type)),(.p (.int .u16 x0.Seq)),(.p (.int .u32 x0.Time)),(.p (.int .u32 x0.Ssrc)),v1,(.p (.int .u16 x0.Profile)),v3,v5]) rfl rfl (by decide)) ?_
 refine .call (zkm x0 hu0) fun r32 cs33 H34 h35 q36=>?_
 cases q36
 refine .ci ?_
 refine .cq ?_ ?_
 ·exact .fin (S9.finN (lC (sI _ _).lv lN)) rfl
 exact .fin (S9.finN (lC (sI _ _).lv lN)) rfl
def z1l {β:Type} (k:Nat) (kE0:(List Int)→TaiRtp→Option β) (x7:(List Int)) (x49:(List Int)) (x50:Int) (x51:Int) (yg10:TaiRtp):Option β:=match k with
| 0=>none
| k+1 =>
bif decide (x51<x50) then (
(ix x49 x51).bind fun a79 =>
(zk k x7 (IntKind.wrap .u64 a79) 4).bind fun r82 =>
z1l k kE0 r82 x49 x50 (IntKind.wrap .i64 (x51+1)) yg10)
else (
kE0 x7 yg10)
def z4l (k:Nat) (x0:TaiRtp):Option ((List Int)×Int) :=
(z5t x0).bind fun r11 =>
bif r11 != 0 then (
some ((([]:List Int)),r11))
else (
bif x0.Profile != 0 then (
bif x0.Marker then (
(zk k ([(IntKind.wrap .u8 (intBits .or .i64 (intBits .or .i64 128 ((x0.Csrc.length:Int))) 16)),(IntKind.wrap .u8 (intBits .or .i64 x0.f_Type 128))]) (IntKind.wrap .u64 x0.Seq) 2).bind fun r20 =>
(zk k r20 (IntKind.wrap .u64 x0.Time) 4).bind fun r34 =>
(zk k r34 (IntKind.wrap .u64 x0.Ssrc) 4).bind fun r48 =>
z1l k (fun r111_7 yg71 =>
bif yg71.Profile != 0 then (
(zk k r111_7 (IntKind.wrap .u64 yg71.Profile) 2).bind fun r127 =>
(zk k r127 (IntKind.wrap .u64 (IntKind.wrap .i64 (Int.tdiv ((yg71.Ext.length:Int)) 4))) 2).bind fun r141 =>
(ap 1 r141 yg71.Ext).bind fun a155 =>
(ap 1 a155 yg71.Payload).bind fun a161 =>
some (a161,0))
else (
(ap 1 r111_7 yg71.Payload).bind fun a173 =>
some (a173,0))) r48 x0.Csrc ((x0.Csrc.length:Int)) 0 x0)
else (
(zk k ([(IntKind.wrap .u8 (intBits .or .i64 (intBits .or .i64 128 ((x0.Csrc.length:Int))) 16)),(IntKind.wrap .u8 x0.f_Type)]) (IntKind.wrap .u64 x0.Seq) 2).bind fun r186 =>
(zk k r186 (IntKind.wrap .u64 x0.Time) 4).bind fun r200 =>
(zk k r200 (IntKind.wrap .u64 x0.Ssrc) 4).bind fun r214 =>
z1l k (fun r228_7 yg71 =>
bif yg71.Profile != 0 then (
(zk k r228_7 (IntKind.wrap .u64 yg71.Profile) 2).bind fun r244 =>
(zk k r244 (IntKind.wrap .u64 (IntKind.wrap .i64 (Int.tdiv ((yg71.Ext.length:Int)) 4))) 2).bind fun r258 =>
(ap 1 r258 yg71.Ext).bind fun a272 =>
(ap 1 a272 yg71.Payload).bind fun a278 =>
some (a278,0))
else (
(ap 1 r228_7 yg71.Payload).bind fun a290 =>
some (a290,0))) r214 x0.Csrc ((x0.Csrc.length:Int)) 0 x0))
else (
bif x0.Marker then (
(zk k ([(IntKind.wrap .u8 (intBits .or .i64 128 ((x0.Csrc.length:Int)))),(IntKind.wrap .u8 (intBits .or .i64 x0.f_Type 128))]) (IntKind.wrap .u64 x0.Seq) 2).bind fun r304 =>
(zk k r304 (IntKind.wrap .u64 x0.Time) 4).bind fun r318 =>
(zk k r318 (IntKind.wrap .u64 x0.Ssrc) 4).bind fun r332 =>
z1l k (fun r346_7 yg71 =>
bif yg71.Profile != 0 then (
(zk k r346_7 (IntKind.wrap .u64 yg71.Profile) 2).bind fun r362 =>
(zk k r362 (IntKind.wrap .u64 (IntKind.wrap .i64 (Int.tdiv ((yg71.Ext.length:Int)) 4))) 2).bind fun r376 =>
(ap 1 r376 yg71.Ext).bind fun a390 =>
(ap 1 a390 yg71.Payload).bind fun a396 =>
some (a396,0))
else (
(ap 1 r346_7 yg71.Payload).bind fun a408 =>
some (a408,0))) r332 x0.Csrc ((x0.Csrc.length:Int)) 0 x0)
else (
(zk k ([(IntKind.wrap .u8 (intBits .or .i64 128 ((x0.Csrc.length:Int)))),(IntKind.wrap .u8 x0.f_Type)]) (IntKind.wrap .u64 x0.Seq) 2).bind fun r421 =>
(zk k r421 (IntKind.wrap .u64 x0.Time) 4).bind fun r435 =>
(zk k r435 (IntKind.wrap .u64 x0.Ssrc) 4).bind fun r449 =>
z1l k (fun r463_7 yg71 =>
bif yg71.Profile != 0 then (
(zk k r463_7 (IntKind.wrap .u64 yg71.Profile) 2).bind fun r479 =>
(zk k r479 (IntKind.wrap .u64 (IntKind.wrap .i64 (Int.tdiv ((yg71.Ext.length:Int)) 4))) 2).bind fun r493 =>
(ap 1 r493 yg71.Ext).bind fun a507 =>
(ap 1 a507 yg71.Payload).bind fun a513 =>
some (a513,0))
else (
(ap 1 r463_7 yg71.Payload).bind fun a525 =>
some (a525,0))) r449 x0.Csrc ((x0.Csrc.length:Int)) 0 x0)))
theorem z4q {h:H}  {kE0:(List Int)→TaiRtp→Option β} (hE0:∀ (q7:(List Int)) (yg71:TaiRtp) (v99:V) (w101:List V) (h102:z9.R yg71 w101) (s103:Stamp) (H97:Go.Ev.H) (_:Fm 82 h [] [(1,s103,List.map C.v w101)] [⟨[47,58],v99,(dI .u8),q7⟩] H97),Sim (kE0 q7 yg71) (K ((.exit 0),(envL [(1,(.ref ⟨h.length,1,0,s103,[]⟩ 0)),(7,v99)]),H97)) Q) (k:Nat):∀ (x7:(List Int)) (x49:(List Int)) (x50:Int) (x51:Int) (yg10:TaiRtp) (v64:V) (v66:V) (h67:SlF (dI .u32) x49 v66) (w68:List V) (h69:z9.R yg10 w68) (s70:Stamp) (H62:Go.Ev.H) (_:Fm 82 h [] [(1,s70,List.map C.v w68)] [⟨[47,58],v64,(dI .u8),x7⟩] H62) {σ:Stamp},Sim (z1l k kE0 x7 x49 x50 x51 yg10) ((cvL G X0 z2w z2u σ (envL [(1,(.ref ⟨h.length,1,0,s70,[]⟩ 0)),(7,v64),(49,v66),(50,(.p (.int .i64 x50))),(51,(.p (.int .i64 x51)))]) H62).bind K) Q:=by
 induction k with
 | zero=>intros;exact .no
 | succ k ih =>
  intro x7 x49 x50 x51 yg10 v64 v66 h67 w68 h69 s70 H62 S63 σ
  rw [z1l]
  refine .round (Sim.ext (zit _ _ _ _ _ _ _ _ _) ?_)
  obtain ⟨v72,v74,v76,rfl,h73,h75,h77⟩:=z9.inv h69
  refine .cq ?_ ?_
  ·refine .bd fun a79 h80=>?_
   refine .op ((h67.h H62).iS h80 rfl) ?_
   obtain ⟨_,rfl,hE81⟩:=(h67.h H62).el h80 rfl
   refine .op (hE81.ld (j:=0) rfl) ?_
   refine .ci ?_
   refine .call (zm k x7 (S63.sl (i:=0) rfl) (IntKind.wrap .u64 a79) 4) fun r82 cs83 H84 h85 q86=>?_
   obtain ⟨c87,cs88,h89,h90,q86⟩:=q86
   cases q86
   have S91:=Fm.wk S63 (aC (aM 0 rfl) aN) aN
   obtain ⟨v92,H93,e94,S95⟩:=S91.land (dt:=(dI .u8)) (d:=58) (e:=0) (n:=0) h89 h90 (by decide) rfl
   erw [e94]
   exact ih r82 x49 x50 (IntKind.wrap .i64 (x51+1)) yg10 v92 v66 h67 _ h69 s70 H93 (S95.wk2 (aC (aM 0 rfl) aN) (aC ⟨[58],by simp,aM 0 rfl⟩ aN))
  exact hE0 x7 yg10 v64 _ h69 s70 H62 (S63.wk2 (aC (aM 0 rfl) aN) (aC ⟨[47,58],by simp,aM 0 rfl⟩ aN))
theorem zcy (k:Nat) {h:H} {σ:Stamp} (x0:TaiRtp) {u0:List V} (hu0:z9.R x0 u0):Sim (z4l k x0) (ev G X0 86 σ [(.agg u0)] h) (fun r s=>∃ (v0:V),SlF (dI .u8) r.1 v0∧s=([.v v0,.v (.p (.int .i64 r.2))],h)):=by
 refine .ev rfl (Sim.ext (zfg _ _ _ _ _) ?_)
 rw [z4l]
 obtain ⟨v1,v3,v5,rfl,h2,h4,h6⟩:=z9.inv hu0
 have S0:Fm 82 h [] [] [] (List.replicate 82 []::h):=Fm.start0
 obtain ⟨H7,e8,S9⟩:=S0.box (own:=true) (d:=1) (s:=(0::0::0::σ)) (xs:=[(.p (.bool x0.Marker)),(.p (.int .i64 x0.f_Type)),(.p (.int .u16 x0.Seq)),(.p (.int .u32 x0.Time)),(.p (.int .u32 x0.Ssrc)),v1,(.p (.int .u16 x0.Profile)),v3,v5]) (sC (sB _) (sC (sI _ _) (sC (sI _ _) (sC (sI _ _) (sC (sI _ _) (sC h2.still (sC (sI _ _) (sC h4.still (sC h6.still sN))))))))) (by decide) rfl
 refine .op (e8) ?_
 refine .op ((S9.atG (i:=0) rfl).ldVs (j:=0) (xs:=[(.p (.bool x0.Marker)),(.p (.int .i64 x0.f_Type)),(.p (.int .u16 x0.Seq)),(.p (.int .u32 x0.Time)),(.p (.int .u32 x0.Ssrc)),v1,(.p (.int .u16 x0.Profile)),v3,v5]) rfl rfl (by decide)) ?_
 refine .call (zjy x0 hu0) fun r11 cs12 H13 h14 q15=>?_
 cases q15
 refine .ci ?_
 refine .cq ?_ ?_
 ·exact .fin (S9.finN (lC (SlF.nil (dI .u8)).still.lv (lC (sI _ _).lv lN))) ⟨(.p (.slice none 0 0)),(SlF.nil (dI .u8)),rfl⟩
 refine .fa ?_
 refine .op ((S9.atG (i:=0) rfl).ld (j:=5) rfl) ?_
 refine .op ((h2.h H7).len) ?_
 refine .ci ?_
 refine .fa ?_
 refine .op ((S9.atG (i:=0) rfl).ld (j:=1) rfl) ?_
 refine .ci ?_
 refine .fa ?_
 refine .op ((S9.atG (i:=0) rfl).ld (j:=6) rfl) ?_
 refine .ci ?_
 refine .cq ?_ ?_
 ·refine .fa ?_
  refine .op ((S9.atG (i:=0) rfl).ld (j:=0) rfl) ?_
  refine .ab ?_
  refine .cq ?_ ?_
  ·have h19:SlF (dI .u8) [(IntKind.wrap .u8 (intBits .or .i64 (intBits .or .i64 128 ((x0.Csrc.length:Int))) 16)),(IntKind.wrap .u8 (intBits .or .i64 x0.f_Type 128))] (.fz [(.p (.int .u8 (IntKind.wrap .u8 (intBits .or .i64 (intBits .or .i64 128 ((x0.Csrc.length:Int))) 16)))),(.p (.int .u8 (IntKind.wrap .u8 (intBits .or .i64 x0.f_Type 128))))] 2 1 true):=SlF.lit (cs:=[(.p (.int .u8 (IntKind.wrap .u8 (intBits .or .i64 (intBits .or .i64 128 ((x0.Csrc.length:Int))) 16)))),(.p (.int .u8 (IntKind.wrap .u8 (intBits .or .i64 x0.f_Type 128))))]) (RL.cons (show (dI .u8).R (IntKind.wrap .u8 (intBits .or .i64 (intBits .or .i64 128 ((x0.Csrc.length:Int))) 16)) [(.p (.int .u8 (IntKind.wrap .u8 (intBits .or .i64 (intBits .or .i64 128 ((x0.Csrc.length:Int))) 16))))] from rfl) (RL.cons (show (dI .u8).R (IntKind.wrap .u8 (intBits .or .i64 x0.f_Type 128)) [(.p (.int .u8 (IntKind.wrap .u8 (intBits .or .i64 x0.f_Type 128))))] from rfl) RL.nil)) rfl rfl true
   refine .op (bldS (pC rfl (pC rfl pN)) (by kernel_rfl:_=some (vOf h19))) ?_
   refine .fa ?_
   refine .op ((S9.atG (i:=0) rfl).ld (j:=2) rfl) ?_
   refine .ci ?_
   refine .call (zm k ([(IntKind.wrap .u8 (intBits .or .i64 (intBits .or .i64 128 ((x0.Csrc.length:Int))) 16)),(IntKind.wrap .u8 (intBits .or .i64 x0.f_Type 128))]) (h19.h H7) (IntKind.wrap .u64 x0.Seq) 2) fun r20 cs21 H22 h23 q24=>?_
   obtain ⟨c25,cs26,h27,h28,q24⟩:=q24
   cases q24
   obtain ⟨v29,H30,e31,S32⟩:=S9.land (dt:=(dI .u8)) (d:=38) (e:=0) (n:=0) h27 h28 (by decide) rfl
   erw [e31]
   refine .fa ?_
   refine .op ((S32.atG (i:=0) rfl).ld (j:=3) rfl) ?_
   refine .ci ?_
   refine .fa ?_
   refine .op ((S32.atG (i:=0) rfl).ld (j:=4) rfl) ?_
   refine .ci ?_
   refine .call (zm k r20 (S32.sl (i:=0) rfl) (IntKind.wrap .u64 x0.Time) 4) fun r34 cs35 H36 h37 q38=>?_
   obtain ⟨c39,cs40,h41,h42,q38⟩:=q38
   cases q38
   obtain ⟨v43,H44,e45,S46⟩:=S32.land (dt:=(dI .u8)) (d:=43) (e:=0) (n:=0) h41 h42 (by decide) rfl
   erw [e45]
   refine .nd (rfl) ?_
   refine .nd ((S46.atG (i:=0) rfl).ld (j:=4) rfl) ?_
   refine .call (zm k r34 (S46.sl (i:=0) rfl) (IntKind.wrap .u64 x0.Ssrc) 4) fun r48 cs49 H50 h51 q52=>?_
   obtain ⟨c53,cs54,h55,h56,q52⟩:=q52
   cases q52
   obtain ⟨v57,H58,e59,S60⟩:=S46.land (dt:=(dI .u8)) (d:=47) (e:=0) (n:=0) h55 h56 (by decide) rfl
   erw [e59]
   refine .fa ?_
   refine .op ((S60.atG (i:=0) rfl).ld (j:=5) rfl) ?_
   refine .op ((h2.h H58).len) ?_
   refine .ci ?_
   refine .as (z4q ?_ k r48 x0.Csrc ((x0.Csrc.length:Int)) 0 x0 v57 v1 h2 _ hu0 (0::0::0::σ) H58 (S60.wk2 (aC (aM 0 rfl) aN) (aC ⟨[47],by simp,aM 0 rfl⟩ aN)))
   ·intro r111_7 yg71 v114 w116 h117 s118 H112 S113
    refine .ext (z5h _ _ _ _ _ _) ?_
    obtain ⟨v120,v122,v124,rfl,h121,h123,h125⟩:=z9.inv h117
    refine .fa ?_
    refine .op ((S113.atG (i:=0) rfl).ld (j:=6) rfl) ?_
    refine .ci ?_
    refine .cq ?_ ?_
    ·refine .fa ?_
     refine .op ((S113.atG (i:=0) rfl).ld (j:=6) rfl) ?_
     refine .ci ?_
     refine .fa ?_
     refine .op ((S113.atG (i:=0) rfl).ld (j:=7) rfl) ?_
     refine .op ((h123.h H112).len) ?_
     refine .ci ?_
     refine .call (zm k r111_7 (S113.sl (i:=0) rfl) (IntKind.wrap .u64 yg71.Profile) 2) fun r127 cs128 H129 h130 q131=>?_
     obtain ⟨c132,cs133,h134,h135,q131⟩:=q131
     cases q131
     obtain ⟨v136,H137,e138,S139⟩:=S113.land (dt:=(dI .u8)) (d:=67) (e:=0) (n:=0) h134 h135 (by decide) rfl
     erw [e138]
     refine .nd (rfl) ?_
     refine .nd ((S139.atG (i:=0) rfl).ld (j:=7) rfl) ?_
     refine .call (zm k r127 (S139.sl (i:=0) rfl) (IntKind.wrap .u64 (IntKind.wrap .i64 (Int.tdiv ((yg71.Ext.length:Int)) 4))) 2) fun r141 cs142 H143 h144 q145=>?_
     obtain ⟨c146,cs147,h148,h149,q145⟩:=q145
     cases q145
     obtain ⟨v150,H151,e152,S153⟩:=S139.land (dt:=(dI .u8)) (d:=73) (e:=0) (n:=0) h148 h149 (by decide) rfl
     erw [e152]
     refine .fa ?_
     refine .op ((S153.atG (i:=0) rfl).ld (j:=7) rfl) ?_
     refine .bd fun a155 h156=>?_
     obtain ⟨v157,H158,e159,S160⟩:=S153.app (i:=0) (d:=77) (e:=1) (own:=true) (σ:=(3::1::1::0::1::1::1::1::1::1::1::1::0::σ)) rfl (h123.h H151).y h156 rfl (by decide) (by decide) rfl
     refine .op (e159) ?_
     refine .fa ?_
     refine .op ((S160.atG (i:=0) rfl).ld (j:=8) rfl) ?_
     refine .bd fun a161 h162=>?_
     obtain ⟨v163,H164,e165,S166⟩:=S160.app (i:=0) (d:=81) (e:=1) (own:=true) (σ:=(3::0::1::1::1::1::1::1::1::1::1::0::σ)) rfl (h125.h H158).y h162 rfl (by decide) (by decide) rfl
     refine .op (e165) ?_
     obtain ⟨v172,H167,e168,h170,S169⟩:=S166.expFrz (i:=0) (τ:=0::1::σ) rfl rfl
     exact .fin (S169.finE (Ex.st e168 (Ex.pl (sI _ _).lv Ex.nil))) ⟨v172,h170,rfl⟩
    refine .fa ?_
    refine .op ((S113.atG (i:=0) rfl).ld (j:=8) rfl) ?_
    refine .bd fun a173 h174=>?_
    obtain ⟨v175,H176,e177,S178⟩:=S113.app (i:=0) (d:=81) (e:=1) (own:=true) (σ:=(3::0::1::1::1::1::1::1::1::1::1::0::σ)) rfl (h125.h H112).y h174 rfl (by decide) (by decide) rfl
    refine .op (e177) ?_
    obtain ⟨v184,H179,e180,h182,S181⟩:=S178.expFrz (i:=0) (τ:=0::1::σ) rfl rfl
    exact .fin (S181.finE (Ex.st e180 (Ex.pl (sI _ _).lv Ex.nil))) ⟨v184,h182,rfl⟩
  have h185:SlF (dI .u8) [(IntKind.wrap .u8 (intBits .or .i64 (intBits .or .i64 128 ((x0.Csrc.length:Int))) 16)),(IntKind.wrap .u8 x0.f_Type)] (.fz [(.p (.int .u8 (IntKind.wrap .u8 (intBits .or .i64 (intBits .or .i64 128 ((x0.Csrc.length:Int))) 16)))),(.p (.int .u8 (IntKind.wrap .u8 x0.f_Type)))] 2 1 true):=SlF.lit (cs:=[(.p (.int .u8 (IntKind.wrap .u8 (intBits .or .i64 (intBits .or .i64 128 ((x0.Csrc.length:Int))) 16)))),(.p (.int .u8 (IntKind.wrap .u8 x0.f_Type)))]) (RL.cons (show (dI .u8).R (IntKind.wrap .u8 (intBits .or .i64 (intBits .or .i64 128 ((x0.Csrc.length:Int))) 16)) [(.p (.int .u8 (IntKind.wrap .u8 (intBits .or .i64 (intBits .or .i64 128 ((x0.Csrc.length:Int))) 16))))] from rfl) (RL.cons (show (dI .u8).R (IntKind.wrap .u8 x0.f_Type) [(.p (.int .u8 (IntKind.wrap .u8 x0.f_Type)))] from rfl) RL.nil)) rfl rfl true
  refine .op (bldS (pC rfl (pC rfl pN)) (by kernel_rfl:_=some (vOf h185))) ?_
  refine .fa ?_
  refine .op ((S9.atG (i:=0) rfl).ld (j:=2) rfl) ?_
  refine .ci ?_
  refine .call (zm k ([(IntKind.wrap .u8 (intBits .or .i64 (intBits .or .i64 128 ((x0.Csrc.length:Int))) 16)),(IntKind.wrap .u8 x0.f_Type)]) (h185.h H7) (IntKind.wrap .u64 x0.Seq) 2) fun r186 cs187 H188 h189 q190=>?_
  obtain ⟨c191,cs192,h193,h194,q190⟩:=q190
  cases q190
  obtain ⟨v195,H196,e197,S198⟩:=S9.land (dt:=(dI .u8)) (d:=38) (e:=0) (n:=0) h193 h194 (by decide) rfl
  erw [e197]
  refine .fa ?_
  refine .op ((S198.atG (i:=0) rfl).ld (j:=3) rfl) ?_
  refine .ci ?_
  refine .fa ?_
  refine .op ((S198.atG (i:=0) rfl).ld (j:=4) rfl) ?_
  refine .ci ?_
  refine .call (zm k r186 (S198.sl (i:=0) rfl) (IntKind.wrap .u64 x0.Time) 4) fun r200 cs201 H202 h203 q204=>?_
  obtain ⟨c205,cs206,h207,h208,q204⟩:=q204
  cases q204
  obtain ⟨v209,H210,e211,S212⟩:=S198.land (dt:=(dI .u8)) (d:=43) (e:=0) (n:=0) h207 h208 (by decide) rfl
  erw [e211]
  refine .nd (rfl) ?_
  refine .nd ((S212.atG (i:=0) rfl).ld (j:=4) rfl) ?_
  refine .call (zm k r200 (S212.sl (i:=0) rfl) (IntKind.wrap .u64 x0.Ssrc) 4) fun r214 cs215 H216 h217 q218=>?_
  obtain ⟨c219,cs220,h221,h222,q218⟩:=q218
  cases q218
  obtain ⟨v223,H224,e225,S226⟩:=S212.land (dt:=(dI .u8)) (d:=47) (e:=0) (n:=0) h221 h222 (by decide) rfl
  erw [e225]
  refine .fa ?_
  refine .op ((S226.atG (i:=0) rfl).ld (j:=5) rfl) ?_
  refine .op ((h2.h H224).len) ?_
  refine .ci ?_
  refine .as (z4q ?_ k r214 x0.Csrc ((x0.Csrc.length:Int)) 0 x0 v223 v1 h2 _ hu0 (0::0::0::σ) H224 (S226.wk2 (aC (aM 0 rfl) aN) (aC ⟨[47],by simp,aM 0 rfl⟩ aN)))
  ·intro r228_7 yg71 v231 w233 h234 s235 H229 S230
   refine .ext (z5h _ _ _ _ _ _) ?_
   obtain ⟨v237,v239,v241,rfl,h238,h240,h242⟩:=z9.inv h234
   refine .fa ?_
   refine .op ((S230.atG (i:=0) rfl).ld (j:=6) rfl) ?_
   refine .ci ?_
   refine .cq ?_ ?_
   ·refine .fa ?_
    refine .op ((S230.atG (i:=0) rfl).ld (j:=6) rfl) ?_
    refine .ci ?_
    refine .fa ?_
    refine .op ((S230.atG (i:=0) rfl).ld (j:=7) rfl) ?_
    refine .op ((h240.h H229).len) ?_
    refine .ci ?_
    refine .call (zm k r228_7 (S230.sl (i:=0) rfl) (IntKind.wrap .u64 yg71.Profile) 2) fun r244 cs245 H246 h247 q248=>?_
    obtain ⟨c249,cs250,h251,h252,q248⟩:=q248
    cases q248
    obtain ⟨v253,H254,e255,S256⟩:=S230.land (dt:=(dI .u8)) (d:=67) (e:=0) (n:=0) h251 h252 (by decide) rfl
    erw [e255]
    refine .nd (rfl) ?_
    refine .nd ((S256.atG (i:=0) rfl).ld (j:=7) rfl) ?_
    refine .call (zm k r244 (S256.sl (i:=0) rfl) (IntKind.wrap .u64 (IntKind.wrap .i64 (Int.tdiv ((yg71.Ext.length:Int)) 4))) 2) fun r258 cs259 H260 h261 q262=>?_
    obtain ⟨c263,cs264,h265,h266,q262⟩:=q262
    cases q262
    obtain ⟨v267,H268,e269,S270⟩:=S256.land (dt:=(dI .u8)) (d:=73) (e:=0) (n:=0) h265 h266 (by decide) rfl
    erw [e269]
    refine .fa ?_
    refine .op ((S270.atG (i:=0) rfl).ld (j:=7) rfl) ?_
    refine .bd fun a272 h273=>?_
    obtain ⟨v274,H275,e276,S277⟩:=S270.app (i:=0) (d:=77) (e:=1) (own:=true) (σ:=(3::1::1::0::1::1::1::1::1::1::1::1::0::σ)) rfl (h240.h H268).y h273 rfl (by decide) (by decide) rfl
    refine .op (e276) ?_
    refine .fa ?_
    refine .op ((S277.atG (i:=0) rfl).ld (j:=8) rfl) ?_
    refine .bd fun a278 h279=>?_
    obtain ⟨v280,H281,e282,S283⟩:=S277.app (i:=0) (d:=81) (e:=1) (own:=true) (σ:=(3::0::1::1::1::1::1::1::1::1::1::0::σ)) rfl (h242.h H275).y h279 rfl (by decide) (by decide) rfl
    refine .op (e282) ?_
    obtain ⟨v289,H284,e285,h287,S286⟩:=S283.expFrz (i:=0) (τ:=0::1::σ) rfl rfl
    exact .fin (S286.finE (Ex.st e285 (Ex.pl (sI _ _).lv Ex.nil))) ⟨v289,h287,rfl⟩
   refine .fa ?_
   refine .op ((S230.atG (i:=0) rfl).ld (j:=8) rfl) ?_
   refine .bd fun a290 h291=>?_
   obtain ⟨v292,H293,e294,S295⟩:=S230.app (i:=0) (d:=81) (e:=1) (own:=true) (σ:=(3::0::1::1::1::1::1::1::1::1::1::0::σ)) rfl (h242.h H229).y h291 rfl (by decide) (by decide) rfl
   refine .op (e294) ?_
   obtain ⟨v301,H296,e297,h299,S298⟩:=S295.expFrz (i:=0) (τ:=0::1::σ) rfl rfl
   exact .fin (S298.finE (Ex.st e297 (Ex.pl (sI _ _).lv Ex.nil))) ⟨v301,h299,rfl⟩
 refine .fa ?_
 refine .op ((S9.atG (i:=0) rfl).ld (j:=0) rfl) ?_
 refine .ab ?_
 refine .cq ?_ ?_
 ·have h303:SlF (dI .u8) [(IntKind.wrap .u8 (intBits .or .i64 128 ((x0.Csrc.length:Int)))),(IntKind.wrap .u8 (intBits .or .i64 x0.f_Type 128))] (.fz [(.p (.int .u8 (IntKind.wrap .u8 (intBits .or .i64 128 ((x0.Csrc.length:Int)))))),(.p (.int .u8 (IntKind.wrap .u8 (intBits .or .i64 x0.f_Type 128))))] 2 1 true):=SlF.lit (cs:=[(.p (.int .u8 (IntKind.wrap .u8 (intBits .or .i64 128 ((x0.Csrc.length:Int)))))),(.p (.int .u8 (IntKind.wrap .u8 (intBits .or .i64 x0.f_Type 128))))]) (RL.cons (show (dI .u8).R (IntKind.wrap .u8 (intBits .or .i64 128 ((x0.Csrc.length:Int)))) [(.p (.int .u8 (IntKind.wrap .u8 (intBits .or .i64 128 ((x0.Csrc.length:Int))))))] from rfl) (RL.cons (show (dI .u8).R (IntKind.wrap .u8 (intBits .or .i64 x0.f_Type 128)) [(.p (.int .u8 (IntKind.wrap .u8 (intBits .or .i64 x0.f_Type 128))))] from rfl) RL.nil)) rfl rfl true
  refine .op (bldS (pC rfl (pC rfl pN)) (by kernel_rfl:_=some (vOf h303))) ?_
  refine .fa ?_
  refine .op ((S9.atG (i:=0) rfl).ld (j:=2) rfl) ?_
  refine .ci ?_
  refine .call (zm k ([(IntKind.wrap .u8 (intBits .or .i64 128 ((x0.Csrc.length:Int)))),(IntKind.wrap .u8 (intBits .or .i64 x0.f_Type 128))]) (h303.h H7) (IntKind.wrap .u64 x0.Seq) 2) fun r304 cs305 H306 h307 q308=>?_
  obtain ⟨c309,cs310,h311,h312,q308⟩:=q308
  cases q308
  obtain ⟨v313,H314,e315,S316⟩:=S9.land (dt:=(dI .u8)) (d:=38) (e:=0) (n:=0) h311 h312 (by decide) rfl
  erw [e315]
  refine .fa ?_
  refine .op ((S316.atG (i:=0) rfl).ld (j:=3) rfl) ?_
  refine .ci ?_
  refine .fa ?_
  refine .op ((S316.atG (i:=0) rfl).ld (j:=4) rfl) ?_
  refine .ci ?_
  refine .call (zm k r304 (S316.sl (i:=0) rfl) (IntKind.wrap .u64 x0.Time) 4) fun r318 cs319 H320 h321 q322=>?_
  obtain ⟨c323,cs324,h325,h326,q322⟩:=q322
  cases q322
  obtain ⟨v327,H328,e329,S330⟩:=S316.land (dt:=(dI .u8)) (d:=43) (e:=0) (n:=0) h325 h326 (by decide) rfl
  erw [e329]
  refine .nd (rfl) ?_
  refine .nd ((S330.atG (i:=0) rfl).ld (j:=4) rfl) ?_
  refine .call (zm k r318 (S330.sl (i:=0) rfl) (IntKind.wrap .u64 x0.Ssrc) 4) fun r332 cs333 H334 h335 q336=>?_
  obtain ⟨c337,cs338,h339,h340,q336⟩:=q336
  cases q336
  obtain ⟨v341,H342,e343,S344⟩:=S330.land (dt:=(dI .u8)) (d:=47) (e:=0) (n:=0) h339 h340 (by decide) rfl
  erw [e343]
  refine .fa ?_
  refine .op ((S344.atG (i:=0) rfl).ld (j:=5) rfl) ?_
  refine .op ((h2.h H342).len) ?_
  refine .ci ?_
  refine .as (z4q ?_ k r332 x0.Csrc ((x0.Csrc.length:Int)) 0 x0 v341 v1 h2 _ hu0 (0::0::0::σ) H342 (S344.wk2 (aC (aM 0 rfl) aN) (aC ⟨[47],by simp,aM 0 rfl⟩ aN)))
  ·intro r346_7 yg71 v349 w351 h352 s353 H347 S348
   refine .ext (z5h _ _ _ _ _ _) ?_
   obtain ⟨v355,v357,v359,rfl,h356,h358,h360⟩:=z9.inv h352
   refine .fa ?_
   refine .op ((S348.atG (i:=0) rfl).ld (j:=6) rfl) ?_
   refine .ci ?_
   refine .cq ?_ ?_
   ·refine .fa ?_
    refine .op ((S348.atG (i:=0) rfl).ld (j:=6) rfl) ?_
    refine .ci ?_
    refine .fa ?_
    refine .op ((S348.atG (i:=0) rfl).ld (j:=7) rfl) ?_
    refine .op ((h358.h H347).len) ?_
    refine .ci ?_
    refine .call (zm k r346_7 (S348.sl (i:=0) rfl) (IntKind.wrap .u64 yg71.Profile) 2) fun r362 cs363 H364 h365 q366=>?_
    obtain ⟨c367,cs368,h369,h370,q366⟩:=q366
    cases q366
    obtain ⟨v371,H372,e373,S374⟩:=S348.land (dt:=(dI .u8)) (d:=67) (e:=0) (n:=0) h369 h370 (by decide) rfl
    erw [e373]
    refine .nd (rfl) ?_
    refine .nd ((S374.atG (i:=0) rfl).ld (j:=7) rfl) ?_
    refine .call (zm k r362 (S374.sl (i:=0) rfl) (IntKind.wrap .u64 (IntKind.wrap .i64 (Int.tdiv ((yg71.Ext.length:Int)) 4))) 2) fun r376 cs377 H378 h379 q380=>?_
    obtain ⟨c381,cs382,h383,h384,q380⟩:=q380
    cases q380
    obtain ⟨v385,H386,e387,S388⟩:=S374.land (dt:=(dI .u8)) (d:=73) (e:=0) (n:=0) h383 h384 (by decide) rfl
    erw [e387]
    refine .fa ?_
    refine .op ((S388.atG (i:=0) rfl).ld (j:=7) rfl) ?_
    refine .bd fun a390 h391=>?_
    obtain ⟨v392,H393,e394,S395⟩:=S388.app (i:=0) (d:=77) (e:=1) (own:=true) (σ:=(3::1::1::0::1::1::1::1::1::1::1::1::0::σ)) rfl (h358.h H386).y h391 rfl (by decide) (by decide) rfl
    refine .op (e394) ?_
    refine .fa ?_
    refine .op ((S395.atG (i:=0) rfl).ld (j:=8) rfl) ?_
    refine .bd fun a396 h397=>?_
    obtain ⟨v398,H399,e400,S401⟩:=S395.app (i:=0) (d:=81) (e:=1) (own:=true) (σ:=(3::0::1::1::1::1::1::1::1::1::1::0::σ)) rfl (h360.h H393).y h397 rfl (by decide) (by decide) rfl
    refine .op (e400) ?_
    obtain ⟨v407,H402,e403,h405,S404⟩:=S401.expFrz (i:=0) (τ:=0::1::σ) rfl rfl
    exact .fin (S404.finE (Ex.st e403 (Ex.pl (sI _ _).lv Ex.nil))) ⟨v407,h405,rfl⟩
   refine .fa ?_
   refine .op ((S348.atG (i:=0) rfl).ld (j:=8) rfl) ?_
   refine .bd fun a408 h409=>?_
   obtain ⟨v410,H411,e412,S413⟩:=S348.app (i:=0) (d:=81) (e:=1) (own:=true) (σ:=(3::0::1::1::1::1::1::1::1::1::1::0::σ)) rfl (h360.h H347).y h409 rfl (by decide) (by decide) rfl
   refine .op (e412) ?_
   obtain ⟨v419,H414,e415,h417,S416⟩:=S413.expFrz (i:=0) (τ:=0::1::σ) rfl rfl
   exact .fin (S416.finE (Ex.st e415 (Ex.pl (sI _ _).lv Ex.nil))) ⟨v419,h417,rfl⟩
 have h420:SlF (dI .u8) [(IntKind.wrap .u8 (intBits .or .i64 128 ((x0.Csrc.length:Int)))),(IntKind.wrap .u8 x0.f_Type)] (.fz [(.p (.int .u8 (IntKind.wrap .u8 (intBits .or .i64 128 ((x0.Csrc.length:Int)))))),(.p (.int .u8 (IntKind.wrap .u8 x0.f_Type)))] 2 1 true):=SlF.lit (cs:=[(.p (.int .u8 (IntKind.wrap .u8 (intBits .or .i64 128 ((x0.Csrc.length:Int)))))),(.p (.int .u8 (IntKind.wrap .u8 x0.f_Type)))]) (RL.cons (show (dI .u8).R (IntKind.wrap .u8 (intBits .or .i64 128 ((x0.Csrc.length:Int)))) [(.p (.int .u8 (IntKind.wrap .u8 (intBits .or .i64 128 ((x0.Csrc.length:Int))))))] from rfl) (RL.cons (show (dI .u8).R (IntKind.wrap .u8 x0.f_Type) [(.p (.int .u8 (IntKind.wrap .u8 x0.f_Type)))] from rfl) RL.nil)) rfl rfl true
 refine .op (bldS (pC rfl (pC rfl pN)) (by kernel_rfl:_=some (vOf h420))) ?_
 refine .fa ?_
 refine .op ((S9.atG (i:=0) rfl).ld (j:=2) rfl) ?_
 refine .ci ?_
 refine .call (zm k ([(IntKind.wrap .u8 (intBits .or .i64 128 ((x0.Csrc.length:Int)))),(IntKind.wrap .u8 x0.f_Type)]) (h420.h H7) (IntKind.wrap .u64 x0.Seq) 2) fun r421 cs422 H423 h424 q425=>?_
 obtain ⟨c426,cs427,h428,h429,q425⟩:=q425
 cases q425
 obtain ⟨v430,H431,e432,S433⟩:=S9.land (dt:=(dI .u8)) (d:=38) (e:=0) (n:=0) h428 h429 (by decide) rfl
 erw [e432]
 refine .fa ?_
 refine .op ((S433.atG (i:=0) rfl).ld (j:=3) rfl) ?_
 refine .ci ?_
 refine .fa ?_
 refine .op ((S433.atG (i:=0) rfl).ld (j:=4) rfl) ?_
 refine .ci ?_
 refine .call (zm k r421 (S433.sl (i:=0) rfl) (IntKind.wrap .u64 x0.Time) 4) fun r435 cs436 H437 h438 q439=>?_
 obtain ⟨c440,cs441,h442,h443,q439⟩:=q439
 cases q439
 obtain ⟨v444,H445,e446,S447⟩:=S433.land (dt:=(dI .u8)) (d:=43) (e:=0) (n:=0) h442 h443 (by decide) rfl
 erw [e446]
 refine .nd (rfl) ?_
 refine .nd ((S447.atG (i:=0) rfl).ld (j:=4) rfl) ?_
 refine .call (zm k r435 (S447.sl (i:=0) rfl) (IntKind.wrap .u64 x0.Ssrc) 4) fun r449 cs450 H451 h452 q453=>?_
 obtain ⟨c454,cs455,h456,h457,q453⟩:=q453
 cases q453
 obtain ⟨v458,H459,e460,S461⟩:=S447.land (dt:=(dI .u8)) (d:=47) (e:=0) (n:=0) h456 h457 (by decide) rfl
 erw [e460]
 refine .fa ?_
 refine .op ((S461.atG (i:=0) rfl).ld (j:=5) rfl) ?_
 refine .op ((h2.h H459).len) ?_
 refine .ci ?_
 refine .as (z4q ?_ k r449 x0.Csrc ((x0.Csrc.length:Int)) 0 x0 v458 v1 h2 _ hu0 (0::0::0::σ) H459 (S461.wk2 (aC (aM 0 rfl) aN) (aC ⟨[47],by simp,aM 0 rfl⟩ aN)))
 ·intro r463_7 yg71 v466 w468 h469 s470 H464 S465
  refine .ext (z5h _ _ _ _ _ _) ?_
  obtain ⟨v472,v474,v476,rfl,h473,h475,h477⟩:=z9.inv h469
  refine .fa ?_
  refine .op ((S465.atG (i:=0) rfl).ld (j:=6) rfl) ?_
  refine .ci ?_
  refine .cq ?_ ?_
  ·refine .fa ?_
   refine .op ((S465.atG (i:=0) rfl).ld (j:=6) rfl) ?_
   refine .ci ?_
   refine .fa ?_
   refine .op ((S465.atG (i:=0) rfl).ld (j:=7) rfl) ?_
   refine .op ((h475.h H464).len) ?_
   refine .ci ?_
   refine .call (zm k r463_7 (S465.sl (i:=0) rfl) (IntKind.wrap .u64 yg71.Profile) 2) fun r479 cs480 H481 h482 q483=>?_
   obtain ⟨c484,cs485,h486,h487,q483⟩:=q483
   cases q483
   obtain ⟨v488,H489,e490,S491⟩:=S465.land (dt:=(dI .u8)) (d:=67) (e:=0) (n:=0) h486 h487 (by decide) rfl
   erw [e490]
   refine .nd (rfl) ?_
   refine .nd ((S491.atG (i:=0) rfl).ld (j:=7) rfl) ?_
   refine .call (zm k r479 (S491.sl (i:=0) rfl) (IntKind.wrap .u64 (IntKind.wrap .i64 (Int.tdiv ((yg71.Ext.length:Int)) 4))) 2) fun r493 cs494 H495 h496 q497=>?_
   obtain ⟨c498,cs499,h500,h501,q497⟩:=q497
   cases q497
   obtain ⟨v502,H503,e504,S505⟩:=S491.land (dt:=(dI .u8)) (d:=73) (e:=0) (n:=0) h500 h501 (by decide) rfl
   erw [e504]
   refine .fa ?_
   refine .op ((S505.atG (i:=0) rfl).ld (j:=7) rfl) ?_
   refine .bd fun a507 h508=>?_
   obtain ⟨v509,H510,e511,S512⟩:=S505.app (i:=0) (d:=77) (e:=1) (own:=true) (σ:=(3::1::1::0::1::1::1::1::1::1::1::1::0::σ)) rfl (h475.h H503).y h508 rfl (by decide) (by decide) rfl
   refine .op (e511) ?_
   refine .fa ?_
   refine .op ((S512.atG (i:=0) rfl).ld (j:=8) rfl) ?_
   refine .bd fun a513 h514=>?_
   obtain ⟨v515,H516,e517,S518⟩:=S512.app (i:=0) (d:=81) (e:=1) (own:=true) (σ:=(3::0::1::1::1::1::1::1::1::1::1::0::σ)) rfl (h477.h H510).y h514 rfl (by decide) (by decide) rfl
   refine .op (e517) ?_
   obtain ⟨v524,H519,e520,h522,S521⟩:=S518.expFrz (i:=0) (τ:=0::1::σ) rfl rfl
   exact .fin (S521.finE (Ex.st e520 (Ex.pl (sI _ _).lv Ex.nil))) ⟨v524,h522,rfl⟩
  refine .fa ?_
  refine .op ((S465.atG (i:=0) rfl).ld (j:=8) rfl) ?_
  refine .bd fun a525 h526=>?_
  obtain ⟨v527,H528,e529,S530⟩:=S465.app (i:=0) (d:=81) (e:=1) (own:=true) (σ:=(3::0::1::1::1::1::1::1::1::1::1::0::σ)) rfl (h477.h H464).y h526 rfl (by decide) (by decide) rfl
  refine .op (e529) ?_
  obtain ⟨v536,H531,e532,h534,S533⟩:=S530.expFrz (i:=0) (τ:=0::1::σ) rfl rfl
  exact .fin (S533.finE (Ex.st e532 (Ex.pl (sI _ _).lv Ex.nil))) ⟨v536,h534,rfl⟩
end
end Go.Ev
namespace Go.Ev
open Go.Proofs
set_option linter.unusedVariables false
set_option linter.unusedSimpArgs false
set_option maxRecDepth 100000
noncomputable section
abbrev KT3:=Exit→Env→H→Option (List C × H)
variable (rec : CallF) (loop : LoopV) (σ : Stamp)
def z4z:Code:=(codeAt (bodyOf Try.f85) [1,1,1,1,0,1,0,0])
def z54:Lv:=⟨64,48,[(0,64)]⟩
def z92:KT3:=(kBlock 0 (kSeq G rec loop (codeAt (bodyOf Try.f85) [1,1,1,1,1]) ⟨48,48,[]⟩ (1::1::1::1::0::σ) (finC G true Try.f85 (1::σ))))
theorem zfu (x0:Int) (x1:V) (h:H):cvBody G rec loop 85 σ [(.p (.int .u16 x0)),x1] h =
(bif x0 != 48862 then (some (x0 != 4096)) else (some false)).bind fun b1 =>
bif b1 then (
fin true σ (List.replicate 89 []::h) [(.p (.slice .none 0 0)),(.p (.int .i64 1))])
else (
(lenO x1).bind fun t2 =>
(castI .i64 t2).bind fun n3 =>
bif decide (n3>8) then (
fin true σ (List.replicate 89 []::h) [(.p (.slice .none 0 0)),(.p (.int .i64 3))])
else (
(lenO x1).bind fun t4 =>
(castI .i64 t4).bind fun n5 =>
(loop z4z z54 (1::0::1::1::1::1::0::σ) (envL [(0,(.p (.int .u16 x0))),(6,(.p (.slice .none 0 0))),(19,x1),(20,(.p (.int .i64 n5))),(21,(.p (.int .i64 0)))]) (List.replicate 89 []::h)).bind fun r6=>z92 rec loop σ r6.1 r6.2.1 r6.2.2)):=by kernel_rfl
theorem zj1 (x0:Int) (x6:V) (x19:V) (x20:Int) (x21:Int) (h:H):zo G rec loop z4z z54 σ (envL [(0,(.p (.int .u16 x0))),(6,x6),(19,x19),(20,(.p (.int .i64 x20))),(21,(.p (.int .i64 x21)))]) h =
bif decide (x21<x20) then (
(iS 2 x19 x21).bind fun t7 =>
(ldO true 2 h t7).bind fun t8 =>
(some (alO [.p (.int .i64 0),.p (.slice none 0 0)] (2::0::0::1::1::0::σ) 8 h)).bind fun q9 =>
((stO false 2 (3::0::0::1::1::0::σ) q9.2 q9.1 t8).map fun h=>(udf,h)).bind fun q10 =>
(fA q9.1 1).bind fun t11 =>
(ldO false 1 q10.2 t11).bind fun t12 =>
(lenO t12).bind fun t13 =>
(castI .i64 t13).bind fun n14 =>
(bif x0==48862 then ((fA q9.1 0).bind fun t15 =>
(ldO false 1 q10.2 t15).bind fun t16 =>
(castI .i64 t16).bind fun n17 =>
(bif decide (n17<1) then (some true) else ((fA q9.1 0).bind fun t18 =>
(ldO false 1 q10.2 t18).bind fun t19 =>
(castI .i64 t19).bind fun n20 =>
some (decide (n20>14)))).bind fun b21 =>
(bif b21 then (some true) else (some (decide (n14<1)))).bind fun b22 =>
(bif b22 then (some true) else (some (decide (n14>16)))).bind fun b23 =>
some b23) else (some false)).bind fun b24 =>
(bif b24 then (some true) else ((fA q9.1 0).bind fun t25 =>
(ldO false 1 q10.2 t25).bind fun t26 =>
(castI .i64 t26).bind fun n27 =>
some (decide (n27<1)))).bind fun b28 =>
(bif b28 then (some true) else ((fA q9.1 0).bind fun t29 =>
(ldO false 1 q10.2 t29).bind fun t30 =>
(castI .i64 t30).bind fun n31 =>
some (decide (n31>255)))).bind fun b32 =>
(bif b32 then (some true) else (some (decide (n14>255)))).bind fun b33 =>
bif b33 then (
some (.ret,(envL [(4,(.p (.slice .none 0 0))),(5,(.p (.int .i64 1)))]),q10.2))
else (
bif x0==48862 then (
(fA q9.1 0).bind fun t34 =>
(ldO false 1 q10.2 t34).bind fun t35 =>
(castI .i64 t35).bind fun n36 =>
(bSV Try.prog 79 1 [(0,(.p (.int .u8 (IntKind.wrap .u8 (IntKind.wrap .i64 ((IntKind.wrap .i64 ((IntKind.wrap .i64 (16*n36))+n14))-1))))))]).bind fun t37 =>
(apO true 1 1 (9::1::0::1::1::1::0::1::1::0::σ) 73 q10.2 x6 t37).bind fun q38 =>
(fA q9.1 1).bind fun t39 =>
(ldO false 1 q38.2 t39).bind fun t40 =>
(apO true 1 1 (3::1::1::1::1::0::1::1::0::σ) 85 q38.2 q38.1 t40).bind fun q41 =>
loop z4z z54 (1::σ) (envL [(0,(.p (.int .u16 x0))),(6,q41.1),(19,x19),(20,(.p (.int .i64 x20))),(21,(.p (.int .i64 (IntKind.wrap .i64 (x21+1)))))]) q41.2)
else (
(fA q9.1 0).bind fun t42 =>
(ldO false 1 q10.2 t42).bind fun t43 =>
(castI .i64 t43).bind fun n44 =>
(bSV Try.prog 79 2 [(0,(.p (.int .u8 (IntKind.wrap .u8 n44)))),(1,(.p (.int .u8 (IntKind.wrap .u8 n14))))]).bind fun t45 =>
(apO true 1 1 (7::1::0::1::1::1::0::1::1::0::σ) 81 q10.2 x6 t45).bind fun q46 =>
(fA q9.1 1).bind fun t47 =>
(ldO false 1 q46.2 t47).bind fun t48 =>
(apO true 1 1 (3::1::1::1::1::0::1::1::0::σ) 85 q46.2 q46.1 t48).bind fun q49 =>
loop z4z z54 (1::σ) (envL [(0,(.p (.int .u16 x0))),(6,q49.1),(19,x19),(20,(.p (.int .i64 x20))),(21,(.p (.int .i64 (IntKind.wrap .i64 (x21+1)))))]) q49.2)))
else (
some ((.exit 0),(envL [(6,x6)]),h)):=by kernel_rfl
theorem zgm (x6:V) (h:H):z92 rec loop σ (.exit 0) (envL [(6,x6)]) h =
(callO rec 133 (1::0::1::1::1::1::1::0::σ) [x6,(.p (.int .i64 4))] h (some 88)).bind fun q50 =>
fin true σ q50.2 [q50.1,(.p (.int .i64 0))]:=by kernel_rfl
theorem zen (x4:V) (x5:Int) (h:H):z92 rec loop σ .ret (envL [(4,x4),(5,(.p (.int .i64 x5)))]) h =
fin true σ h [x4,(.p (.int .i64 x5))]:=by kernel_rfl
def z86:Code:=(codeAt (bodyOf Try.f133) [1,1,0,0,0])
def z83:Lv:=⟨32,16,[(0,32)]⟩
def zfj:KT3:=(kBlock 0 (kSeq G rec loop (codeAt (bodyOf Try.f133) [1,1,1]) ⟨16,16,[]⟩ (1::1::0::σ) (finC G false Try.f133 (1::σ))))
theorem zi2 (x0:V) (x1:Int) (h:H):cvBody G rec loop 133 σ [x0,(.p (.int .i64 x1))] h =
(bSV Try.prog 79 0 []).bind fun t1 =>
(apO true 1 1 (2::0::1::0::σ) 8 (List.replicate 26 []::h) t1 x0).bind fun q2 =>
(loop z86 z83 (0::1::1::0::σ) (envL [(1,(.p (.int .i64 x1))),(5,q2.1)]) q2.2).bind fun r3=>zfj rec loop σ r3.1 r3.2.1 r3.2.2:=by kernel_rfl
theorem zm3 (x1:Int) (x5:V) (h:H):zo G rec loop z86 z83 σ (envL [(1,(.p (.int .i64 x1))),(5,x5)]) h =
(bif decide (x1≥1) then (some (decide (x1≤64))) else (some false)).bind fun b4 =>
(bif b4 then ((lenO x5).bind fun t5 =>
(castI .i64 t5).bind fun n6 =>
(remI .i64 n6 x1).bind fun t7 =>
(castI .i64 t7).bind fun n8 =>
some (n8 != 0)) else (some false)).bind fun b9 =>
bif b9 then (
(bSV Try.prog 79 1 [(0,(.p (.int .u8 0)))]).bind fun t10 =>
(apO true 1 1 (2::1::0::σ) 24 h x5 t10).bind fun q11 =>
loop z86 z83 (1::σ) (envL [(1,(.p (.int .i64 x1))),(5,q11.1)]) q11.2)
else (
some ((.exit 0),(envL [(5,x5)]),h)):=by kernel_rfl
theorem zjr (x5:V) (h:H):zfj rec loop σ (.exit 0) (envL [(5,x5)]) h =
fin false σ h [x5]:=by kernel_rfl
end
end Go.Ev
namespace Go.Ev
open Go.Proofs
set_option linter.unusedVariables false
set_option linter.unusedSimpArgs false
set_option maxRecDepth 100000
section
variable {β α : Type} {Q : β→α→Prop} {K : Exit × Env × H→Option α}
def z6a {β:Type} (k:Nat) (kE0:(List Int)→Option β) (x1:Int) (x5:(List Int)):Option β:=match k with
| 0=>none
| k+1 =>
(bif decide (x1≥1) then (some (decide (x1≤64))) else (some false)).bind fun b14 =>
(bif b14 then ((remP ((x5.length:Int)) x1).bind fun n18 =>
some (n18 != 0)) else (some false)).bind fun b20 =>
bif b20 then (
(ap 1 x5 ([0])).bind fun a26 =>
z6a k kE0 x1 a26)
else (
kE0 x5)
def zcc (k:Nat) (x0:(List Int)) (x1:Int):Option ((List Int)) :=
(ap 1 (([]:List Int)) x0).bind fun a4 =>
z6a k (fun r36_5 =>
some (r36_5)) x1 a4
theorem zi1 {h:H}  {kE0:(List Int)→Option β} (hE0:∀ (q5:(List Int)) (v34:V) (H32:Go.Ev.H) (_:Fm 26 h [] [] [⟨[8,24],v34,(dI .u8),q5⟩] H32),Sim (kE0 q5) (K ((.exit 0),(envL [(5,v34)]),H32)) Q) (k:Nat):∀ (x1:Int) (x5:(List Int)) (v12:V) (H10:Go.Ev.H) (_:Fm 26 h [] [] [⟨[8,24],v12,(dI .u8),x5⟩] H10) {σ:Stamp},Sim (z6a k kE0 x1 x5) ((cvL G X0 z86 z83 σ (envL [(1,(.p (.int .i64 x1))),(5,v12)]) H10).bind K) Q:=by
 induction k with
 | zero=>intros;exact .no
 | succ k ih =>
  intro x1 x5 v12 H10 S11 σ
  rw [z6a]
  refine .round (Sim.ext (zm3 _ _ _ _ _ _) ?_)
  refine .ch (P:=fun r y=>r=y) ?_ (fun b14 y15 h16 h17=>?_)
  ·refine .cq ?_ ?_
   ·exact .ret rfl rfl
   ·exact .ret rfl rfl
  subst h17
  refine .ch (P:=fun r y=>r=y) ?_ (fun b20 y21 h22 h23=>?_)
  ·refine .cq ?_ ?_
   ·refine .op ((S11.sl (i:=0) rfl).len) ?_
    refine .ci ?_
    refine .bd fun n18 h19=>?_
    refine .op (zdf h19) ?_
    refine .ci ?_
    exact .ret rfl rfl
   ·exact .ret rfl rfl
  subst h23
  refine .cq ?_ ?_
  ·have h25:=SlF.int1 .u8 0
   refine .op (bldS (pC rfl pN) (by kernel_rfl:_=some (vOf h25))) ?_
   refine .bd fun a26 h27=>?_
   obtain ⟨v28,H29,e30,S31⟩:=S11.app (i:=0) (d:=24) (e:=1) (own:=true) (σ:=(2::1::0::σ)) rfl (h25.h H10).y h27 rfl (by decide) (by decide) rfl
   refine .op (e30) ?_
   exact ih x1 a26 v28 H29 (S31.wk2 aN (aC ⟨[24,8,24],by simp,aM 0 rfl⟩ aN))
  exact hE0 x5 v12 H10 (S11.wk2 aN (aC ⟨[8,24],by simp,aM 0 rfl⟩ aN))
theorem zm2 (k:Nat) {h:H} {σ:Stamp} (x0:List Int) {u0:V} (hu0:SlH h (dI .u8) x0 u0) (x1:Int):Sim (zcc k x0 x1) (ev G X0 133 σ [u0,(.p (.int .i64 x1))] h) (fun r s=>∃ (c0:C),∃ (a0:List V),OwnS c0 (dI .u8).sz r.length a0∧(dI .u8).L r a0∧s=([c0],h)):=by
 refine .ev rfl (Sim.ext (zi2 _ _ _ _ _ _) ?_)
 rw [zcc]
 have S0:Fm 26 h [] [] [] (List.replicate 26 []::h):=Fm.start0
 have h1:SlF (dI .u8) ([]:List Int) (.fz [] 0 1 true):=SlF.lit (cs:=[]) RL.nil rfl rfl true
 refine .op (bldS pN (by kernel_rfl:_=some (vOf h1))) ?_
 have S3:=S0.nil' (dI .u8) [] (e:=1) rfl
 refine .bd fun a4 h5=>?_
 obtain ⟨v6,H7,e8,S9⟩:=S3.app (i:=0) (d:=8) (e:=1) (own:=true) (σ:=(2::0::1::0::σ)) rfl (S3.low hu0).y h5 rfl (by decide) (by decide) rfl
 refine .op (e8) ?_
 refine .as (zi1 ?_ k x1 a4 v6 H7 (S9.wk2 aN (aC ⟨[8],by simp,aM 0 rfl⟩ aN)))
 ·intro r36_5 v39 H37 S38
  refine .ext (zjr _ _ _ _ _) ?_
  obtain ⟨c46,cs47,H41,e42,h44,h45,S43⟩:=S38.expOwn (i:=0) (τ:=0::1::σ) rfl rfl rfl
  exact .fin (S43.finE (Ex.st e42 Ex.nil)) ⟨c46,cs47,h44,h45,rfl⟩
def z42 {β:Type} (k:Nat) (kE0:(List Int)→Option β) (kE1:Int→Option β) (x0:Int) (x6:(List Int)) (x19:(List z23)) (x20:Int) (x21:Int):Option β:=match k with
| 0=>none
| k+1 =>
bif decide (x21<x20) then (
(ix x19 x21).bind fun a16 =>
(bif x0==48862 then ((bif decide (a16.ID<1) then (some true) else (some (decide (a16.ID>14)))).bind fun b30 =>
(bif b30 then (some true) else (some (decide (((a16.Data.length:Int))<1)))).bind fun b34 =>
(bif b34 then (some true) else (some (decide (((a16.Data.length:Int))>16)))).bind fun b38 =>
some b38) else (some false)).bind fun b42 =>
(bif b42 then (some true) else (some (decide (a16.ID<1)))).bind fun b46 =>
(bif b46 then (some true) else (some (decide (a16.ID>255)))).bind fun b50 =>
(bif b50 then (some true) else (some (decide (((a16.Data.length:Int))>255)))).bind fun b54 =>
bif b54 then (
kE1 1)
else (
bif x0==48862 then (
(ap 1 x6 ([(IntKind.wrap .u8 (IntKind.wrap .i64 ((IntKind.wrap .i64 ((IntKind.wrap .i64 (16*a16.ID))+((a16.Data.length:Int))))-1)))])).bind fun a61 =>
(ap 1 a61 a16.Data).bind fun a67 =>
z42 k kE0 kE1 x0 a67 x19 x20 (IntKind.wrap .i64 (x21+1)))
else (
(ap 1 x6 ([(IntKind.wrap .u8 a16.ID),(IntKind.wrap .u8 ((a16.Data.length:Int)))])).bind fun a74 =>
(ap 1 a74 a16.Data).bind fun a80 =>
z42 k kE0 kE1 x0 a80 x19 x20 (IntKind.wrap .i64 (x21+1)))))
else (
kE0 x6)
def z7b (k:Nat) (x0:Int) (x1:(List z23)):Option ((List Int)×Int) :=
(bif x0 != 48862 then (some (x0 != 4096)) else (some false)).bind fun b1 =>
bif b1 then (
some ((([]:List Int)),1))
else (
bif decide (((x1.length:Int))>8) then (
some ((([]:List Int)),3))
else (
z42 k (fun r94_6 =>
(zcc k r94_6 4).bind fun r99 =>
some (r99,0)) (fun r119_5 =>
some ((([]:List Int)),r119_5)) x0 (([]:List Int)) x1 ((x1.length:Int)) 0))
theorem zfd {h:H}  {kE0:(List Int)→Option β} {kE1:Int→Option β} (hE0:∀ (q6:(List Int)) (v88:V) (H86:Go.Ev.H) (_:Fm 89 h [] [] [⟨[73,81,85],v88,(dI .u8),q6⟩] H86),Sim (kE0 q6) (K ((.exit 0),(envL [(6,v88)]),H86)) Q) (hE1:∀ (q5:Int) (H90:Go.Ev.H) (_:Fm 89 h [] [] [] H90),Sim (kE1 q5) (K (.ret,(envL [(4,(.p (.slice none 0 0))),(5,(.p (.int .i64 q5)))]),H90)) Q) (k:Nat):∀ (x0:Int) (x6:(List Int)) (x19:(List z23)) (x20:Int) (x21:Int) (v11:V) (v13:V) (h14:SlH h z3e x19 v13) (H9:Go.Ev.H) (_:Fm 89 h [] [] [⟨[73,81,85],v11,(dI .u8),x6⟩] H9) {σ:Stamp},Sim (z42 k kE0 kE1 x0 x6 x19 x20 x21) ((cvL G X0 z4z z54 σ (envL [(0,(.p (.int .u16 x0))),(6,v11),(19,v13),(20,(.p (.int .i64 x20))),(21,(.p (.int .i64 x21)))]) H9).bind K) Q:=by
 induction k with
 | zero=>intros;exact .no
 | succ k ih =>
  intro x0 x6 x19 x20 x21 v11 v13 h14 H9 S10 σ
  rw [z42]
  refine .round (Sim.ext (zj1 _ _ _ _ _ _ _ _ _) ?_)
  refine .cq ?_ ?_
  ·refine .bd fun a16 h17=>?_
   refine .op ((S10.low h14).iS h17 rfl) ?_
   obtain ⟨w19,h20,hE18⟩:=(S10.low h14).el h17 rfl
   obtain ⟨v21,rfl,h22⟩:=z3e.inv h20
   refine .op (hE18.all (by simp)) ?_
   obtain ⟨H23,e24,S25⟩:=S10.al (d:=8) (s:=(2::0::0::1::1::0::σ)) (z:=[(.p (.int .i64 0)),(.p (.slice none 0 0))]) (by decide) rfl
   refine .op (congrArg some e24) ?_
   obtain ⟨H27,e28,S29⟩:=S25.stGv (i:=0) (j:=0) (own:=false) (σ:=(3::0::0::1::1::0::σ)) (xs:=[.p (.int .i64 a16.ID),v21]) rfl rfl (sC (sI _ _) (sC h22.still sN)) rfl rfl
   refine .op (sM e28) ?_
   refine .fa ?_
   refine .op ((S29.atG (i:=0) rfl).ld (j:=1) rfl) ?_
   refine .op ((h22.h H27).len) ?_
   refine .ci ?_
   refine .ch (P:=fun r y=>r=y) ?_ (fun b42 y43 h44 h45=>?_)
   ·refine .cq ?_ ?_
    ·refine .fa ?_
     refine .op ((S29.atG (i:=0) rfl).ld (j:=0) rfl) ?_
     refine .ci ?_
     refine .ch (P:=fun r y=>r=y) ?_ (fun b30 y31 h32 h33=>?_)
     ·refine .cq ?_ ?_
      ·exact .ret rfl rfl
      ·refine .fa ?_
       refine .op ((S29.atG (i:=0) rfl).ld (j:=0) rfl) ?_
       refine .ci ?_
       exact .ret rfl rfl
     subst h33
     refine .ch (P:=fun r y=>r=y) ?_ (fun b34 y35 h36 h37=>?_)
     ·refine .cq ?_ ?_
      ·exact .ret rfl rfl
      ·exact .ret rfl rfl
     subst h37
     refine .ch (P:=fun r y=>r=y) ?_ (fun b38 y39 h40 h41=>?_)
     ·refine .cq ?_ ?_
      ·exact .ret rfl rfl
      ·exact .ret rfl rfl
     subst h41
     exact .ret rfl rfl
    ·exact .ret rfl rfl
   subst h45
   refine .ch (P:=fun r y=>r=y) ?_ (fun b46 y47 h48 h49=>?_)
   ·refine .cq ?_ ?_
    ·exact .ret rfl rfl
    ·refine .fa ?_
     refine .op ((S29.atG (i:=0) rfl).ld (j:=0) rfl) ?_
     refine .ci ?_
     exact .ret rfl rfl
   subst h49
   refine .ch (P:=fun r y=>r=y) ?_ (fun b50 y51 h52 h53=>?_)
   ·refine .cq ?_ ?_
    ·exact .ret rfl rfl
    ·refine .fa ?_
     refine .op ((S29.atG (i:=0) rfl).ld (j:=0) rfl) ?_
     refine .ci ?_
     exact .ret rfl rfl
   subst h53
   refine .ch (P:=fun r y=>r=y) ?_ (fun b54 y55 h56 h57=>?_)
   ·refine .cq ?_ ?_
    ·exact .ret rfl rfl
    ·exact .ret rfl rfl
   subst h57
   refine .cq ?_ ?_
   ·exact hE1 1 H27 (S29.wk2 aN aN)
   refine .cq ?_ ?_
   ·refine .fa ?_
    refine .op ((S29.atG (i:=0) rfl).ld (j:=0) rfl) ?_
    refine .ci ?_
    have h60:=SlF.int1 .u8 (IntKind.wrap .u8 (IntKind.wrap .i64 ((IntKind.wrap .i64 ((IntKind.wrap .i64 (16*a16.ID))+((a16.Data.length:Int))))-1)))
    refine .op (bldS (pC rfl pN) (by kernel_rfl:_=some (vOf h60))) ?_
    refine .bd fun a61 h62=>?_
    obtain ⟨v63,H64,e65,S66⟩:=S29.app (i:=0) (d:=73) (e:=1) (own:=true) (σ:=(9::1::0::1::1::1::0::1::1::0::σ)) rfl (h60.h H27).y h62 rfl (by decide) (by decide) rfl
    refine .op (e65) ?_
    refine .fa ?_
    refine .op ((S66.atG (i:=0) rfl).ld (j:=1) rfl) ?_
    refine .bd fun a67 h68=>?_
    obtain ⟨v69,H70,e71,S72⟩:=S66.app (i:=0) (d:=85) (e:=1) (own:=true) (σ:=(3::1::1::1::1::0::1::1::0::σ)) rfl (h22.h H64).y h68 rfl (by decide) (by decide) rfl
    refine .op (e71) ?_
    exact ih x0 a67 x19 x20 (IntKind.wrap .i64 (x21+1)) v69 v13 h14 H70 (S72.wk2 aN (aC ⟨[85,73,73,81,85],by simp,aM 0 rfl⟩ aN))
   refine .fa ?_
   refine .op ((S29.atG (i:=0) rfl).ld (j:=0) rfl) ?_
   refine .ci ?_
   have h73:SlF (dI .u8) [(IntKind.wrap .u8 a16.ID),(IntKind.wrap .u8 ((a16.Data.length:Int)))] (.fz [(.p (.int .u8 (IntKind.wrap .u8 a16.ID))),(.p (.int .u8 (IntKind.wrap .u8 ((a16.Data.length:Int)))))] 2 1 true):=SlF.lit (cs:=[(.p (.int .u8 (IntKind.wrap .u8 a16.ID))),(.p (.int .u8 (IntKind.wrap .u8 ((a16.Data.length:Int)))))]) (RL.cons (show (dI .u8).R (IntKind.wrap .u8 a16.ID) [(.p (.int .u8 (IntKind.wrap .u8 a16.ID)))] from rfl) (RL.cons (show (dI .u8).R (IntKind.wrap .u8 ((a16.Data.length:Int))) [(.p (.int .u8 (IntKind.wrap .u8 ((a16.Data.length:Int)))))] from rfl) RL.nil)) rfl rfl true
   refine .op (bldS (pC rfl (pC rfl pN)) (by kernel_rfl:_=some (vOf h73))) ?_
   refine .bd fun a74 h75=>?_
   obtain ⟨v76,H77,e78,S79⟩:=S29.app (i:=0) (d:=81) (e:=1) (own:=true) (σ:=(7::1::0::1::1::1::0::1::1::0::σ)) rfl (h73.h H27).y h75 rfl (by decide) (by decide) rfl
   refine .op (e78) ?_
   refine .fa ?_
   refine .op ((S79.atG (i:=0) rfl).ld (j:=1) rfl) ?_
   refine .bd fun a80 h81=>?_
   obtain ⟨v82,H83,e84,S85⟩:=S79.app (i:=0) (d:=85) (e:=1) (own:=true) (σ:=(3::1::1::1::1::0::1::1::0::σ)) rfl (h22.h H77).y h81 rfl (by decide) (by decide) rfl
   refine .op (e84) ?_
   exact ih x0 a80 x19 x20 (IntKind.wrap .i64 (x21+1)) v82 v13 h14 H83 (S85.wk2 aN (aC ⟨[85,81,73,81,85],by simp,aM 0 rfl⟩ aN))
  exact hE0 x6 v11 H9 (S10.wk2 aN (aC ⟨[73,81,85],by simp,aM 0 rfl⟩ aN))
theorem zij (k:Nat) {h:H} {σ:Stamp} (x0:Int) (x1:List z23) {u1:V} (hu1:SlH h z3e x1 u1):Sim (z7b k x0 x1) (ev G X0 85 σ [(.p (.int .u16 x0)),u1] h) (fun r s=>∃ (v0:V),SlF (dI .u8) r.1 v0∧s=([.v v0,.v (.p (.int .i64 r.2))],h)):=by
 refine .ev rfl (Sim.ext (zfu _ _ _ _ _ _) ?_)
 rw [z7b]
 have S0:Fm 89 h [] [] [] (List.replicate 89 []::h):=Fm.start0
 refine .ch (P:=fun r y=>r=y) ?_ (fun b1 y2 h3 h4=>?_)
 ·refine .cq ?_ ?_
  ·exact .ret rfl rfl
  ·exact .ret rfl rfl
 subst h4
 refine .cq ?_ ?_
 ·exact .fin (S0.finN (lC (SlF.nil (dI .u8)).still.lv (lC (sI _ _).lv lN))) ⟨(.p (.slice none 0 0)),(SlF.nil (dI .u8)),rfl⟩
 refine .op ((S0.low hu1).len) ?_
 refine .ci ?_
 refine .cq ?_ ?_
 ·exact .fin (S0.finN (lC (SlF.nil (dI .u8)).still.lv (lC (sI _ _).lv lN))) ⟨(.p (.slice none 0 0)),(SlF.nil (dI .u8)),rfl⟩
 refine .op ((S0.low hu1).len) ?_
 refine .ci ?_
 have S93:=S0.nil (dI .u8) []
 refine .as (zfd ?_ ?_ k x0 (([]:List Int)) x1 ((x1.length:Int)) 0 (.p (.slice none 0 0)) u1 hu1 (List.replicate 89 []::h) (S93.wk2 aN (aC ⟨[],by simp,aM 0 rfl⟩ aN)))
 ·intro r94_6 v97 H95 S96
  refine .ext (zgm _ _ _ _ _) ?_
  refine .call (zm2 k r94_6 (S96.sl (i:=0) rfl) 4) fun r99 cs100 H101 h102 q103=>?_
  obtain ⟨c104,cs105,h106,h107,q103⟩:=q103
  cases q103
  obtain ⟨v108,H109,e110,S111⟩:=S96.land (dt:=(dI .u8)) (d:=88) (e:=0) (n:=0) h106 h107 (by decide) rfl
  erw [e110]
  obtain ⟨v118,H113,e114,h116,S115⟩:=S111.expFrz (i:=0) (τ:=0::1::σ) rfl rfl
  exact .fin (S115.finE (Ex.st e114 (Ex.pl (sI _ _).lv Ex.nil))) ⟨v118,h116,rfl⟩
 ·intro r119_5 H120 S121
  refine .ext (zen _ _ _ _ _ _) ?_
  exact .fin (S121.finN (lC (SlF.nil (dI .u8)).still.lv (lC (sI _ _).lv lN))) ⟨(.p (.slice none 0 0)),(SlF.nil (dI .u8)),rfl⟩
def z5q (k:Nat) (x0:z7) (x1:Int) (x2:Int) (x3:Bool) (x4:Int):Option ((List Int)) :=
(mk 1 0 x4).bind fun a7 =>
(z7b k 48862 ([((⟨1,(bytesS x0.Rid)⟩:z23))])).bind fun r30 =>
(bif x3 then (some (decide (x4>0))) else (some false)).bind fun b40 =>
bif b40 then (
(ix a7 0).bind fun a45 =>
(stx a7 0 1).bind fun a50 =>
(z4l k ((⟨false,96,x1,x2,x0.Ssrc,(([]:List Int)),48862,r30.1,a50⟩:TaiRtp))).bind fun r67 =>
some (r67.1))
else (
(z4l k ((⟨false,96,x1,x2,x0.Ssrc,(([]:List Int)),48862,r30.1,a7⟩:TaiRtp))).bind fun r86 =>
some (r86.1))
theorem zjt (k:Nat) {h:H} {σ:Stamp} (x0:z7) {u0:List V} (hu0:zb.R x0 u0) (x1:Int) (x2:Int) (x3:Bool) (x4:Int):Sim (z5q k x0 x1 x2 x3 x4) (ev G X0 41 σ [(.agg u0),(.p (.int .u16 x1)),(.p (.int .u32 x2)),(.p (.bool x3)),(.p (.int .i64 x4))] h) (fun r s=>∃ (v0:V),SlF (dI .u8) r v0∧s=([.v v0],h)):=by
 refine .ev rfl (Sim.ext (zfh _ _ _ _ _ _ _ _ _) ?_)
 rw [z5q]
 obtain rfl:=zb.inv hu0
 have S0:Fm 45 h [] [] [] (List.replicate 45 []::h):=Fm.start0
 obtain ⟨H1,e2,S3⟩:=S0.box (own:=false) (d:=5) (s:=(0::0::0::σ)) (xs:=[(.p (.string x0.Rid)),(.p (.int .u32 x0.Ssrc)),(.p (.int .i64 x0.Height))]) (sC (still_str _) (sC (sI _ _) (sC (sI _ _) sN))) (by decide) rfl
 refine .op (e2) ?_
 have S5:=S3.add (d:=11) (s:=(7::0::1::0::σ)) (cs:=List.map C.v [(.p (.bool false)),(.p (.int .i64 0)),(.p (.int .u16 0)),(.p (.int .u32 0)),(.p (.int .u32 0)),(.p (.slice none 0 0)),(.p (.int .u16 0)),(.p (.slice none 0 0)),(.p (.slice none 0 0))]) (by decide) rfl
 have S5:Fm _ _ _ _ _ (alO [(.p (.bool false)),(.p (.int .i64 0)),(.p (.int .u16 0)),(.p (.int .u32 0)),(.p (.int .u32 0)),(.p (.slice none 0 0)),(.p (.int .u16 0)),(.p (.slice none 0 0)),(.p (.slice none 0 0))] (7::0::1::0::σ) 11 H1).2:=S5
 first | rw [S5.newLoc 11 (7::0::1::0::σ)] | erw [S5.newLoc 11 (7::0::1::0::σ)]
 refine .nd (⟨_,(by kernel_rfl),S5.slot (i:=0) rfl⟩) ?_
 refine .fa ?_
 refine .op ((S5.atG (i:=1) rfl).ld (j:=1) rfl) ?_
 refine .ci ?_
 refine .bd fun a7 h8=>?_
 obtain ⟨v9,H10,e11,S12⟩:=S5.mk (dt:=(dI .u8)) (d:=19) (e:=1) (zv:=[(.p (.int .u8 0))]) (σ:=(5::0::1::0::σ)) h8 rfl rfl (by decide) (by decide) rfl
 refine .op (e11) ?_
 refine .nd ((S12.atG (i:=1) rfl).ld (j:=1) rfl) ?_
 refine .nd (⟨_,(by kernel_rfl),S12.slot (i:=0) rfl⟩) ?_
 obtain ⟨v14,H15,e16,h17,S18⟩:=S12.layD (i:=0) rfl rfl
 have e19:layCs false H10 [(.p (.bool false)),(.p (.int .i64 96)),(.p (.int .u16 x1)),(.p (.int .u32 x2)),(.p (.int .u32 x0.Ssrc)),(.p (.slice none 0 0)),(.p (.int .u16 48862)),(.p (.slice none 0 0)),v9]=some (List.map C.v [.p (.bool false),.p (.int .i64 96),.p (.int .u16 x1),.p (.int .u32 x2),.p (.int .u32 x0.Ssrc),.p (.slice none 0 0),.p (.int .u16 48862),.p (.slice none 0 0),v14],H15):=(lc_pl (sB _) (lc_pl (sI _ _) (lc_pl (sI _ _) (lc_pl (sI _ _) (lc_pl (sI _ _) (lc_pl (SlF.nil (dI .u32)).still (lc_pl (sI _ _) (lc_pl (SlF.nil (dI .u8)).still (lc_st e16 lc_nil)))))))))
 refine .op (bldV (pC rfl (pC rfl (pC rfl (pC rfl (pC rfl (pC (S12.cellsD (i:=0) rfl) pN)))))) (by kernel_rfl:_=some (.agg [(.p (.bool false)),(.p (.int .i64 96)),(.p (.int .u16 x1)),(.p (.int .u32 x2)),(.p (.int .u32 x0.Ssrc)),(.p (.slice none 0 0)),(.p (.int .u16 48862)),(.p (.slice none 0 0)),v9]))) ?_
 obtain ⟨c23,H24,e25,h26,h27,S28⟩:=S12.layO (k:=0) rfl rfl rfl
 obtain ⟨H20,e21,S22⟩:=Fm.stL (i0:=0) (i:=0) (j:=0) (n:=9) (σ:=(8::0::1::0::σ)) S12 S28 rfl rfl rfl (lo_pl (sB _) (lo_pl (sI _ _) (lo_pl (sI _ _) (lo_pl (sI _ _) (lo_pl (sI _ _) (lo_pl (SlF.nil (dI .u32)).still (lo_pl (sI _ _) (lo_pl (SlF.nil (dI .u8)).still (lo_ow e25 lo_nil))))))))) rfl rfl
 refine .op (sM e21) ?_
 refine .fa ?_
 refine .op ((S22.atG (i:=1) rfl).ld (j:=0) rfl) ?_
 refine .op (castS_p _) ?_
 refine .op (bldV (pC rfl (pC (SlF.bytes x0.Rid).still.cells pN)) (by kernel_rfl:_=some (.agg [.p (.int .i64 1),.fz (x0.Rid.data.toList.map fun b:UInt8=>V.p (Value.int .u8 (b.toNat:Int))) x0.Rid.size 1 false]))) ?_
 have h29:SlF z3e [((⟨1,(bytesS x0.Rid)⟩:z23))] (.fz [(.p (.int .i64 1)),(.fz (x0.Rid.data.toList.map fun b:UInt8=>V.p (Value.int .u8 (b.toNat:Int))) x0.Rid.size 1 false)] 1 2 true):=SlF.lit (cs:=[(.p (.int .i64 1)),(.fz (x0.Rid.data.toList.map fun b:UInt8=>V.p (Value.int .u8 (b.toNat:Int))) x0.Rid.size 1 false)]) (RL.cons (show z3e.R ((⟨1,(bytesS x0.Rid)⟩:z23)) [.p (.int .i64 1),.fz (x0.Rid.data.toList.map fun b:UInt8=>V.p (Value.int .u8 (b.toNat:Int))) x0.Rid.size 1 false] from (z3e.mk (SlF.bytes x0.Rid))) RL.nil) rfl rfl true
 refine .op (bldS (pC (c:=[.p (.int .i64 1),.fz (x0.Rid.data.toList.map fun b:UInt8=>V.p (Value.int .u8 (b.toNat:Int))) x0.Rid.size 1 false]) rfl pN) (by kernel_rfl:_=some (vOf h29))) ?_
 refine .call (zij k 48862 ([((⟨1,(bytesS x0.Rid)⟩:z23))]) (h29.h H20)) fun r30 cs31 H32 h33 q34=>?_
 obtain ⟨v35,h36,q34⟩:=q34
 cases q34
 refine .or ?_
 refine .or ?_
 refine .ci ?_
 refine .fa ?_
 obtain ⟨H37,e38,S39⟩:=S22.stG (i:=0) (j:=7) (own:=true) (σ:=(10::0::1::1::0::σ)) (x:=v35) rfl rfl h36.still rfl
 refine .op (sM e38) ?_
 refine .ch (P:=fun r y=>r=y) ?_ (fun b40 y41 h42 h43=>?_)
 ·refine .cq ?_ ?_
  ·exact .ret rfl rfl
  ·exact .ret rfl rfl
 subst h43
 refine .cq ?_ ?_
 ·refine .fa ?_
  refine .op (h26.ld (S39.atG (i:=0) rfl) (j:=8) rfl) ?_
  refine .bd fun a45 h46=>?_
  refine .op ((h26.sl (S39.atG (i:=0) rfl) (j:=8) rfl).iS h46 rfl) ?_
  refine .bd fun a50 h51=>?_
  obtain ⟨c52,H47,e48,h53,h54,S49⟩:=S39.seG (i:=0) (j:=8) (own:=true) (σ:=(3::1::0::1::1::1::0::σ)) (nv:=[(.p (.int .u8 1))]) (xv:=(.p (.int .u8 1))) (n:=1) (e:=1) (off:=0) rfl rfl rfl h26 h27 h46 h51 rfl rfl (by decide) (zla (sI _ _)) (Dt.whole (show (dI .u8).R 1 [(.p (.int .u8 1))] from rfl) rfl)
  refine .op (sM e48) ?_
  obtain ⟨v55,h56,h57⟩:=h53.fr
  obtain ⟨w58,h65,h64,e60,e66⟩:=S49.cpV (i:=0) (n:=9) (ys:=[(.p (.bool false)),(.p (.int .i64 96)),(.p (.int .u16 x1)),(.p (.int .u32 x2)),(.p (.int .u32 x0.Ssrc)),(.p (.slice none 0 0)),(.p (.int .u16 48862)),v35,v55]) rfl ⟨(FrC.v (sB _)),⟨(FrC.v (sI _ _)),⟨(FrC.v (sI _ _)),⟨(FrC.v (sI _ _)),⟨(FrC.v (sI _ _)),⟨(FrC.v (SlF.nil (dI .u32)).still),⟨(FrC.v (sI _ _)),⟨(FrC.v h36.still),⟨h56,trivial⟩⟩⟩⟩⟩⟩⟩⟩⟩ rfl
  obtain ⟨H59,e61,e62,S63⟩:=S49.frzX (i:=0) (ys:=[(.p (.bool false)),(.p (.int .i64 96)),(.p (.int .u16 x1)),(.p (.int .u32 x2)),(.p (.int .u32 x0.Ssrc)),(.p (.slice none 0 0)),(.p (.int .u16 48862)),v35,v55]) rfl rfl ⟨(FrC.v (sB _)),⟨(FrC.v (sI _ _)),⟨(FrC.v (sI _ _)),⟨(FrC.v (sI _ _)),⟨(FrC.v (sI _ _)),⟨(FrC.v (SlF.nil (dI .u32)).still),⟨(FrC.v (sI _ _)),⟨(FrC.v h36.still),⟨h56,trivial⟩⟩⟩⟩⟩⟩⟩⟩⟩ h65
  refine .op (e60) ?_
  erw [zh1 (zey (zh2 (zbb e62)) zhg)]
  refine .call (zcy k ((⟨false,96,x1,x2,x0.Ssrc,(([]:List Int)),48862,r30.1,a50⟩:TaiRtp)) (show z9.R ((⟨false,96,x1,x2,x0.Ssrc,(([]:List Int)),48862,r30.1,a50⟩:TaiRtp)) [.p (.bool false),.p (.int .i64 96),.p (.int .u16 x1),.p (.int .u32 x2),.p (.int .u32 x0.Ssrc),.p (.slice none 0 0),.p (.int .u16 48862),v35,v55] from (z9.mk (SlF.nil (dI .u32)) h36 h57))) fun r67 cs68 H69 h70 q71=>?_
  obtain ⟨v72,h73,q71⟩:=q71
  cases q71
  refine .or ?_
  refine .or ?_
  refine .ci ?_
  exact .fin (S63.finN (lC h73.still.lv lN)) ⟨v72,h73,rfl⟩
 obtain ⟨v74,h75,h76⟩:=h26.fr
 obtain ⟨w77,h84,h83,e79,e85⟩:=S39.cpV (i:=0) (n:=9) (ys:=[(.p (.bool false)),(.p (.int .i64 96)),(.p (.int .u16 x1)),(.p (.int .u32 x2)),(.p (.int .u32 x0.Ssrc)),(.p (.slice none 0 0)),(.p (.int .u16 48862)),v35,v74]) rfl ⟨(FrC.v (sB _)),⟨(FrC.v (sI _ _)),⟨(FrC.v (sI _ _)),⟨(FrC.v (sI _ _)),⟨(FrC.v (sI _ _)),⟨(FrC.v (SlF.nil (dI .u32)).still),⟨(FrC.v (sI _ _)),⟨(FrC.v h36.still),⟨h75,trivial⟩⟩⟩⟩⟩⟩⟩⟩⟩ rfl
 obtain ⟨H78,e80,e81,S82⟩:=S39.frzX (i:=0) (ys:=[(.p (.bool false)),(.p (.int .i64 96)),(.p (.int .u16 x1)),(.p (.int .u32 x2)),(.p (.int .u32 x0.Ssrc)),(.p (.slice none 0 0)),(.p (.int .u16 48862)),v35,v74]) rfl rfl ⟨(FrC.v (sB _)),⟨(FrC.v (sI _ _)),⟨(FrC.v (sI _ _)),⟨(FrC.v (sI _ _)),⟨(FrC.v (sI _ _)),⟨(FrC.v (SlF.nil (dI .u32)).still),⟨(FrC.v (sI _ _)),⟨(FrC.v h36.still),⟨h75,trivial⟩⟩⟩⟩⟩⟩⟩⟩⟩ h84
 refine .op (e79) ?_
 erw [zh1 (zey (zh2 (zbb e81)) zhg)]
 refine .call (zcy k ((⟨false,96,x1,x2,x0.Ssrc,(([]:List Int)),48862,r30.1,a7⟩:TaiRtp)) (show z9.R ((⟨false,96,x1,x2,x0.Ssrc,(([]:List Int)),48862,r30.1,a7⟩:TaiRtp)) [.p (.bool false),.p (.int .i64 96),.p (.int .u16 x1),.p (.int .u32 x2),.p (.int .u32 x0.Ssrc),.p (.slice none 0 0),.p (.int .u16 48862),v35,v74] from (z9.mk (SlF.nil (dI .u32)) h36 h76))) fun r86 cs87 H88 h89 q90=>?_
 obtain ⟨v91,h92,q90⟩:=q90
 cases q90
 refine .or ?_
 refine .or ?_
 refine .ci ?_
 exact .fin (S82.finN (lC h92.still.lv lN)) ⟨v91,h92,rfl⟩
end
end Go.Ev
namespace Go.Ev
open Go.Proofs
set_option linter.unusedVariables false
set_option linter.unusedSimpArgs false
set_option maxRecDepth 100000
noncomputable section
abbrev KT4:=Exit→Env→H→Option (List C × H)
variable (rec : CallF) (loop : LoopV) (σ : Stamp)
def z7f:Code:=(codeAt (bodyOf Try.f42) [1,1,1,1,1,1,1,0,1,0,0])
def z7c:Lv:=⟨53,12,[(0,53)]⟩
def ze0:KT4:=(kBlock 0 (kSeq G rec loop (codeAt (bodyOf Try.f42) [1,1,1,1,1,1,1,1]) ⟨12,12,[]⟩ (1::1::1::1::1::1::1::0::σ) (finC G false Try.f42 (1::σ))))
theorem zge (x0:V) (h:H):cvBody G rec loop 42 σ [x0] h =
(some (alO [.p (.bool false),.p (.int .i64 0),.p (.int .u16 0),.p (.int .u32 0),.p (.int .u32 0),.p (.slice none 0 0),.p (.int .u16 0),.p (.slice none 0 0),.p (.slice none 0 0)] (0::0::0::σ) 2 (List.replicate 150 []::h))).bind fun q1 =>
(lenO x0).bind fun t2 =>
(castI .i64 t2).bind fun n3 =>
bif decide (n3>1500) then (
(buildV Try.prog 87 []).bind fun t4 =>
((stO true 9 (1::0::1::0::1::0::σ) q1.2 q1.1 t4).map fun h=>(udf,h)).bind fun q5 =>
((ldO true 9 q5.2 q1.1).bind fun t6=>((some []).map ((.p (.int .i64 3))::·)).map (t6::·)).bind fun t7=>fin false σ q5.2 t7)
else (
(lenO x0).bind fun t8 =>
(castI .i64 t8).bind fun n9 =>
bif n9==0 then (
(buildV Try.prog 87 []).bind fun t10 =>
((stO true 9 (1::0::1::0::1::1::0::σ) q1.2 q1.1 t10).map fun h=>(udf,h)).bind fun q11 =>
((ldO true 9 q11.2 q1.1).bind fun t12=>((some []).map ((.p (.int .i64 13))::·)).map (t12::·)).bind fun t13=>fin false σ q11.2 t13)
else (
(iS 1 x0 0).bind fun t14 =>
(ldO false 1 q1.2 t14).bind fun t15 =>
(castI .u8 t15).bind fun n16 =>
bif (Int.fdiv n16 (2^6)) != 2 then (
(buildV Try.prog 87 []).bind fun t17 =>
((stO true 9 (1::0::1::0::1::1::1::0::σ) q1.2 q1.1 t17).map fun h=>(udf,h)).bind fun q18 =>
((ldO true 9 q18.2 q1.1).bind fun t19=>((some []).map ((.p (.int .i64 12))::·)).map (t19::·)).bind fun t20=>fin false σ q18.2 t20)
else (
(iS 1 x0 0).bind fun t21 =>
(ldO false 1 q1.2 t21).bind fun t22 =>
(castI .u8 t22).bind fun n23 =>
(lenO x0).bind fun t24 =>
(castI .i64 t24).bind fun n25 =>
bif decide (n25<(IntKind.wrap .i64 (12+(IntKind.wrap .i64 (4*(IntKind.wrap .i64 (intBits .and .u8 n23 15))))))) then (
(buildV Try.prog 87 []).bind fun t26 =>
((stO true 9 (1::0::1::0::1::1::1::1::1::0::σ) q1.2 q1.1 t26).map fun h=>(udf,h)).bind fun q27 =>
((ldO true 9 q27.2 q1.1).bind fun t28=>((some []).map ((.p (.int .i64 13))::·)).map (t28::·)).bind fun t29=>fin false σ q27.2 t29)
else (
need (∃ z,tzero Try.prog 87=some z∧slotOf (alO [.p (.bool false),.p (.int .i64 0),.p (.int .u16 0),.p (.int .u32 0),.p (.int .u32 0),.p (.slice none 0 0),.p (.int .u16 0),.p (.slice none 0 0),.p (.slice none 0 0)] (20::0::1::1::1::1::1::1::0::σ) 5 q1.2).2 5=some [.own (20::0::1::1::1::1::1::1::0::σ) (z.map .v)]) (
(iS 1 x0 1).bind fun t30 =>
(ldO false 1 (alO [.p (.bool false),.p (.int .i64 0),.p (.int .u16 0),.p (.int .u32 0),.p (.int .u32 0),.p (.slice none 0 0),.p (.int .u16 0),.p (.slice none 0 0),.p (.slice none 0 0)] (20::0::1::1::1::1::1::1::0::σ) 5 q1.2).2 t30).bind fun t31 =>
(castI .u8 t31).bind fun n32 =>
(iS 1 x0 1).bind fun t33 =>
(ldO false 1 (alO [.p (.bool false),.p (.int .i64 0),.p (.int .u16 0),.p (.int .u32 0),.p (.int .u32 0),.p (.slice none 0 0),.p (.int .u16 0),.p (.slice none 0 0),.p (.slice none 0 0)] (20::0::1::1::1::1::1::1::0::σ) 5 q1.2).2 t33).bind fun t34 =>
(castI .u8 t34).bind fun n35 =>
(callO rec 87 (11::0::1::1::1::1::1::1::0::σ) [x0,(.p (.int .i64 2)),(.p (.int .i64 2))] (alO [.p (.bool false),.p (.int .i64 0),.p (.int .u16 0),.p (.int .u32 0),.p (.int .u32 0),.p (.slice none 0 0),.p (.int .u16 0),.p (.slice none 0 0),.p (.slice none 0 0)] (20::0::1::1::1::1::1::1::0::σ) 5 q1.2).2 (some 49)).bind fun q36 =>
(castI .u64 q36.1).bind fun n37 =>
need ((some (.p (.int .i64 (IntKind.wrap .i64 (intBits .and .u8 n35 127)))):Option V)=some (.p (.int .i64 (IntKind.wrap .i64 (intBits .and .u8 n35 127))))) (
need (ldO false 1 q36.2 t33=some (.p (.int .u8 n35))) (
need ((some (.p (.bool ((Int.fdiv n32 (2^7))==1))):Option V)=some (.p (.bool ((Int.fdiv n32 (2^7))==1)))) (
need (ldO false 1 q36.2 t30=some (.p (.int .u8 n32))) (
need (∃ z,tzero Try.prog 87=some z∧slotOf q36.2 5=some [.own (20::0::1::1::1::1::1::1::0::σ) (z.map .v)]) (
(callO rec 87 (14::0::1::1::1::1::1::1::0::σ) [x0,(.p (.int .i64 4)),(.p (.int .i64 4))] q36.2 (some 52)).bind fun q38 =>
(castI .u64 q38.1).bind fun n39 =>
need ((some (.p (.int .u16 (IntKind.wrap .u16 n37))):Option V)=some (.p (.int .u16 (IntKind.wrap .u16 n37)))) (
need ((some (.p (.int .i64 (IntKind.wrap .i64 (intBits .and .u8 n35 127)))):Option V)=some (.p (.int .i64 (IntKind.wrap .i64 (intBits .and .u8 n35 127))))) (
need (ldO false 1 q38.2 t33=some (.p (.int .u8 n35))) (
need ((some (.p (.bool ((Int.fdiv n32 (2^7))==1))):Option V)=some (.p (.bool ((Int.fdiv n32 (2^7))==1)))) (
need (ldO false 1 q38.2 t30=some (.p (.int .u8 n32))) (
need (∃ z,tzero Try.prog 87=some z∧slotOf q38.2 5=some [.own (20::0::1::1::1::1::1::1::0::σ) (z.map .v)]) (
(callO rec 87 (17::0::1::1::1::1::1::1::0::σ) [x0,(.p (.int .i64 8)),(.p (.int .i64 4))] q38.2 (some 55)).bind fun q40 =>
(castI .u64 q40.1).bind fun n41 =>
need ((some (.p (.int .u32 (IntKind.wrap .u32 n39))):Option V)=some (.p (.int .u32 (IntKind.wrap .u32 n39)))) (
need ((some (.p (.int .u16 (IntKind.wrap .u16 n37))):Option V)=some (.p (.int .u16 (IntKind.wrap .u16 n37)))) (
need ((some (.p (.int .i64 (IntKind.wrap .i64 (intBits .and .u8 n35 127)))):Option V)=some (.p (.int .i64 (IntKind.wrap .i64 (intBits .and .u8 n35 127))))) (
need (ldO false 1 q40.2 t33=some (.p (.int .u8 n35))) (
need ((some (.p (.bool ((Int.fdiv n32 (2^7))==1))):Option V)=some (.p (.bool ((Int.fdiv n32 (2^7))==1)))) (
need (ldO false 1 q40.2 t30=some (.p (.int .u8 n32))) (
need (∃ z,tzero Try.prog 87=some z∧slotOf q40.2 5=some [.own (20::0::1::1::1::1::1::1::0::σ) (z.map .v)]) (
(buildV Try.prog 87 [(0,(.p (.bool ((Int.fdiv n32 (2^7))==1)))),(1,(.p (.int .i64 (IntKind.wrap .i64 (intBits .and .u8 n35 127))))),(2,(.p (.int .u16 (IntKind.wrap .u16 n37)))),(3,(.p (.int .u32 (IntKind.wrap .u32 n39)))),(4,(.p (.int .u32 (IntKind.wrap .u32 n41))))]).bind fun t42 =>
((stO true 9 (21::0::1::1::1::1::1::1::0::σ) q40.2 (.ref (newLoc (alO [.p (.bool false),.p (.int .i64 0),.p (.int .u16 0),.p (.int .u32 0),.p (.int .u32 0),.p (.slice none 0 0),.p (.int .u16 0),.p (.slice none 0 0),.p (.slice none 0 0)] (20::0::1::1::1::1::1::1::0::σ) 5 q1.2).2 5 (20::0::1::1::1::1::1::1::0::σ)) 0) t42).map fun h=>(udf,h)).bind fun q43 =>
(loop z7f z7c (1::0::1::1::1::1::1::1::1::0::σ) (envL [(0,x0),(2,q1.1),(4,(.p (.int .i64 (IntKind.wrap .i64 (12+(IntKind.wrap .i64 (4*(IntKind.wrap .i64 (intBits .and .u8 n23 15))))))))),(5,(.ref (newLoc (alO [.p (.bool false),.p (.int .i64 0),.p (.int .u16 0),.p (.int .u32 0),.p (.int .u32 0),.p (.slice none 0 0),.p (.int .u16 0),.p (.slice none 0 0),.p (.slice none 0 0)] (20::0::1::1::1::1::1::1::0::σ) 5 q1.2).2 5 (20::0::1::1::1::1::1::1::0::σ)) 0)),(6,(.p (.int .i64 12)))]) q43.2).bind fun r44=>ze0 rec loop σ r44.1 r44.2.1 r44.2.2))))))))))))))))))))))):=by kernel_rfl
theorem zkd (x0:V) (x2:V) (x4:Int) (x5:V) (x6:Int) (h:H):zo G rec loop z7f z7c σ (envL [(0,x0),(2,x2),(4,(.p (.int .i64 x4))),(5,x5),(6,(.p (.int .i64 x6)))]) h =
bif decide (x6<x4) then (
(fA x5 5).bind fun t45 =>
(ldO false 1 h t45).bind fun t46 =>
(callO rec 87 (4::0::1::0::σ) [x0,(.p (.int .i64 x6)),(.p (.int .i64 4))] h (some 67)).bind fun q47 =>
(castI .u64 q47.1).bind fun n48 =>
need (ldO false 1 q47.2 t45=some t46) (
(bSV Try.prog 85 1 [(0,(.p (.int .u32 (IntKind.wrap .u32 n48))))]).bind fun t49 =>
(apO true 1 4 (7::0::1::0::σ) 70 q47.2 t46 t49).bind fun q50 =>
(fA x5 5).bind fun t51 =>
((stO true 1 (9::0::1::0::σ) q50.2 t51 q50.1).map fun h=>(udf,h)).bind fun q52 =>
loop z7f z7c (1::σ) (envL [(0,x0),(2,x2),(4,(.p (.int .i64 x4))),(5,x5),(6,(.p (.int .i64 (IntKind.wrap .i64 (x6+4)))))]) q52.2))
else (
some ((.exit 0),(envL [(0,x0),(2,x2),(4,(.p (.int .i64 x4))),(5,x5)]),h)):=by kernel_rfl
theorem zig (x0:V) (x2:V) (x4:Int) (x5:V) (h:H):ze0 rec loop σ (.exit 0) (envL [(0,x0),(2,x2),(4,(.p (.int .i64 x4))),(5,x5)]) h =
(iS 1 x0 0).bind fun t53 =>
(ldO false 1 h t53).bind fun t54 =>
(castI .u8 t54).bind fun n55 =>
bif (intBits .and .u8 n55 16) != 0 then (
(callO rec 87 (3::0::1::0::1::1::1::1::1::1::1::1::0::σ) [x0,(.p (.int .i64 (IntKind.wrap .i64 (x4+2)))),(.p (.int .i64 2))] h (some 80)).bind fun q56 =>
(castI .u64 q56.1).bind fun n57 =>
(callO rec 88 (4::0::1::1::0::1::1::1::1::1::1::1::1::0::σ) [x0,(.p (.int .i64 (IntKind.wrap .i64 (x4+4)))),(.p (.int .i64 (IntKind.wrap .i64 (4*(IntKind.wrap .i64 n57)))))] q56.2 (some 88)).bind fun q58 =>
(extV q58.1 0).bind fun t59 =>
(extV q58.1 1).bind fun t60 =>
(asB t60).bind fun b61 =>
bif !b61 then (
(buildV Try.prog 87 []).bind fun t62 =>
((stO true 9 (1::0::1::0::1::1::1::0::1::1::1::1::1::1::1::1::0::σ) q58.2 x2 t62).map fun h=>(udf,h)).bind fun q63 =>
((ldO true 9 q63.2 x2).bind fun t64=>((some []).map ((.p (.int .i64 13))::·)).map (t64::·)).bind fun t65=>fin false σ q63.2 t65)
else (
(callO rec 87 (2::0::1::1::1::1::0::1::1::1::1::1::1::1::1::0::σ) [x0,(.p (.int .i64 x4)),(.p (.int .i64 2))] q58.2 (some 96)).bind fun q66 =>
(castI .u64 q66.1).bind fun n67 =>
(fA x5 6).bind fun t68 =>
((stO true 1 (6::0::1::1::1::1::0::1::1::1::1::1::1::1::1::0::σ) q66.2 t68 (.p (.int .u16 (IntKind.wrap .u16 n67)))).map fun h=>(udf,h)).bind fun q69 =>
(fA x5 7).bind fun t70 =>
((stO true 1 (8::0::1::1::1::1::0::1::1::1::1::1::1::1::1::0::σ) q69.2 t70 t59).map fun h=>(udf,h)).bind fun q71 =>
(lenO x0).bind fun t72 =>
(castI .i64 t72).bind fun n73 =>
(iS 1 x0 0).bind fun t74 =>
(ldO false 1 q71.2 t74).bind fun t75 =>
(castI .u8 t75).bind fun n76 =>
bif (intBits .and .u8 n76 32) != 0 then (
(iS 1 x0 (IntKind.wrap .i64 (n73-1))).bind fun t77 =>
(ldO false 1 q71.2 t77).bind fun t78 =>
(castI .u8 t78).bind fun n79 =>
(bif (IntKind.wrap .i64 n79)==0 then (some true) else (some (decide ((IntKind.wrap .i64 n79)>(IntKind.wrap .i64 (n73-(IntKind.wrap .i64 ((IntKind.wrap .i64 (x4+4))+(IntKind.wrap .i64 (4*(IntKind.wrap .i64 n57))))))))))).bind fun b80 =>
bif b80 then (
(buildV Try.prog 87 []).bind fun t81 =>
((stO true 9 (1::0::1::0::1::1::0::1::1::1::1::1::1::1::1::1::1::0::σ) q71.2 x2 t81).map fun h=>(udf,h)).bind fun q82 =>
((ldO true 9 q82.2 x2).bind fun t83=>((some []).map ((.p (.int .i64 13))::·)).map (t83::·)).bind fun t84=>fin false σ q82.2 t84)
else (
(iS 1 x0 0).bind fun t85 =>
(ldO false 1 q71.2 t85).bind fun t86 =>
(castI .u8 t86).bind fun n87 =>
(bif (intBits .and .u8 n87 16) != 0 then ((fA x5 6).bind fun t88 =>
(ldO false 1 q71.2 t88).bind fun t89 =>
(castI .u16 t89).bind fun n90 =>
some (n90==0)) else (some false)).bind fun b91 =>
bif b91 then (
(buildV Try.prog 87 []).bind fun t92 =>
((stO true 9 (1::0::1::0::1::1::1::1::1::1::1::1::1::1::1::0::σ) q71.2 x2 t92).map fun h=>(udf,h)).bind fun q93 =>
((ldO true 9 q93.2 x2).bind fun t94=>((some []).map ((.p (.int .i64 12))::·)).map (t94::·)).bind fun t95=>fin false σ q93.2 t95)
else (
(bSV Try.prog 79 0 []).bind fun t96 =>
(slS 1 x0 (some (IntKind.wrap .i64 ((IntKind.wrap .i64 (x4+4))+(IntKind.wrap .i64 (4*(IntKind.wrap .i64 n57)))))) (some (IntKind.wrap .i64 (n73-(IntKind.wrap .i64 n79)))) none).bind fun t97 =>
(apO true 1 1 (5::0::1::1::1::1::1::1::1::1::1::1::1::1::0::σ) 147 q71.2 t96 t97).bind fun q98 =>
(fA x5 8).bind fun t99 =>
((stO true 1 (7::0::1::1::1::1::1::1::1::1::1::1::1::1::0::σ) q98.2 t99 q98.1).map fun h=>(udf,h)).bind fun q100 =>
(ldO true 9 q100.2 x5).bind fun t101 =>
((stO true 9 (1::0::1::1::1::1::1::1::1::1::1::1::1::1::1::0::σ) q100.2 x2 t101).map fun h=>(udf,h)).bind fun q102 =>
((ldO true 9 q102.2 x2).bind fun t103=>((some []).map ((.p (.int .i64 0))::·)).map (t103::·)).bind fun t104=>fin false σ q102.2 t104)))
else (
(iS 1 x0 0).bind fun t105 =>
(ldO false 1 q71.2 t105).bind fun t106 =>
(castI .u8 t106).bind fun n107 =>
(bif (intBits .and .u8 n107 16) != 0 then ((fA x5 6).bind fun t108 =>
(ldO false 1 q71.2 t108).bind fun t109 =>
(castI .u16 t109).bind fun n110 =>
some (n110==0)) else (some false)).bind fun b111 =>
bif b111 then (
(buildV Try.prog 87 []).bind fun t112 =>
((stO true 9 (1::0::1::0::1::1::1::1::1::1::1::1::1::1::1::0::σ) q71.2 x2 t112).map fun h=>(udf,h)).bind fun q113 =>
((ldO true 9 q113.2 x2).bind fun t114=>((some []).map ((.p (.int .i64 12))::·)).map (t114::·)).bind fun t115=>fin false σ q113.2 t115)
else (
(bSV Try.prog 79 0 []).bind fun t116 =>
(slS 1 x0 (some (IntKind.wrap .i64 ((IntKind.wrap .i64 (x4+4))+(IntKind.wrap .i64 (4*(IntKind.wrap .i64 n57)))))) (some n73) none).bind fun t117 =>
(apO true 1 1 (5::0::1::1::1::1::1::1::1::1::1::1::1::1::0::σ) 147 q71.2 t116 t117).bind fun q118 =>
(fA x5 8).bind fun t119 =>
((stO true 1 (7::0::1::1::1::1::1::1::1::1::1::1::1::1::0::σ) q118.2 t119 q118.1).map fun h=>(udf,h)).bind fun q120 =>
(ldO true 9 q120.2 x5).bind fun t121 =>
((stO true 9 (1::0::1::1::1::1::1::1::1::1::1::1::1::1::1::0::σ) q120.2 x2 t121).map fun h=>(udf,h)).bind fun q122 =>
((ldO true 9 q122.2 x2).bind fun t123=>((some []).map ((.p (.int .i64 0))::·)).map (t123::·)).bind fun t124=>fin false σ q122.2 t124))))
else (
(lenO x0).bind fun t125 =>
(castI .i64 t125).bind fun n126 =>
(iS 1 x0 0).bind fun t127 =>
(ldO false 1 h t127).bind fun t128 =>
(castI .u8 t128).bind fun n129 =>
bif (intBits .and .u8 n129 32) != 0 then (
(iS 1 x0 (IntKind.wrap .i64 (n126-1))).bind fun t130 =>
(ldO false 1 h t130).bind fun t131 =>
(castI .u8 t131).bind fun n132 =>
(bif (IntKind.wrap .i64 n132)==0 then (some true) else (some (decide ((IntKind.wrap .i64 n132)>(IntKind.wrap .i64 (n126-x4)))))).bind fun b133 =>
bif b133 then (
(buildV Try.prog 87 []).bind fun t134 =>
((stO true 9 (1::0::1::0::1::1::0::1::1::1::1::1::1::1::1::1::1::0::σ) h x2 t134).map fun h=>(udf,h)).bind fun q135 =>
((ldO true 9 q135.2 x2).bind fun t136=>((some []).map ((.p (.int .i64 13))::·)).map (t136::·)).bind fun t137=>fin false σ q135.2 t137)
else (
(iS 1 x0 0).bind fun t138 =>
(ldO false 1 h t138).bind fun t139 =>
(castI .u8 t139).bind fun n140 =>
(bif (intBits .and .u8 n140 16) != 0 then ((fA x5 6).bind fun t141 =>
(ldO false 1 h t141).bind fun t142 =>
(castI .u16 t142).bind fun n143 =>
some (n143==0)) else (some false)).bind fun b144 =>
bif b144 then (
(buildV Try.prog 87 []).bind fun t145 =>
((stO true 9 (1::0::1::0::1::1::1::1::1::1::1::1::1::1::1::0::σ) h x2 t145).map fun h=>(udf,h)).bind fun q146 =>
((ldO true 9 q146.2 x2).bind fun t147=>((some []).map ((.p (.int .i64 12))::·)).map (t147::·)).bind fun t148=>fin false σ q146.2 t148)
else (
(bSV Try.prog 79 0 []).bind fun t149 =>
(slS 1 x0 (some x4) (some (IntKind.wrap .i64 (n126-(IntKind.wrap .i64 n132)))) none).bind fun t150 =>
(apO true 1 1 (5::0::1::1::1::1::1::1::1::1::1::1::1::1::0::σ) 147 h t149 t150).bind fun q151 =>
(fA x5 8).bind fun t152 =>
((stO true 1 (7::0::1::1::1::1::1::1::1::1::1::1::1::1::0::σ) q151.2 t152 q151.1).map fun h=>(udf,h)).bind fun q153 =>
(ldO true 9 q153.2 x5).bind fun t154 =>
((stO true 9 (1::0::1::1::1::1::1::1::1::1::1::1::1::1::1::0::σ) q153.2 x2 t154).map fun h=>(udf,h)).bind fun q155 =>
((ldO true 9 q155.2 x2).bind fun t156=>((some []).map ((.p (.int .i64 0))::·)).map (t156::·)).bind fun t157=>fin false σ q155.2 t157)))
else (
(iS 1 x0 0).bind fun t158 =>
(ldO false 1 h t158).bind fun t159 =>
(castI .u8 t159).bind fun n160 =>
(bif (intBits .and .u8 n160 16) != 0 then ((fA x5 6).bind fun t161 =>
(ldO false 1 h t161).bind fun t162 =>
(castI .u16 t162).bind fun n163 =>
some (n163==0)) else (some false)).bind fun b164 =>
bif b164 then (
(buildV Try.prog 87 []).bind fun t165 =>
((stO true 9 (1::0::1::0::1::1::1::1::1::1::1::1::1::1::1::0::σ) h x2 t165).map fun h=>(udf,h)).bind fun q166 =>
((ldO true 9 q166.2 x2).bind fun t167=>((some []).map ((.p (.int .i64 12))::·)).map (t167::·)).bind fun t168=>fin false σ q166.2 t168)
else (
(bSV Try.prog 79 0 []).bind fun t169 =>
(slS 1 x0 (some x4) (some n126) none).bind fun t170 =>
(apO true 1 1 (5::0::1::1::1::1::1::1::1::1::1::1::1::1::0::σ) 147 h t169 t170).bind fun q171 =>
(fA x5 8).bind fun t172 =>
((stO true 1 (7::0::1::1::1::1::1::1::1::1::1::1::1::1::0::σ) q171.2 t172 q171.1).map fun h=>(udf,h)).bind fun q173 =>
(ldO true 9 q173.2 x5).bind fun t174 =>
((stO true 9 (1::0::1::1::1::1::1::1::1::1::1::1::1::1::1::0::σ) q173.2 x2 t174).map fun h=>(udf,h)).bind fun q175 =>
((ldO true 9 q175.2 x2).bind fun t176=>((some []).map ((.p (.int .i64 0))::·)).map (t176::·)).bind fun t177=>fin false σ q175.2 t177))):=by kernel_rfl
theorem zi5 (x0:V) (x1:Int) (x2:Int) (h:H):cvBody G rec loop 88 σ [x0,(.p (.int .i64 x1)),(.p (.int .i64 x2))] h =
(bif decide (x1<0) then (some true) else (some (decide (x2<0)))).bind fun b1 =>
(bif b1 then (some true) else ((lenO x0).bind fun t2 =>
(castI .i64 t2).bind fun n3 =>
some (decide (x1>n3)))).bind fun b4 =>
(bif b4 then (some true) else ((lenO x0).bind fun t5 =>
(castI .i64 t5).bind fun n6 =>
some (decide (x2>(IntKind.wrap .i64 (n6-x1)))))).bind fun b7 =>
bif b7 then (
fin true σ (List.replicate 36 []::h) [(.p (.slice .none 0 0)),(.p (.bool false))])
else (
(bSV Try.prog 79 0 []).bind fun t8 =>
(slS 1 x0 (some x1) (some (IntKind.wrap .i64 (x1+x2))) none).bind fun t9 =>
(apO true 1 1 (7::0::1::1::0::σ) 35 (List.replicate 36 []::h) t8 t9).bind fun q10 =>
fin true σ q10.2 [q10.1,(.p (.bool true))]):=by kernel_rfl
end
end Go.Ev
namespace Go.Ev
open Go.Proofs
set_option linter.unusedVariables false
set_option linter.unusedSimpArgs false
set_option maxRecDepth 100000
section
variable {β α : Type} {Q : β→α→Prop} {K : Exit × Env × H→Option α}
def z7n (x0:(List Int)) (x1:Int) (x2:Int):Option ((List Int)×Bool) :=
(bif decide (x1<0) then (some true) else (some (decide (x2<0)))).bind fun b1 =>
(bif b1 then (some true) else (some (decide (x1>((x0.length:Int)))))).bind fun b5 =>
(bif b5 then (some true) else (some (decide (x2>(IntKind.wrap .i64 (((x0.length:Int))-x1)))))).bind fun b9 =>
bif b9 then (
some ((([]:List Int)),false))
else (
(sub x0 x1 (IntKind.wrap .i64 (x1+x2))).bind fun a15 =>
(ap 1 (([]:List Int)) a15).bind fun a19 =>
some (a19,true))
theorem zll {h:H} {σ:Stamp} (x0:List Int) {u0:V} (hu0:SlH h (dI .u8) x0 u0) (x1:Int) (x2:Int):Sim (z7n x0 x1 x2) (ev G X0 88 σ [u0,(.p (.int .i64 x1)),(.p (.int .i64 x2))] h) (fun r s=>∃ (v0:V),SlF (dI .u8) r.1 v0∧s=([.v v0,.v (.p (.bool r.2))],h)):=by
 refine .ev rfl (Sim.ext (zi5 _ _ _ _ _ _ _) ?_)
 rw [z7n]
 have S0:Fm 36 h [] [] [] (List.replicate 36 []::h):=Fm.start0
 refine .ch (P:=fun r y=>r=y) ?_ (fun b1 y2 h3 h4=>?_)
 ·refine .cq ?_ ?_
  ·exact .ret rfl rfl
  ·exact .ret rfl rfl
 subst h4
 refine .ch (P:=fun r y=>r=y) ?_ (fun b5 y6 h7 h8=>?_)
 ·refine .cq ?_ ?_
  ·exact .ret rfl rfl
  ·refine .op ((S0.low hu0).len) ?_
   refine .ci ?_
   exact .ret rfl rfl
 subst h8
 refine .ch (P:=fun r y=>r=y) ?_ (fun b9 y10 h11 h12=>?_)
 ·refine .cq ?_ ?_
  ·exact .ret rfl rfl
  ·refine .op ((S0.low hu0).len) ?_
   refine .ci ?_
   exact .ret rfl rfl
 subst h12
 refine .cq ?_ ?_
 ·exact .fin (S0.finN (lC (SlF.nil (dI .u8)).still.lv (lC (sB _).lv lN))) ⟨(.p (.slice none 0 0)),(SlF.nil (dI .u8)),rfl⟩
 have h14:SlF (dI .u8) ([]:List Int) (.fz [] 0 1 true):=SlF.lit (cs:=[]) RL.nil rfl rfl true
 refine .op (bldS pN (by kernel_rfl:_=some (vOf h14))) ?_
 refine .bd fun a15 h16=>?_
 refine .op ((S0.low hu0).slS h16 rfl rfl rfl) ?_
 have S18:=S0.nil' (dI .u8) [] (e:=1) rfl
 refine .bd fun a19 h20=>?_
 obtain ⟨v21,H22,e23,S24⟩:=S18.app (i:=0) (d:=35) (e:=1) (own:=true) (σ:=(7::0::1::1::0::σ)) rfl ((S18.low hu0).sub h16 (e:=1) rfl).y h20 rfl (by decide) (by decide) rfl
 refine .op (e23) ?_
 obtain ⟨v30,H25,e26,h28,S27⟩:=S24.expFrz (i:=0) (τ:=0::1::σ) rfl rfl
 exact .fin (S27.finE (Ex.st e26 (Ex.pl (sB _).lv Ex.nil))) ⟨v30,h28,rfl⟩
end
end Go.Ev
namespace Go.Ev
open Go.Proofs
set_option linter.unusedVariables false
set_option linter.unusedSimpArgs false
set_option maxRecDepth 100000
noncomputable section
abbrev KT5:=Exit→Env→H→Option (List C × H)
variable (rec : CallF) (loop : LoopV) (σ : Stamp)
theorem zi9 (x0:V) (x1:Int) (x2:Int) (h:H):cvBody G rec loop 87 σ [x0,(.p (.int .i64 x1)),(.p (.int .i64 x2))] h =
(callO rec 136 (3::0::1::0::σ) [x0,(.p (.int .i64 x1)),(.p (.int .i64 x2))] (List.replicate 17 []::h) (some 13)).bind fun q1 =>
(extV q1.1 0).bind fun t2 =>
(castI .u64 t2).bind fun n3 =>
(extV q1.1 1).bind fun t4 =>
(asB t4).bind fun b5 =>
fin false σ q1.2 [(.p (.int .u64 n3))]:=by kernel_rfl
def z88:Code:=(codeAt (bodyOf Try.f136) [1,1,1,0,1,0,0])
def z89:Lv:=⟨256,192,[(0,256)]⟩
def zft:KT5:=(kBlock 0 (kSeq G rec loop (codeAt (bodyOf Try.f136) [1,1,1,1]) ⟨192,192,[]⟩ (1::1::1::0::σ) (finC G false Try.f136 (1::σ))))
theorem zid (x0:V) (x1:Int) (x2:Int) (h:H):cvBody G rec loop 136 σ [x0,(.p (.int .i64 x1)),(.p (.int .i64 x2))] h =
(bif decide (x2<1) then (some true) else (some (decide (x2>8)))).bind fun b1 =>
(bif b1 then (some true) else (some (decide (x1<0)))).bind fun b2 =>
(bif b2 then (some true) else ((lenO x0).bind fun t3 =>
(castI .i64 t3).bind fun n4 =>
some (decide (x1>n4)))).bind fun b5 =>
(bif b5 then (some true) else ((lenO x0).bind fun t6 =>
(castI .i64 t6).bind fun n7 =>
some (decide (x2>(IntKind.wrap .i64 (n7-x1)))))).bind fun b8 =>
bif b8 then (
fin false σ (List.replicate 50 []::h) [(.p (.int .u64 0)),(.p (.bool false))])
else (
(loop z88 z89 (1::0::1::1::1::0::σ) (envL [(0,x0),(1,(.p (.int .i64 x1))),(2,(.p (.int .i64 x2))),(8,(.p (.int .u64 0))),(9,(.p (.int .i64 0)))]) (List.replicate 50 []::h)).bind fun r9=>zft rec loop σ r9.1 r9.2.1 r9.2.2):=by kernel_rfl
theorem zlx (x0:V) (x1:Int) (x2:Int) (x8:Int) (x9:Int) (h:H):zo G rec loop z88 z89 σ (envL [(0,x0),(1,(.p (.int .i64 x1))),(2,(.p (.int .i64 x2))),(8,(.p (.int .u64 x8))),(9,(.p (.int .i64 x9)))]) h =
bif decide (x9<x2) then (
(iS 1 x0 (IntKind.wrap .i64 (x1+x9))).bind fun t10 =>
(ldO false 1 h t10).bind fun t11 =>
(castI .u8 t11).bind fun n12 =>
loop z88 z89 (1::σ) (envL [(0,x0),(1,(.p (.int .i64 x1))),(2,(.p (.int .i64 x2))),(8,(.p (.int .u64 (intBits .or .u64 (IntKind.wrap .u64 (x8*2^8)) (IntKind.wrap .u64 n12))))),(9,(.p (.int .i64 (IntKind.wrap .i64 (x9+1)))))]) h)
else (
some ((.exit 0),(envL [(8,(.p (.int .u64 x8)))]),h)):=by kernel_rfl
theorem zj3 (x8:Int) (h:H):zft rec loop σ (.exit 0) (envL [(8,(.p (.int .u64 x8)))]) h =
fin false σ h [(.p (.int .u64 x8)),(.p (.bool true))]:=by kernel_rfl
end
end Go.Ev
namespace Go.Ev
open Go.Proofs
set_option linter.unusedVariables false
set_option linter.unusedSimpArgs false
set_option maxRecDepth 100000
section
variable {β α : Type} {Q : β→α→Prop} {K : Exit × Env × H→Option α}
def z17 {β:Type} (k:Nat) (kE0:Int→Option β) (x0:(List Int)) (x1:Int) (x2:Int) (x8:Int) (x9:Int):Option β:=match k with
| 0=>none
| k+1 =>
bif decide (x9<x2) then (
(ix x0 (IntKind.wrap .i64 (x1+x9))).bind fun a23 =>
z17 k kE0 x0 x1 x2 (intBits .or .u64 (IntKind.wrap .u64 (x8*2^8)) (IntKind.wrap .u64 a23)) (IntKind.wrap .i64 (x9+1)))
else (
kE0 x8)
def z66 (k:Nat) (x0:(List Int)) (x1:Int) (x2:Int):Option (Int×Bool) :=
(bif decide (x2<1) then (some true) else (some (decide (x2>8)))).bind fun b1 =>
(bif b1 then (some true) else (some (decide (x1<0)))).bind fun b5 =>
(bif b5 then (some true) else (some (decide (x1>((x0.length:Int)))))).bind fun b9 =>
(bif b9 then (some true) else (some (decide (x2>(IntKind.wrap .i64 (((x0.length:Int))-x1)))))).bind fun b13 =>
bif b13 then (
some (0,false))
else (
z17 k (fun r28_8 =>
some (r28_8,true)) x0 x1 x2 0 0)
theorem zi3 {h:H}  {kE0:Int→Option β} (hE0:∀ (q8:Int) (H26:Go.Ev.H) (_:Fm 50 h [] [] [] H26),Sim (kE0 q8) (K ((.exit 0),(envL [(8,(.p (.int .u64 q8)))]),H26)) Q) (k:Nat):∀ (x0:(List Int)) (x1:Int) (x2:Int) (x8:Int) (x9:Int) (v20:V) (h21:SlH h (dI .u8) x0 v20) (H18:Go.Ev.H) (_:Fm 50 h [] [] [] H18) {σ:Stamp},Sim (z17 k kE0 x0 x1 x2 x8 x9) ((cvL G X0 z88 z89 σ (envL [(0,v20),(1,(.p (.int .i64 x1))),(2,(.p (.int .i64 x2))),(8,(.p (.int .u64 x8))),(9,(.p (.int .i64 x9)))]) H18).bind K) Q:=by
 induction k with
 | zero=>intros;exact .no
 | succ k ih =>
  intro x0 x1 x2 x8 x9 v20 h21 H18 S19 σ
  rw [z17]
  refine .round (Sim.ext (zlx _ _ _ _ _ _ _ _ _) ?_)
  refine .cq ?_ ?_
  ·refine .bd fun a23 h24=>?_
   refine .op ((S19.low h21).iS h24 rfl) ?_
   obtain ⟨_,rfl,hE25⟩:=(S19.low h21).el h24 rfl
   refine .op (hE25.ld (j:=0) rfl) ?_
   refine .ci ?_
   exact ih x0 x1 x2 (intBits .or .u64 (IntKind.wrap .u64 (x8*2^8)) (IntKind.wrap .u64 a23)) (IntKind.wrap .i64 (x9+1)) v20 h21 H18 (S19.wk2 aN aN)
  exact hE0 x8 H18 (S19.wk2 aN aN)
theorem zlz (k:Nat) {h:H} {σ:Stamp} (x0:List Int) {u0:V} (hu0:SlH h (dI .u8) x0 u0) (x1:Int) (x2:Int):Sim (z66 k x0 x1 x2) (ev G X0 136 σ [u0,(.p (.int .i64 x1)),(.p (.int .i64 x2))] h) (fun r s=>s=([.v (.p (.int .u64 r.1)),.v (.p (.bool r.2))],h)):=by
 refine .ev rfl (Sim.ext (zid _ _ _ _ _ _ _) ?_)
 rw [z66]
 have S0:Fm 50 h [] [] [] (List.replicate 50 []::h):=Fm.start0
 refine .ch (P:=fun r y=>r=y) ?_ (fun b1 y2 h3 h4=>?_)
 ·refine .cq ?_ ?_
  ·exact .ret rfl rfl
  ·exact .ret rfl rfl
 subst h4
 refine .ch (P:=fun r y=>r=y) ?_ (fun b5 y6 h7 h8=>?_)
 ·refine .cq ?_ ?_
  ·exact .ret rfl rfl
  ·exact .ret rfl rfl
 subst h8
 refine .ch (P:=fun r y=>r=y) ?_ (fun b9 y10 h11 h12=>?_)
 ·refine .cq ?_ ?_
  ·exact .ret rfl rfl
  ·refine .op ((S0.low hu0).len) ?_
   refine .ci ?_
   exact .ret rfl rfl
 subst h12
 refine .ch (P:=fun r y=>r=y) ?_ (fun b13 y14 h15 h16=>?_)
 ·refine .cq ?_ ?_
  ·exact .ret rfl rfl
  ·refine .op ((S0.low hu0).len) ?_
   refine .ci ?_
   exact .ret rfl rfl
 subst h16
 refine .cq ?_ ?_
 ·exact .fin (S0.finN (lC (sI _ _).lv (lC (sB _).lv lN))) rfl
 refine .as (zi3 ?_ k x0 x1 x2 0 0 u0 hu0 (List.replicate 50 []::h) (S0.wk2 aN aN))
 ·intro r28_8 H29 S30
  refine .ext (zj3 _ _ _ _ _) ?_
  exact .fin (S30.finN (lC (sI _ _).lv (lC (sB _).lv lN))) rfl
def z13 (k:Nat) (x0:(List Int)) (x1:Int) (x2:Int):Option (Int) :=
(z66 k x0 x1 x2).bind fun r1 =>
some (r1.1)
theorem z5k (k:Nat) {h:H} {σ:Stamp} (x0:List Int) {u0:V} (hu0:SlH h (dI .u8) x0 u0) (x1:Int) (x2:Int):Sim (z13 k x0 x1 x2) (ev G X0 87 σ [u0,(.p (.int .i64 x1)),(.p (.int .i64 x2))] h) (fun r s=>s=([.v (.p (.int .u64 r))],h)):=by
 refine .ev rfl (Sim.ext (zi9 _ _ _ _ _ _ _) ?_)
 rw [z13]
 have S0:Fm 17 h [] [] [] (List.replicate 17 []::h):=Fm.start0
 refine .call (zlz k x0 (S0.low hu0) x1 x2) fun r1 cs2 H3 h4 q5=>?_
 cases q5
 refine .or ?_
 refine .ci ?_
 refine .or ?_
 refine .ab ?_
 exact .fin (S0.finN (lC (sI _ _).lv lN)) rfl
end
end Go.Ev
