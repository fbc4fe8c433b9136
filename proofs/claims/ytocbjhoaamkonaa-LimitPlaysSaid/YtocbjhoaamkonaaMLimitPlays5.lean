/- A part of the proof that follows: What one can take is what the document says, for any calls. -/
import Derived.Test.YtocbjhoaamkonaaMLimitPlays4
namespace Go.Ev
namespace Lim
open Srt Alm
abbrev Rf:=z1t
abbrev Ask:=z27
def zp (l:List Tu) (u:List Int):List D:=List.zipWith (fun t a=>⟨a,t.Owner⟩) l u
structure Rl (L:Li) (W:Rf):Prop where
 ok:Ok L
 cap:W.Cap=L.cap
 remb:(L.told=false∧W.Remb=-1)∨(L.told=true∧W.Remb=rb L.remb)
 rr:0≤L.remb∧L.remb<18446744073709551616
 l:W.f_L=L.tuples
 ul:W.Until.length=L.tuples.length
 ends:L.ends.l.Perm (zp L.tuples W.Until)
theorem So.eq {a b:List Tu} (ha:So a) (hb:So b) (h:a.Perm b):a=b:=h.eq_of_pairwise (fun x y _ _ h1 h2=>by omega) ha hb
theorem zp_app {a b:List Tu} {u v:List Int} (h:a.length=u.length):zp (a++b) (u++v)=zp a u++zp b v:=List.zipWith_append h
theorem zng (a b:List D) (o:Int):dropK (a++b) o=dropK a o++dropK b o:=List.filter_append ..
theorem zl5:∀ {l:List Tu} {u:List Int} {o:Int},(∀ x∈l,x.Owner≠o)→dropK (zp l u) o=zp l u
 | [],_,_,_=>rfl
 | _::_,[],_,_=>rfl
 | x::l,a::u,o,h=>by
  have ih:=zl5 (l:=l) (u:=u) (o:=o) fun y hy=>h y (List.mem_cons_of_mem _ hy)
  unfold dropK zp at ih ⊢
  rw [List.zipWith_cons_cons,List.filter_cons,if_pos (by simpa using h x (List.mem_cons_self ..)),ih]
theorem zuq {now:Int} (h:now<0):unt now=IntKind.wrap .i64 (now+1000000):=by
 unfold unt z52
 rw [decide_eq_true h];rfl
theorem ztr {now:Int} (h0:0≤now) (h1:now<9223372036854775808):zat now 1000000=some (unt now):=by
 unfold unt z52 zbq zbe zat
 rw [decide_eq_false (show ¬ now<0 by omega)]
 simp only [cond_false,Option.bind_some,Option.getD_some]
 have a1:(if (0:Int)>now then 0 else now)=now:=if_neg (by omega)
 have a2:(if now>0 then now else 0)=now:=by split<;>omega
 have a3:(if (0:Int)>1000000 then (0:Int) else 1000000)=1000000:=if_neg (by omega)
 have a4:(if (1000000:Int)>0 then (1000000:Int) else 0)=1000000:=if_pos (by omega)
 rw [a1,a2,a3,a4,wU h0 (by omega),wU (n:=1000000) (by omega) (by omega),wU (n:=now+1000000) (by omega) (by omega),wrap_i64 (n:=9223372036854775807-1000000) (by omega) (by omega)]
 by_cases h:now>9223372036854775807-1000000
 ·rw [decide_eq_true h,cond_true,if_pos (by omega),wrap_i64 (by omega) (by omega)]
 ·rw [decide_eq_false h,cond_false,if_neg (by omega)]
theorem zsr (now:Int):∃ r,zat now 1000000=some r:=by
 unfold zat
 cases decide ((if 0>now then 0 else now)>IntKind.wrap .i64 (9223372036854775807-if (0:Int)>1000000 then 0 else 1000000))
 ·exact ⟨_,rfl⟩
 ·exact ⟨_,rfl⟩
theorem rft_l0 {W:Rf} {t:Tu} (h1000:W.f_L.length≤1000) (kE:Int→Int→Tu→Rf→Option (Bool×Rf)) (x2:Int):∀ m i k:Nat,i+m=W.f_L.length→m+5≤k→(∀ q,q<i→(W.f_L.getD q t0).Owner<t.Owner) →
  ∃ n:Nat,z3i k kE x2 (i:Int) t W=kE x2 (n:Int) t W∧n≤W.f_L.length∧(∀ q,q<n→(W.f_L.getD q t0).Owner<t.Owner)∧(n<W.f_L.length→t.Owner≤(W.f_L.getD n t0).Owner):=by
 intro m
 induction m with
 | zero =>
  intro i k hi hk hq
  obtain ⟨k,rfl⟩:∃ j,k=j+1:=⟨k-1,by omega⟩
  rw [z3i,decide_eq_false (by omega),cond_false,Option.bind_some,cond_false]
  exact ⟨i,rfl,by omega,hq,fun h=>by omega⟩
 | succ m ih =>
  intro i k hi hk hq
  obtain ⟨k,rfl⟩:∃ j,k=j+1:=⟨k-1,by omega⟩
  rw [z3i,decide_eq_true (by omega),cond_true,tix (by omega),Option.bind_some,Option.bind_some]
  by_cases h:(W.f_L.getD i t0).Owner<t.Owner
  ·rw [decide_eq_true h,cond_true,show IntKind.wrap .i64 ((i:Int)+1)=((i+1:Nat):Int) from wrap_i64 (by omega) (by omega)]
   exact ih (i+1) k (by omega) (by omega) fun q hq2=>by
    by_cases e:q=i
    ·rw [e];exact h
    ·exact hq q (by omega)
  ·rw [decide_eq_false h,cond_false]
   exact ⟨i,rfl,by omega,hq,fun _=>by omega⟩
theorem sub_lo {α:Type} {l:List α} {n:Nat} (h:n≤l.length):sub l 0 (n:Int)=some (l.take n):=by
 unfold sub
 rw [if_pos ⟨by omega,by omega,by omega⟩]
 simp
theorem sub_hi {α:Type} {l:List α} {n:Nat} (h:n≤l.length):sub l (n:Int) (l.length:Int)=some (l.drop n):=by
 unfold sub
 rw [if_pos ⟨by omega,by omega,by omega⟩]
 congr 1
 rw [Int.toNat_natCast]
 exact List.take_of_length_le (by rw [List.length_drop];omega)
theorem stx_at {α:Type} {l:List α} {n:Nat} {x:α} (h:n<l.length):stx l (n:Int) x=some (l.take n++x::l.drop (n+1)):=by
 unfold stx
 rw [if_pos ⟨by omega,by omega⟩,Int.toNat_natCast,List.set_eq_take_append_cons_drop,if_pos h]
structure RTold (W W':Rf) (t:Tu) (now:Int) (n m:Nat):Prop where
 cap:W'.Cap=W.Cap
 remb:W'.Remb=W.Remb
 l:W'.f_L=W.f_L.take n++t::W.f_L.drop m
 u:W'.Until=W.Until.take n++unt now::W.Until.drop m
theorem rtm_ok {W:Rf} {t:Tu} {now:Int} (hs:So W.f_L) (hl:W.f_L.length≤6) (hu:W.Until.length=W.f_L.length) (hn1:now<9223372036854775808) {k:Nat} (hk:2000≤k) :
  ∃ r W',z55 k W t now=some (r,W')∧((r=false∧W'=W∧W.f_L.length=6∧∀ x∈W.f_L,x.Owner≠t.Owner)∨(r=true∧∃ n m:Nat,n≤m∧m≤n+1∧m≤W.f_L.length∧RTold W W' t now n m∧(∀ q,q<n→(W.f_L.getD q t0).Owner<t.Owner)∧(∀ q,m≤q→q<W.f_L.length→t.Owner<(W.f_L.getD q t0).Owner)∧(n<m→(W.f_L.getD n t0).Owner=t.Owner)∧(n=m→W.f_L.length<6))):=by
 unfold z55
 generalize hK:(fun (r38_2 r38_7:Int) (yg8:Tu) (zp0:Rf)=>_)=K
 obtain ⟨n,e,h0,h1,h2⟩:=rft_l0 (W:=W) (t:=t) (by omega) K now W.f_L.length 0 k (by omega) (by omega) (fun q hq=>by omega)
 have e':z3i k K now 0 t W=K now (n:Int) t W:=e
 rw [e',← hK]
 simp only
 obtain ⟨u,hadd⟩:=zsr now
 have hun:∀ {x:Option (Bool×Rf)} {y:Int→Option (Bool×Rf)},(∀ v,v=unt now→∃ z,y v=z∧x=z)→True:=fun _=>trivial
 have aft:∀ q,n≤q→q<W.f_L.length→t.Owner≤(W.f_L.getD q t0).Owner:=fun q a b=>by
  by_cases e:q=n
  ·rw [e];exact h2 (by omega)
  ·have:=hs.get (p:=n) (q:=q) (by omega) b
   have:=h2 (by omega);omega
 have gl:W.f_L.take n=[]++W.f_L.take n:=rfl
 have body:∀ v:Int,v=unt now →
   ∃ r W',((bif decide ((n:Int)<(W.f_L.length:Int)) then (ix W.f_L (n:Int)).bind fun a55=>some (a55.Owner==t.Owner) else some false).bind fun b63 =>
    bif b63 then (ap 24 ([]:List Tu) W.f_L).bind fun a71=>(ix a71 (n:Int)).bind fun a83=>(stx a71 (n:Int) t).bind fun a88=>(ix W.Until (n:Int)).bind fun a93=>(stx W.Until (n:Int) v).bind fun a98=>some (true,(⟨W.Cap,W.Remb,a88,a98⟩:Rf))
    else bif decide ((W.f_L.length:Int)≥6) then some (false,W)
    else (sub W.f_L 0 (n:Int)).bind fun a105=>(sub W.f_L (n:Int) (W.f_L.length:Int)).bind fun a108=>(ap 24 ([]:List Tu) a105).bind fun a112=>(ap 24 a112 [t]).bind fun a118=>(ap 24 a118 a108).bind fun a124=>(sub W.Until 0 (n:Int)).bind fun a137=>(sub W.Until (n:Int) (W.Until.length:Int)).bind fun a140=>(ap 8 ([]:List Int) a137).bind fun a144=>(ap 8 a144 [v]).bind fun a150=>(ap 8 a150 a140).bind fun a156=>some (true,(⟨W.Cap,W.Remb,a124,a156⟩:Rf)))=some (r,W')∧((r=false∧W'=W∧W.f_L.length=6∧∀ x∈W.f_L,x.Owner≠t.Owner)∨(r=true∧∃ n m:Nat,n≤m∧m≤n+1∧m≤W.f_L.length∧RTold W W' t now n m∧(∀ q,q<n→(W.f_L.getD q t0).Owner<t.Owner)∧(∀ q,m≤q→q<W.f_L.length→t.Owner<(W.f_L.getD q t0).Owner)∧(n<m→(W.f_L.getD n t0).Owner=t.Owner)∧(n=m→W.f_L.length<6))):=fun v hv=>by
  subst hv
  have notin:(∀ q,n≤q→q<W.f_L.length→t.Owner<(W.f_L.getD q t0).Owner) →
    ∃ r W',(bif decide ((W.f_L.length:Int)≥6) then some (false,W)
    else (sub W.f_L 0 (n:Int)).bind fun a105=>(sub W.f_L (n:Int) (W.f_L.length:Int)).bind fun a108=>(ap 24 ([]:List Tu) a105).bind fun a112=>(ap 24 a112 [t]).bind fun a118=>(ap 24 a118 a108).bind fun a124=>(sub W.Until 0 (n:Int)).bind fun a137=>(sub W.Until (n:Int) (W.Until.length:Int)).bind fun a140=>(ap 8 ([]:List Int) a137).bind fun a144=>(ap 8 a144 [unt now]).bind fun a150=>(ap 8 a150 a140).bind fun a156=>some (true,(⟨W.Cap,W.Remb,a124,a156⟩:Rf)))=some (r,W')∧((r=false∧W'=W∧W.f_L.length=6∧∀ x∈W.f_L,x.Owner≠t.Owner)∨(r=true∧∃ n m:Nat,n≤m∧m≤n+1∧m≤W.f_L.length∧RTold W W' t now n m∧(∀ q,q<n→(W.f_L.getD q t0).Owner<t.Owner)∧(∀ q,m≤q→q<W.f_L.length→t.Owner<(W.f_L.getD q t0).Owner)∧(n<m→(W.f_L.getD n t0).Owner=t.Owner)∧(n=m→W.f_L.length<6))):=fun hgt=>by
   by_cases h6:W.f_L.length≥6
   ·rw [decide_eq_true (by omega),cond_true]
    refine ⟨_,_,rfl,.inl ⟨rfl,rfl,by omega,fun x hx e=>?_⟩⟩
    obtain ⟨q,hq,rfl⟩:=List.mem_iff_getElem.1 hx
    rw [← tget hq] at e
    by_cases hqn:q<n
    ·have:=h1 q hqn;omega
    ·have:=hgt q (by omega) hq;omega
   ·have l1:(W.f_L.take n).length≤6:=by rw [List.length_take];omega
    have l2:(W.f_L.drop n).length≤6:=by rw [List.length_drop];omega
    have l3:(W.Until.take n).length≤6:=by rw [List.length_take];omega
    have l4:(W.Until.drop n).length≤6:=by rw [List.length_drop];omega
    rw [decide_eq_false (by omega),cond_false,sub_lo h0,Option.bind_some,sub_hi h0,Option.bind_some,ap_eq (by omega) (by simp only [List.length_nil];omega),Option.bind_some,ap_eq (by omega) (by simp only [List.nil_append,List.length_cons,List.length_nil];omega),Option.bind_some,ap_eq (by omega) (by simp only [List.nil_append,List.length_append,List.length_cons,List.length_nil];omega),Option.bind_some,
     sub_lo (by omega),Option.bind_some,sub_hi (by omega),Option.bind_some,ap_eq (by omega) (by simp only [List.length_nil];omega),Option.bind_some,ap_eq (by omega) (by simp only [List.nil_append,List.length_cons,List.length_nil];omega),Option.bind_some,ap_eq (by omega) (by simp only [List.nil_append,List.length_append,List.length_cons,List.length_nil];omega),Option.bind_some]
    exact ⟨_,_,rfl,.inr ⟨rfl,n,n,Nat.le_refl _,by omega,h0,⟨rfl,rfl,by simp,by simp⟩,h1,hgt,fun h=>by omega,fun _=>by omega⟩⟩
  by_cases hn:n<W.f_L.length
  ·rw [decide_eq_true (by omega),cond_true,tix hn,Option.bind_some,Option.bind_some]
   by_cases ho:(W.f_L.getD n t0).Owner=t.Owner
   ·rw [beq_iff_eq.2 ho,cond_true,ap_eq (by omega) (by simp only [List.length_nil];omega),Option.bind_some,List.nil_append,tix hn,Option.bind_some,stx_at hn,Option.bind_some,ix_at (List.getElem?_eq_getElem (by omega)),Option.bind_some,stx_at (by omega),Option.bind_some]
    refine ⟨_,_,rfl,.inr ⟨rfl,n,n+1,by omega,by omega,by omega,⟨rfl,rfl,rfl,rfl⟩,h1,fun q a b=>?_,fun _=>ho,fun h=>by omega⟩⟩
    have:=hs.get (p:=n) (q:=q) (by omega) b
    omega
   ·rw [beq_eq_false_iff_ne.2 ho,cond_false]
    refine notin fun q a b=>?_
    have:=aft q a b
    by_cases e:q=n
    ·subst e;omega
    ·have:=hs.get (p:=n) (q:=q) (by omega) b
     have:=h2 hn;omega
  ·rw [decide_eq_false (by omega),cond_false,Option.bind_some,cond_false]
   exact notin fun q a b=>by omega
 by_cases hneg:now<0
 ·rw [hadd,Option.bind_some,decide_eq_true hneg,cond_true]
  exact body _ (zuq hneg).symm
 ·rw [ztr (by omega) hn1,Option.bind_some,decide_eq_false hneg,cond_false]
  exact body _ rfl
theorem zuf {L:Li} {W:Rf} {t:Tu} {now:Int} (h:Rl L W) (ht:OkT t) (hn1:now<9223372036854775808) {k:Nat} (hk:4000≤k):∃ r L' W',z4k k L t now=some (r,L')∧z55 k W t now=some (r,W')∧Rl L' W':=by
 have hl6:=h.ok.len
 have hW:=h.l
 obtain ⟨r1,L',e1,h1⟩:=ztm (t:=t) (now:=now) h.ok ht hk
 obtain ⟨r2,W',e2,h2⟩:=rtm_ok (W:=W) (t:=t) (now:=now) (by rw [hW];exact h.ok.so) (by rw [hW];exact hl6) (by rw [hW];exact h.ul) hn1 (k:=k) (by omega)
 rw [hW] at h2
 rcases h2 with ⟨rfl,rfl,q1,q2⟩ | ⟨rfl,n,m,a1,a2,a3,a4,a5,a6,a7,a8⟩
 ·rcases h1 with ⟨rfl,rfl,_,_⟩ | ⟨rfl,h1⟩
  ·exact ⟨_,_,_,e1,e2,h⟩
  ·exfalso
   have:=h1.tuples.length_eq
   rw [zb5 q2,List.length_append,q1] at this
   have:=h1.ok.len
   simp at *;omega
 ·have hA:∀ x∈L.tuples.take n,x.Owner<t.Owner:=fun x hx=>by
   obtain ⟨q,hq,rfl⟩:=List.mem_iff_getElem.1 hx
   rw [List.length_take] at hq
   have:=a5 q (by omega)
   rwa [tget (by omega),← List.getElem_take (h:=by simpa using hq)] at this
  have hB:∀ x∈L.tuples.drop m,t.Owner<x.Owner:=fun x hx=>by
   obtain ⟨q,hq,rfl⟩:=List.mem_iff_getElem.1 hx
   rw [List.length_drop] at hq
   have:=a6 (m+q) (by omega) (by omega)
   rwa [tget (by omega),← List.getElem_drop] at this
  have hcA:∀ x∈L.tuples.take n,x.Owner≠t.Owner:=fun x hx e=>by have:=hA x hx;omega
  have hcB:∀ x∈L.tuples.drop m,x.Owner≠t.Owner:=fun x hx e=>by have:=hB x hx;omega
  have hsplit:∃ M:List Tu,∃ V:List Int,L.tuples=L.tuples.take n++M++L.tuples.drop m∧W.Until=W.Until.take n++V++W.Until.drop m∧M.length=V.length∧∀ x∈M,x.Owner=t.Owner:=by
   have hul:=h.ul
   by_cases e:n=m
   ·subst e
    exact ⟨[],[],by simp,by simp,rfl,fun x hx=>by cases hx⟩
   ·have e:m=n+1:=by omega
    subst e
    refine ⟨[L.tuples.getD n t0],[W.Until[n]'(by omega)],?_,?_,rfl,fun x hx=>by rw [List.mem_singleton.1 hx];exact a7 (by omega)⟩
    ·rw [tget (by omega),List.append_assoc,List.singleton_append,← List.drop_eq_getElem_cons (by omega),List.take_append_drop]
    ·rw [List.append_assoc,List.singleton_append,← List.drop_eq_getElem_cons (by omega),List.take_append_drop]
  obtain ⟨M,V,m1,m2,m3,m4⟩:=hsplit
  have hcut:cut L.tuples t.Owner=L.tuples.take n++L.tuples.drop m:=by
   have c0:cut M t.Owner=[]:=List.filter_eq_nil_iff.2 fun x hx=>by simpa using m4 x hx
   have:cut L.tuples t.Owner=cut (L.tuples.take n++M++L.tuples.drop m) t.Owner:=by rw [← m1]
   rw [this]
   have c1:=zb5 hcA
   have c2:=zb5 hcB
   unfold cut at c0 c1 c2 ⊢
   rw [List.filter_append,List.filter_append,c0,c1,c2,List.append_nil]
  have hul:=h.ul
  have lt1:(L.tuples.take n).length=(W.Until.take n).length:=by rw [List.length_take,List.length_take];omega
  have hdz:dropK (zp L.tuples W.Until) t.Owner=zp (L.tuples.take n) (W.Until.take n)++zp (L.tuples.drop m) (W.Until.drop m):=by
   have e:zp L.tuples W.Until=zp (L.tuples.take n) (W.Until.take n)++zp M V++zp (L.tuples.drop m) (W.Until.drop m):=by
    conv=>lhs;rw [m1,m2]
    rw [zp_app (by rw [List.length_append,List.length_append];omega),zp_app lt1]
   have c0:∀ (M:List Tu) (V:List Int),(∀ x∈M,x.Owner=t.Owner)→dropK (zp M V) t.Owner=[]:=fun M=>by
    induction M with
    | nil=>intro V _;rfl
    | cons x M ih =>
     intro V hM
     cases V with
     | nil=>rfl
     | cons a V =>
      have:=ih V fun y hy=>hM y (List.mem_cons_of_mem _ hy)
      unfold dropK zp at this ⊢
      rw [List.zipWith_cons_cons,List.filter_cons,if_neg (by simpa using hM x (List.mem_cons_self ..)),this]
   rw [e,zng,zng,c0 M V m4,zl5 hcA,zl5 hcB,List.append_nil]
  rcases h1 with ⟨rfl,_,b1,b2⟩ | ⟨rfl,h1⟩
  ·exfalso
   by_cases e:n=m
   ·have:=a8 e;omega
   ·have hn:n<L.tuples.length:=by omega
    refine b2 (L.tuples.getD n t0) ?_ (a7 (by omega))
    rw [tget hn];exact List.getElem_mem hn
  ·refine ⟨true,L',W',e1,e2,?_⟩
   obtain ⟨w1,w2,w3,w4⟩:=a4
   rw [hW] at w3
   have htl:L'.tuples=L.tuples.take n++t::L.tuples.drop m:=by
    refine So.eq h1.ok.so (So.cons_mid (h.ok.so.sublist (List.take_sublist ..)) (h.ok.so.sublist (List.drop_sublist ..)) hA hB) (h1.tuples.trans ?_)
    rw [hcut]
    exact (List.perm_append_singleton t _).trans List.perm_middle.symm
   refine ⟨h1.ok,by rw [w1,h1.cap];exact h.cap,by rw [w2,h1.remb,h1.told];exact h.remb,by rw [h1.remb];exact h.rr,by rw [w3,htl],?_,?_⟩
   ·rw [w4,htl]
    simp only [List.length_append,List.length_cons,List.length_drop,List.length_take];omega
   ·rw [htl,w4]
    have e:zp (L.tuples.take n++t::L.tuples.drop m) (W.Until.take n++unt now::W.Until.drop m)=zp (L.tuples.take n) (W.Until.take n)++(⟨unt now,t.Owner⟩::zp (L.tuples.drop m) (W.Until.drop m)):=zp_app lt1
    rw [e]
    refine h1.ends.trans (((h.ends.filter _).append_right _).trans ?_)
    show (dropK (zp L.tuples W.Until) t.Owner++_).Perm _
    rw [hdz]
    exact (List.perm_append_singleton _ _).trans List.perm_middle.symm
def keepL (now:Int):List Tu→List Int→List Tu
 | t::l,a::u=>if a>now then t::keepL now l u else keepL now l u
 | _,_=>[]
def keepU (now:Int):List Int→List Int:=fun u=>u.filter fun a=>decide (a>now)
theorem ze8 {now:Int} {t:Tu} {l:List Tu} {a:Int} {u:List Int}:keepL now (t::l) (a::u)=if a>now then t::keepL now l u else keepL now l u:=rfl
theorem zgs {now:Int} {a:Int} {u:List Int}:keepU now (a::u)=if a>now then a::keepU now u else keepU now u:=by
 unfold keepU
 rw [List.filter_cons]
 by_cases e:a>now
 ·rw [if_pos (decide_eq_true e),if_pos e]
 ·rw [if_neg (by simpa using e),if_neg e]
theorem zil (now:Int):∀ (l:List Tu) (u:List Int),(keepL now l u).Sublist l
 | [],_=>by cases ‹List Int›<;>exact List.Sublist.refl _
 | t::l,[]=>List.nil_sublist _
 | t::l,a::u=>by
  rw [ze8]
  split
  ·exact (zil now l u).cons_cons _
  ·exact (zil now l u).cons _
theorem zl8 (now:Int):∀ (l:List Tu) (u:List Int),u.length=l.length→(keepU now u).length=(keepL now l u).length
 | [],[],_=>rfl
 | [],_::_,h=>by simp at h
 | _::_,[],h=>by simp at h
 | t::l,a::u,h=>by
  have ih:=zl8 now l u (by simpa using h)
  rw [ze8,zgs]
  by_cases e:a>now
  ·rw [if_pos e,if_pos e,List.length_cons,List.length_cons,ih]
  ·rw [if_neg e,if_neg e,ih]
theorem zqx (now:Int):∀ (l:List Tu) (u:List Int),u.length=l.length→rest (zp l u) now=zp (keepL now l u) (keepU now u)∧(due (zp l u) now).length+(keepL now l u).length=l.length
 | [],[],_=>⟨rfl,rfl⟩
 | [],_::_,h=>by simp at h
 | _::_,[],h=>by simp at h
 | t::l,a::u,h=>by
  obtain ⟨i1,i2⟩:=zqx now l u (by simpa using h)
  have ez:∀ (x:Tu) (b:Int) (l:List Tu) (u:List Int),zp (x::l) (b::u)=⟨b,x.Owner⟩::zp l u:=fun _ _ _ _=>rfl
  rw [ze8,zgs,ez]
  unfold rest due at *
  rw [List.filter_cons,List.filter_cons]
  by_cases e:a>now
  ·have e2:decide (a≤now)=false:=decide_eq_false (by omega)
   rw [if_pos e,if_pos e,ez,if_pos (by simp only [e2];rfl),if_neg (by simp only [e2];simp),i1]
   exact ⟨rfl,by rw [List.length_cons,List.length_cons];omega⟩
  ·have e2:decide (a≤now)=true:=decide_eq_true (by omega)
   rw [if_neg e,if_neg e,if_neg (by simp only [e2];simp),if_pos (by simp only [e2])]
   exact ⟨i1,by rw [List.length_cons,List.length_cons];omega⟩
theorem zte {W:Rf} {now:Int} (h6:W.f_L.length≤6) (hu:W.Until.length=W.f_L.length) (kE:List Tu→List Int→Rf→Option (Int×Rf)):∀ m i k:Nat,∀ (x:List Tu) (y:List Int),i+m=W.f_L.length→m+5≤k→x.length≤i→y.length≤i →
  z3m k kE now x y (W.f_L.length:Int) (i:Int) W=kE (x++keepL now (W.f_L.drop i) (W.Until.drop i)) (y++keepU now (W.Until.drop i)) W:=by
 intro m
 induction m with
 | zero =>
  intro i k x y hi hk hx hy
  obtain ⟨k,rfl⟩:∃ j,k=j+1:=⟨k-1,by omega⟩
  rw [z3m,decide_eq_false (by omega),cond_false,List.drop_of_length_le (by omega),List.drop_of_length_le (by omega)]
  simp [keepL,keepU]
 | succ m ih =>
  intro i k x y hi hk hx hy
  obtain ⟨k,rfl⟩:∃ j,k=j+1:=⟨k-1,by omega⟩
  have hui:ix W.Until (i:Int)=some (W.Until[i]'(by omega)):=ix_at (List.getElem?_eq_getElem (by omega))
  rw [z3m,decide_eq_true (by omega),cond_true,hui,Option.bind_some,List.drop_eq_getElem_cons (by omega:i<W.f_L.length),List.drop_eq_getElem_cons (by omega:i<W.Until.length),show IntKind.wrap .i64 ((i:Int)+1)=((i+1:Nat):Int) from wrap_i64 (by omega) (by omega)]
  rw [ze8,zgs]
  by_cases e:W.Until[i]'(by omega)>now
  ·rw [decide_eq_true e,cond_true,tix (by omega),Option.bind_some,Option.bind_some,tget (by omega),ap_eq (by omega) (by simp only [List.length_cons,List.length_nil];omega),Option.bind_some,ap_eq (by omega) (by simp only [List.length_cons,List.length_nil];omega),Option.bind_some,if_pos e,if_pos e,
    ih (i+1) k _ _ (by omega) (by omega) (by rw [List.length_append];simp only [List.length_cons,List.length_nil];omega) (by rw [List.length_append];simp only [List.length_cons,List.length_nil];omega),List.append_assoc,List.append_assoc]
   rfl
  ·rw [decide_eq_false e,cond_false,if_neg e,if_neg e]
   exact ih (i+1) k x y (by omega) (by omega) (by omega) (by omega)
theorem znh {L:Li} {W:Rf} {now:Int} (h:Rl L W) {k:Nat} (hk:4000≤k):∃ r L' W',z3n k L now=some (r,L')∧z4w k W now=some (r,W')∧Rl L' W':=by
 have hl6:=h.ok.len
 have hW:=h.l
 have hul:=h.ul
 obtain ⟨L',e1,o,c1,c2,c3,c4,c5⟩:=ztq (now:=now) h.ok hk
 have e2:z4w k W now=some (IntKind.wrap .i64 ((W.f_L.length:Int)-((keepL now W.f_L W.Until).length:Int)),(⟨W.Cap,W.Remb,keepL now W.f_L W.Until,keepU now W.Until⟩:Rf)):=by
  unfold z4w
  have:=zte (W:=W) (now:=now) (by rw [hW];omega) (by rw [hW];omega) (fun r61_5 r61_6 zp0=>some (IntKind.wrap .i64 ((zp0.f_L.length:Int)-(r61_5.length:Int)),(⟨zp0.Cap,zp0.Remb,r61_5,r61_6⟩:Rf))) W.f_L.length 0 k [] [] (by omega) (by rw [hW];omega) (by simp) (by simp)
  rw [List.drop_zero,List.drop_zero,List.nil_append,List.nil_append] at this
  exact this
 obtain ⟨z1,z2⟩:=zqx now L.tuples W.Until hul
 have hlen:(due L.ends.l now).length=(due (zp L.tuples W.Until) now).length:=(h.ends.filter _).length_eq
 have hr:IntKind.wrap .i64 ((W.f_L.length:Int)-((keepL now W.f_L W.Until).length:Int))=((due L.ends.l now).length:Int):=by
  rw [hW,wrap_i64 (by omega) (by omega)];omega
 have hrest:L'.ends.l.Perm (zp (keepL now L.tuples W.Until) (keepU now W.Until)):=by
  rw [c5,← z1];exact h.ends.filter _
 have hk1:∀ (l:List Tu) (u:List Int),u.length=l.length→(zp l u).map (fun d=>d.Key)=l.map fun t=>t.Owner:=fun l=>by
  induction l with
  | nil=>intro u _;rfl
  | cons t l ih =>
   intro u hu
   cases u with
   | nil=>simp at hu
   | cons a u =>
    have:=ih u (by simpa using hu)
    unfold zp at this ⊢
    rw [List.zipWith_cons_cons,List.map_cons,List.map_cons,this]
 have hkeys:(L'.tuples.map fun t=>t.Owner).Perm ((keepL now L.tuples W.Until).map fun t=>t.Owner):=by
  refine o.keys.symm.trans ((hrest.map _).trans ?_)
  rw [hk1 _ _ (zl8 now _ _ hul)]
 have sub1:L'.tuples.Sublist L.tuples:=by rw [c4];exact zex ..
 have sub2:=zil now L.tuples W.Until
 have uniq:∀ x∈L.tuples,∀ y∈L.tuples,x.Owner=y.Owner→x=y:=fun x hx y hy he=>by
  obtain ⟨a,ha,rfl⟩:=List.mem_iff_getElem.1 hx
  obtain ⟨b,hb,rfl⟩:=List.mem_iff_getElem.1 hy
  have hpw:=List.pairwise_iff_getElem.1 h.ok.so
  rcases Nat.lt_trichotomy a b with q | q | q
  ·have:=hpw a b ha hb q;omega
  ·subst q;rfl
  ·have:=hpw b a hb ha q;omega
 have mem:∀ {A B:List Tu},A.Sublist L.tuples→B.Sublist L.tuples→(A.map fun t=>t.Owner).Perm (B.map fun t=>t.Owner)→∀ x∈A,x∈B:=fun {A B} sa sb hp x hx=>by
  have:=hp.subset (List.mem_map_of_mem (f:=fun t:Tu=>t.Owner) hx)
  obtain ⟨y,hy,e⟩:=List.mem_map.1 this
  rw [← uniq y (sb.subset hy) x (sa.subset hx) e];exact hy
 have nd:∀ {A:List Tu},A.Sublist L.tuples→A.Nodup:=fun {A} sa=>by
  have:=(zim h.ok.so).sublist (sa.map _)
  rw [List.nodup_iff_pairwise_ne,List.pairwise_map] at this
  rw [List.nodup_iff_pairwise_ne]
  exact this.imp fun q e=>q (by rw [e])
 have heq:L'.tuples=keepL now L.tuples W.Until:=So.eq o.so (h.ok.so.sublist sub2) ((List.perm_ext_iff_of_nodup (nd sub1) (nd sub2)).2 fun x=>⟨mem sub1 sub2 hkeys x,mem sub2 sub1 hkeys.symm x⟩)
 rw [hr] at e2
 refine ⟨_,L',_,e1,e2,⟨o,by rw [c1];exact h.cap,by rw [c2,c3];exact h.remb,by rw [c2];exact h.rr,by rw [heq,hW],by rw [heq];exact zl8 now _ _ hul,by rw [heq];exact hrest⟩⟩
theorem zsu {l:List Tu} (h1000:l.length≤1000) (kE:List Tu→Int→Option (Int×Bool)) (x0:List Tu):∀ m i k:Nat,∀ n:Int,i+m=l.length→m+5≤k→((i=0∧n=18446744073709551615)∨(0<i∧IsLo (l.take i) n)) →
  ∃ n',z6l k kE x0 n (l.map heldT) (l.length:Int) (i:Int)=kE x0 n'∧(l≠[]→IsLo l n'):=by
 intro m
 induction m with
 | zero =>
  intro i k n hi hk hn
  obtain ⟨k,rfl⟩:∃ j,k=j+1:=⟨k-1,by omega⟩
  rw [z6l,decide_eq_false (by omega),cond_false]
  refine ⟨n,rfl,fun hne=>?_⟩
  have hp:0<l.length:=List.length_pos_iff.2 hne
  rcases hn with ⟨h0,_⟩ | ⟨_,hn⟩
  ·omega
  ·rwa [List.take_of_length_le (by omega)] at hn
 | succ m ih =>
  intro i k n hi hk hn
  obtain ⟨k,rfl⟩:∃ j,k=j+1:=⟨k-1,by omega⟩
  have hil:i<l.length:=by omega
  have hx:ix (l.map heldT) (i:Int)=some (heldT l[i]):=ix_at (by rw [List.getElem?_map,List.getElem?_eq_getElem hil];rfl)
  rw [z6l,decide_eq_true (by omega),cond_true,hx,Option.bind_some,show IntKind.wrap .i64 ((i:Int)+1)=((i+1:Nat):Int) from wrap_i64 (by omega) (by omega)]
  refine ih (i+1) k _ (by omega) (by omega) (.inr ⟨by omega,?_⟩)
  have ht:l.take (i+1)=l.take i++[l[i]]:=by rw [List.take_add_one,List.getElem?_eq_getElem hil];rfl
  have hh:(heldT l[i]).Rate=if (1099511627776:Int)<l[i].Rate then 1099511627776 else l[i].Rate:=rfl
  rw [ht,hh]
  rcases hn with ⟨rfl,rfl⟩ | ⟨_,hn⟩
  ·rw [List.take_zero,List.nil_append]
   refine ⟨by split<;>split at *<;>omega,fun t ht=>?_,?_⟩
   ·rw [List.mem_singleton.1 ht];split<;>split at *<;>omega
   ·by_cases c:(1099511627776:Int)<l[0].Rate
    ·left;rw [if_pos c];split<;>omega
    ·right;refine ⟨l[0],List.mem_singleton.2 rfl,?_⟩
     rw [if_neg c];split<;>omega
  ·have h1:=hn.top
   refine ⟨by split<;>omega,fun t ht=>?_,?_⟩
   ·rcases List.mem_append.1 ht with q | q
    ·have:=hn.le t q;split<;>omega
    ·rw [List.mem_singleton.1 q];split<;>split at *<;>omega
   ·by_cases c:(if (1099511627776:Int)<l[i].Rate then 1099511627776 else l[i].Rate)<n
    ·rw [if_pos c]
     by_cases c2:(1099511627776:Int)<l[i].Rate
     ·left;rw [if_pos c2]
     ·right;exact ⟨l[i],List.mem_append_right _ (List.mem_singleton.2 rfl),by rw [if_neg c2]⟩
    ·rw [if_neg c]
     rcases hn.one with e | ⟨t,ht,e⟩
     ·exact .inl e
     ·exact .inr ⟨t,List.mem_append_left _ ht,e⟩
theorem znv {L:Li} {W:Rf} (h:Rl L W) {k:Nat} (hk:4000≤k):∃ r,z1z k L=some r∧z2u k W=some r:=by
 have hl6:=h.ok.len
 obtain ⟨m,hm,hm0,e1⟩:=zuw h.ok h.rr hk
 refine ⟨_,e1,?_⟩
 have hm1:=hm.top
 have hrate:zae k W.f_L=some (if L.tuples=[] then (0,false) else (m,true)):=by
  rw [h.l]
  unfold zae
  rw [znf (by omega) (by omega),Option.bind_some]
  have hlm:(L.tuples.map heldT).length=L.tuples.length:=List.length_map _
  rw [hlm]
  obtain ⟨n',q1,q2⟩:=zsu (l:=L.tuples) (by omega) (fun r31_0 r31_4=>bif ((r31_0.length:Int))==0 then some (0,false) else some (r31_4,true)) L.tuples L.tuples.length 0 k 18446744073709551615 (by omega) (by omega) (.inl ⟨rfl,rfl⟩)
  refine Eq.trans q1 ?_
  by_cases hne:L.tuples=[]
  ·rw [if_pos hne,hne];rfl
  ·have hp:0<L.tuples.length:=List.length_pos_iff.2 hne
   rw [if_neg hne,beq_eq_false_iff_ne.2 (by omega:¬ (L.tuples.length:Int)=0),cond_false,(q2 hne).uniq hm fun t=>Iff.rfl]
 have hr1:zbd m=some (rb m):=by
  unfold zbd rb
  have e:Int.tdiv m 8=m / 8:=Int.tdiv_eq_ediv_of_nonneg hm0
  rw [e,wU (by omega) (by omega),wrap_i64 (by split<;>omega) (by split<;>omega)]
 unfold z2u rv
 have hrb:0≤rb L.remb:=by unfold rb;have:=h.rr;split<;>omega
 rw [hrate,h.cap]
 rcases h.remb with ⟨t0,r0⟩ | ⟨t0,r0⟩
 ·rw [t0,r0,decide_eq_false (by decide),cond_false]
  by_cases hne:L.tuples=[]
  ·simp [hne]
  ·simp only [if_neg hne,Option.bind_some,hr1];simp
 ·rw [t0,r0,decide_eq_true (by omega),cond_true]
  by_cases hne:L.tuples=[]
  ·simp [hne]
  ·simp only [if_neg hne,Option.bind_some,hr1];simp
theorem tup_l0 {l:List Tu} (h1000:l.length≤2000) (kE0:Unit→Option Bool) (kE1:Bool→Option Bool):∀ m i k:Nat,i+m=l.length→m+5≤k →
  z53 k kE0 kE1 l l (l.length:Int) (i:Int)=kE0 ():=by
 intro m
 induction m with
 | zero =>
  intro i k hi hk
  obtain ⟨k,rfl⟩:∃ j,k=j+1:=⟨k-1,by omega⟩
  rw [z53,decide_eq_false (by omega),cond_false]
 | succ m ih =>
  intro i k hi hk
  obtain ⟨k,rfl⟩:∃ j,k=j+1:=⟨k-1,by omega⟩
  have hb:∀ a:Tu,andB [a.Owner==a.Owner,a.Rate==a.Rate,a.Over==a.Over]=true:=fun a=>by simp [andB]
  rw [z53,decide_eq_true (by omega),cond_true,tix (by omega),Option.bind_some,Option.bind_some,hb,Bool.not_true,cond_false,show IntKind.wrap .i64 ((i:Int)+1)=((i+1:Nat):Int) from wrap_i64 (by omega) (by omega)]
  exact ih (i+1) k (by omega) (by omega)
theorem tup_ok {l:List Tu} (h1000:l.length≤2000) {k:Nat} (hk:2100≤k):z3e k l l=some true:=by
 unfold z3e
 have:((l.length:Int) != (l.length:Int))=false:=by simp
 rw [this,cond_false]
 exact tup_l0 h1000 _ _ l.length 0 k (by omega) (by omega)
theorem zpm (l:List Tu):∀ (n:Nat) (la:Tu),(setL l n la).length≤n
 | 0,_=>Nat.le_refl _
 | n+1,la=>by
  unfold setL
  rw [List.length_cons]
  split
  ·have:=zpm l n (nextT l la).1;omega
  ·simp
theorem zri (l:List Tu):(boundS l).length≤1001:=by
 unfold boundS
 split
 ·simp
 ·exact zpm ..
theorem zd5 {L:Li} {W:Rf} (h:Rl L W) {k:Nat} (hk:4000≤k) (kE1:Bool→Option Bool) (X:Option Bool) :
  ((z1z k L).bind fun r80=>(z2u k W).bind fun r85 =>
   (bif r80 != r85 then (some true) else ((z2e L).bind fun r90=>(z3e k r90 W.f_L).bind fun r97=>some (!r97))).bind fun b102 =>
   (bif b102 then (some true) else ((z2t k L).bind fun r106=>(z5y k W.f_L).bind fun r113=>(z3e k r106 r113).bind fun r120=>some (!r120))).bind fun b125 =>
   bif b125 then kE1 false else X)=X:=by
 have hl6:=h.ok.len
 obtain ⟨r,e1,e2⟩:=znv h hk
 have e3:z2e L=some L.tuples:=by
  unfold z2e
  rw [zko (by omega) (show L.tuples.length<2^40 by omega),Option.bind_some]
 have e4:z2t k L=some (boundS L.tuples):=by
  unfold z2t
  rw [ztt (by omega) hk,Option.bind_some]
 have e5:z5y k W.f_L=some (boundS L.tuples):=by
  rw [h.l]
  exact zsa (fun t ht=>(h.ok.okt t ht).2.1) (by omega) hk
 have hne:(r != r)=false:=by simp
 rw [e1,Option.bind_some,e2,Option.bind_some,hne,cond_false,e3,Option.bind_some,h.l,tup_ok (by omega) (by omega),Option.bind_some,Option.bind_some,Bool.not_true,cond_false,e4,Option.bind_some,show z5y k L.tuples=_ from h.l▸e5,Option.bind_some,tup_ok (by have:=zri L.tuples;omega) (by omega),Option.bind_some,Option.bind_some,Bool.not_true,cond_false]
def OkA (a:Ask):Prop:=OkT a.T∧a.N<9223372036854775808
theorem ztw {xs:List Ask} (hx:∀ a∈xs,OkA a) (kE0:Li→Rf→Option Bool) (kE1:Bool→Option Bool):∀ m i k:Nat,∀ (L:Li) (W:Rf),i+m=min xs.length 100→m+5000≤k→Rl L W →
  ∃ L' W',z4g k kE0 kE1 xs (i:Int) L W=kE0 L' W'∧Rl L' W':=by
 intro m
 induction m with
 | zero =>
  intro i k L W hi hk h
  obtain ⟨k,rfl⟩:∃ j,k=j+1:=⟨k-1,by omega⟩
  rw [z4g]
  refine ⟨L,W,?_,h⟩
  by_cases hl:i<xs.length
  ·rw [decide_eq_true (by omega),cond_true,decide_eq_false (by omega),Option.bind_some,cond_false]
  ·rw [decide_eq_false (by omega),cond_false,Option.bind_some,cond_false]
 | succ m ih =>
  intro i k L W hi hk h
  obtain ⟨k,rfl⟩:∃ j,k=j+1:=⟨k-1,by omega⟩
  have hil:i<xs.length:=by omega
  have hix:ix xs (i:Int)=some xs[i]:=ix_at (List.getElem?_eq_getElem hil)
  obtain ⟨hT,hN⟩:=hx _ (List.getElem_mem hil)
  have hw:IntKind.wrap .i64 ((i:Int)+1)=((i+1:Nat):Int):=wrap_i64 (by omega) (by omega)
  rw [z4g,decide_eq_true (by omega),cond_true,decide_eq_true (by omega),Option.bind_some,cond_true,hix,Option.bind_some,hw]
  generalize xs[i]=a at *
  by_cases c3:a.Kind=3
  ·rw [beq_iff_eq.2 c3,cond_true]
   have er:z5m L a.T.Rate=some ⟨L.cap,a.T.Rate,true,L.tuples,L.ends⟩:=rfl
   have eb:IntKind.wrap .i64 (if 1099511627776<IntKind.wrap .u64 (Int.tdiv a.T.Rate 8) then 1099511627776 else IntKind.wrap .u64 (Int.tdiv a.T.Rate 8))=rb a.T.Rate:=by
    have:=rb_ok hT.2.1 hT.2.2
    unfold z6u at this
    exact Option.some.inj this
   have h':Rl ⟨L.cap,a.T.Rate,true,L.tuples,L.ends⟩ ⟨W.Cap,rb a.T.Rate,W.f_L,W.Until⟩:=⟨⟨h.ok.so,h.ok.okt,h.ok.tok,h.ok.keys,h.ok.len⟩,h.cap,.inr ⟨rfl,rfl⟩,hT.2,h.l,h.ul,h.ends⟩
   rw [er,Option.bind_some,eb]
   obtain ⟨L',W',e,q⟩:=ih (i+1) k _ _ (by omega) (by omega) h'
   exact ⟨L',W',Eq.trans (zd5 h' (by omega) kE1 _) e,q⟩
  ·rw [beq_eq_false_iff_ne.2 c3,cond_false]
   by_cases c4:a.Kind=4
   ·rw [beq_iff_eq.2 c4,cond_true]
    obtain ⟨r,L2,W2,e1,e2,h'⟩:=znh (now:=a.N) h (k:=k) (by omega)
    have hne:(r != r)=false:=by simp
    rw [e1,Option.bind_some,e2,Option.bind_some]
    simp only
    rw [hne,cond_false]
    obtain ⟨L',W',e,q⟩:=ih (i+1) k _ _ (by omega) (by omega) h'
    exact ⟨L',W',Eq.trans (zd5 h' (by omega) kE1 _) e,q⟩
   ·rw [beq_eq_false_iff_ne.2 c4,cond_false]
    by_cases c5:a.Kind=5
    ·rw [beq_iff_eq.2 c5,cond_true]
     obtain ⟨r,L2,W2,e1,e2,h'⟩:=znh (now:=a.N) h (k:=k) (by omega)
     have hne:(r != r)=false:=by simp
     rw [e1,Option.bind_some,e2,Option.bind_some]
     simp only
     rw [hne,cond_false]
     obtain ⟨L',W',e,q⟩:=ih (i+1) k _ _ (by omega) (by omega) h'
     exact ⟨L',W',Eq.trans (zd5 h' (by omega) kE1 _) e,q⟩
    ·rw [beq_eq_false_iff_ne.2 c5,cond_false]
     obtain ⟨r,L2,W2,e1,e2,h'⟩:=zuf (t:=a.T) (now:=a.N) h hT hN (k:=k) (by omega)
     rw [e1,Option.bind_some,e2,Option.bind_some]
     simp only
     rw [beq_self_eq_true,Bool.not_true,cond_false]
     obtain ⟨L',W',e,q⟩:=ih (i+1) k _ _ (by omega) (by omega) h'
     exact ⟨L',W',Eq.trans (zd5 h' (by omega) kE1 _) e,q⟩
theorem zn6 {c:Int} {xs:List Ask} (hx:∀ a∈xs,OkA a) {k:Nat} (hk:6000≤k):z6s k c xs=some true:=by
 unfold z6s
 have en:zcu c=some ⟨(if (if 1099511627776<c then 1099511627776 else c)>1 then (if 1099511627776<c then 1099511627776 else c) else 1),-1,[],[]⟩:=by
  unfold zcu
  congr 2
  split<;>(try split)<;>(try split)<;>omega
 rw [new_ok,Option.bind_some,en,Option.bind_some]
 generalize hK:(fun (yg40:Li) (yg48:Rf)=>_)=K
 obtain ⟨L',W',e,q⟩:=ztw hx K (fun r400_4=>some r400_4) (min xs.length 100) 0 k _ _ (by omega) (by omega) (⟨ok_new,rfl,.inl ⟨rfl,rfl⟩,⟨Int.le_refl 0,(by decide:(0:Int)<18446744073709551616)⟩,rfl,rfl,.refl _⟩:Rl ⟨(if (if 1099511627776<c then 1099511627776 else c)>1 then (if 1099511627776<c then 1099511627776 else c) else 1),0,false,[],⟨[]⟩⟩ ⟨_,-1,[],[]⟩)
 refine Eq.trans e ?_
 rw [← hK]
 obtain ⟨r,e1,e2⟩:=znv q (k:=k) (by omega)
 simp only [e1,e2,cond_true,Option.bind_some,beq_self_eq_true]
theorem zu2 (j:Nat):z7y (j+300)=some true:=by kernel_rfl
theorem zp8 {k:Nat} (hk:300≤k):z7y k=some true:=by
 obtain ⟨j,rfl⟩:∃ j,k=j+300:=⟨k-300,by omega⟩
 exact zu2 j
theorem zu0 (n:Int):IntKind.wrap .i64 n<9223372036854775808:=by
 simp only [IntKind.wrap,IntKind.signed,IntKind.bits]
 simp
 omega
theorem zur {β:Type} (kE:Int→List Ask→List Ask→Option β) (c:Int) {xs:List Ask} (hx:xs.length*40≤140737488355328):∀ m i k:Nat,∀ (ys:List Ask) (now:Int),i+m=xs.length→m<k→ys.length=i→(∀ a∈ys,OkA a) →
  ∃ zs,z4a k kE c xs ys now (xs.length:Int) (i:Int)=kE c xs zs∧∀ a∈zs,OkA a:=by
 intro m
 induction m with
 | zero =>
  intro i k ys now hi hk hl hy
  obtain ⟨k,rfl⟩:∃ j,k=j+1:=⟨k-1,by omega⟩
  rw [z4a,decide_eq_false (by omega),cond_false]
  exact ⟨ys,rfl,hy⟩
 | succ m ih =>
  intro i k ys now hi hk hl hy
  obtain ⟨k,rfl⟩:∃ j,k=j+1:=⟨k-1,by omega⟩
  have hix:ix xs (i:Int)=some (xs[i]'(by omega)):=ix_at (List.getElem?_eq_getElem (by omega))
  have hap:∀ a:Ask,ap 40 ys [a]=some (ys++[a]):=fun a=>by
   unfold ap
   rw [if_pos ⟨by simp;omega,by simp;omega⟩]
  obtain ⟨r,hr,_⟩:=zs2 (x:=(xs[i]'(by omega)).Kind) (hi:=5) (by omega) (by omega)
  rw [z4a,decide_eq_true (by omega),cond_true,hix,Option.bind_some,hr,Option.bind_some,hap,Option.bind_some,show IntKind.wrap .i64 ((i:Int)+1)=((i+1:Nat):Int) from wrap_i64 (by omega) (by omega)]
  refine ih (i+1) k _ _ (by omega) (by omega) (by simp [hl]) fun a ha=>?_
  rcases List.mem_append.1 ha with h | h
  ·exact hy a h
  ·rw [List.mem_singleton.1 h]
   have a1:∀ n:Int,intBits .and .u32 n 15=n % 2^4:=fun n=>zhe (k:=.u32) (n:=4) (m:=15) _ rfl (by decide)
   have a2:∀ n:Int,intBits .and .u64 n 1048575=n % 2^20:=fun n=>zhe (k:=.u64) (n:=20) (m:=1048575) _ rfl (by decide)
   refine ⟨⟨⟨?_,?_⟩,?_,?_⟩,zu0 _⟩
   ·simp only [a1];omega
   ·simp only [a1];omega
   ·simp only [a2];omega
   ·simp only [a2];omega
theorem all_l1 {c:Int} {xs zs:List Ask} (hx:xs.length<2^60) (hz:∀ a∈zs,OkA a) (kE0:Int→List Ask→List Ask→Option Bool) (kE1:Bool→Option Bool):∀ m i k:Nat,i+m=xs.length→m+7000≤k →
  z2o k kE0 kE1 c xs zs (xs.length:Int) (i:Int)=kE0 c xs zs∨z2o k kE0 kE1 c xs zs (xs.length:Int) (i:Int)=kE1 true:=by
 intro m
 induction m with
 | zero =>
  intro i k hi hk
  obtain ⟨k,rfl⟩:∃ j,k=j+1:=⟨k-1,by omega⟩
  rw [z2o,decide_eq_false (by omega),cond_false]
  exact .inl rfl
 | succ m ih =>
  intro i k hi hk
  obtain ⟨k,rfl⟩:∃ j,k=j+1:=⟨k-1,by omega⟩
  have hix:ix xs (i:Int)=some (xs[i]'(by omega)):=ix_at (List.getElem?_eq_getElem (by omega))
  rw [z2o,decide_eq_true (by omega),cond_true,hix,Option.bind_some,Option.bind_some,show IntKind.wrap .i64 ((i:Int)+1)=((i+1:Nat):Int) from wrap_i64 (by omega) (by omega),zn6 hz (by omega),Option.bind_some,zp8 (by omega)]
  have key:∀ b:Bool,((some b).bind fun b87=>bif b87 then ((bif true then (some true).bind fun r97=>some r97 else some false).bind fun b102=>kE1 b102) else z2o k kE0 kE1 c xs zs (xs.length:Int) ((i+1:Nat):Int))=kE0 c xs zs∨((some b).bind fun b87=>bif b87 then ((bif true then (some true).bind fun r97=>some r97 else some false).bind fun b102=>kE1 b102) else z2o k kE0 kE1 c xs zs (xs.length:Int) ((i+1:Nat):Int))=kE1 true:=fun b=>by
   cases b
   ·exact ih (i+1) k (by omega) (by omega)
   ·exact .inr rfl
  by_cases h:(xs[i]'(by omega)).N>4611686018427387904
  ·rw [decide_eq_true h,cond_true]
   exact key true
  ·rw [decide_eq_false h,cond_false]
   exact key _
theorem limitPlays_p {c:Int} {xs:List Ask} (hx:xs.length*40≤140737488355328) (hok:∀ a∈xs,OkA a):z96 (xs.length+8000) c xs=some true:=by
 unfold z96
 generalize hK:(fun (r57_0:Int) (r57_1 r57_5:List Ask)=>_)=K
 obtain ⟨zs,e,hz⟩:=zur K c hx xs.length 0 (xs.length+8000) [] 0 (by omega) (by omega) rfl (fun a ha=>by cases ha)
 refine Eq.trans e ?_
 rw [← hK]
 simp only
 rcases all_l1 (c:=c) (xs:=xs) (by omega) hz (fun r114_0 r114_1 r114_5=>(z6s (xs.length+8000) r114_0 r114_5).bind fun r121=>(bif r121 then ((z6s (xs.length+8000) r114_0 r114_1).bind fun r126=>some r126) else (some false)).bind fun b131=>(bif b131 then ((z7y (xs.length+8000)).bind fun r135=>some r135) else (some false)).bind fun b140=>some (b140)) (fun r144_4=>some (r144_4)) xs.length 0 (xs.length+8000) (by omega) (by omega) with h | h
 ·refine Eq.trans h ?_
  rw [zn6 hz (by omega),zn6 hok (by omega),zp8 (by omega)];rfl
 ·exact h
end Lim
def tTup:DT:=.strct (.pair (.int .u32) (.pair (.int .u64) (.pair (.int .i64) .unit)))
def tAskL:DT:=.strct (.pair (.int .i64) (.pair tTup (.pair (.int .i64) .unit)))
def ofAskL (x:tAskL.D):z27:=⟨x.1,⟨x.2.1.1,x.2.1.2.1,x.2.1.2.2.1⟩,x.2.2.1⟩
theorem ztn (x:tAskL.D):z2m.R (ofAskL x) (tAskL.cells x):=by
 obtain ⟨a,⟨b,c,d,u⟩,e,u'⟩:=x
 exact z2m.mk
theorem limitPlays_ev (c:Int) (a0:(DT.slice 40 tAskL).D) (_:(DT.int .i64).ok c) (w0:(DT.slice 40 tAskL).ok a0):ev G X0 10 [] [(DT.int .i64).val c,(DT.slice 40 tAskL).val a0] []=some ([.v (bV true)],[]):=by
 have h1:((Option.getD a0 []).map ofAskL).length*40≤140737488355328∧∀ a∈(Option.getD a0 []).map ofAskL,Lim.OkA a:=by
  cases a0 with
  | none=>exact ⟨by simp,fun a ha=>(by cases ha)⟩
  | some l =>
   obtain ⟨q1,q2⟩:=w0
   have hr:reachBytes≤140737488355328:=by decide
   refine ⟨by rw [List.length_map];show l.length*40≤_;omega,fun a ha=>?_⟩
   obtain ⟨x,hx,rfl⟩:=List.mem_map.1 ha
   obtain ⟨_,⟨h1,h2,h3,_⟩,h4,_⟩:=q2 x hx
   exact ⟨⟨wf_u32 h1,wf_u64 h2⟩,(wf_i64 h4).2⟩
 obtain ⟨_,h3,rfl⟩:=zj2 (((Option.getD a0 []).map ofAskL).length+8000) (h:=[]) (σ:=[]) c ((Option.getD a0 []).map ofAskL) ((zuh (b:=40) (t:=tAskL) (d:=z2m) ofAskL ztn rfl a0).h []) _ (Lim.limitPlays_p h1.1 h1.2)
 exact h3
end Go.Ev
