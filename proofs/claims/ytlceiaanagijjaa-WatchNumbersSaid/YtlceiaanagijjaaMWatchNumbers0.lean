/- A part of the proof that follows: the watch keeps to the document in forty scripts and at bounds -/
import Derived.Calls
import Derived.Below
import Derived.Laws.World
import Derived.Orders
import Derived.Laws.Sem
import Derived.Laws.Cells
import Derived.Laws.Entries
import Derived.Laws.Slices
import Derived.Laws.StructEq
import Derived.ChangeKeysEq
import Derived.Lib.ConvBytes
import Derived.Laws.BytesArg
import Derived.LoopN
namespace Go.Ev
set_option linter.unusedVariables false

abbrev Stamp:=List Nat
structure Loc where
 lvl:Nat
 slot:Nat
 comp:Nat
 s:Stamp
 hops:List (Nat×Stamp)
 deriving DecidableEq,Inhabited
def Loc.last (l:Loc):Stamp:=(l.hops.getLast?.map (·.2)).getD l.s
def Loc.hop (l:Loc) (o:Nat) (s:Stamp):Loc:={ l with hops:=l.hops++[(o,s)] }

inductive V where
 | p (v:Value)
 | agg (cs:List V)
 | ref (l:Loc) (off:Nat)
 | sl (l:Loc) (off len av esz:Nat)
 | fz (cs:List V) (len esz:Nat) (tight:Bool)
 | fzp (cs:List V)
 | clo (f:FuncId) (caps:List V)
 | tup (vs:List V)
 | it (slot:Loc)
instance:Inhabited V:=⟨.tup []⟩
def udf:V:=.tup []

inductive C where
 | v (x:V)
 | own (s:Stamp) (cs:List C)
 | arr (s:Stamp) (len esz:Nat) (cs:List C)
 | it (s:Stamp) (str:ByteArray) (pos:Nat)
 | dead
instance:Inhabited C:=⟨.dead⟩

abbrev Layer:=List (List C)
abbrev H:=List Layer
abbrev Env:=Nat→V
def upd (e:Env) (d:Nat) (v:V):Env:=fun i=>if i=d then v else e i
def put (e:Env) (d:Option Nat) (v:V):Env:=match d with | some d=>upd e d v | none=>e

def C.node:C→Stamp→Option (List C)
 | .own s cs,s'=>if s=s' then some cs else none
 | .arr s _ _ cs,s'=>if s=s' then some cs else none
 | _,_=>none
def C.withNode:C→List C→C
 | .own s _,cs=>.own s cs
 | .arr s n e _,cs=>.arr s n e cs
 | c,_=>c
def find:C→Stamp→List (Nat×Stamp)→Option C
 | c,s,[]=>if (c.node s).isSome then some c else none
 | c,s,(o,s')::r=>(c.node s).bind fun cs=>(cs[o]?).bind fun c'=>find c' s' r
def repl:C→Stamp→List (Nat×Stamp)→C→C
 | _,_,[],new=>new
 | c,s,(o,s')::r,new =>
  match c.node s with
  | some cs=>(match cs[o]? with | some c'=>c.withNode (cs.set o (repl c' s' r new)) | none=>c)
  | none=>c
def rootC:H→Loc→Option C
 | [],_=>none
 | L::h,l=>if l.lvl=h.length then (L[l.slot]?).bind (·[l.comp]?) else rootC h l
def z9:H→Loc→C→H
 | [],_,_=>[]
 | L::h,l,c=>if l.lvl=h.length then (L.set l.slot (((L[l.slot]?).getD []).set l.comp c))::h else L::z9 h l c
def at_ (h:H) (l:Loc):Option C:=(rootC h l).bind fun c=>find c l.s l.hops
def nd (h:H) (l:Loc):Option (List C):=(at_ h l).bind fun c=>c.node l.last
def setAt (h:H) (l:Loc) (new:C):H :=
 match rootC h l with
 | some c=>z9 h l (repl c l.s l.hops new)
 | none=>h
def setNd (h:H) (l:Loc) (cs:List C):H :=
 match at_ h l with
 | some c=>setAt h l (c.withNode cs)
 | none=>h
def zf (h:H) (d:Nat) (cs:List C):H:=match h with | []=>[] | L::h=>L.set d cs::h
def top (h:H):Nat:=h.length-1

def leafV:V→Bool
 | .agg _ | .tup _ | .p (.agg _) | .p (.tuple _) | .it _=>false
 | _=>true
def known (P:Program) (t:TypeId):Bool:=(P.info? t).isSome&&(P.underlying t).isSome
def tsize (P:Program) (t:TypeId):Nat:=((P.info? t).map (·.size)).getD 0
def tbytes (P:Program) (t:TypeId):Nat:=((P.info? t).map (·.bytes)).getD 0
def tagg (P:Program) (t:TypeId):Bool:=match P.underlying t with | some (.struct _) | some (.array _ _)=>true | _=>false
def leafB:Value→Bool | .agg _ | .tuple _=>false | _=>true
def tzero (P:Program) (t:TypeId):Option (List V):=(P.info? t).bind fun i=>i.zero.bind fun z=>if z.cells.toList.all leafB then some (z.cells.toList.map .p) else none
def telem (P:Program) (t:TypeId):Option TypeId:=match P.underlying t with | some (.slice e)=>if known P e then some e else none | _=>none
def tarr (P:Program) (t:TypeId):Option (Nat×TypeId):=match P.underlying t with | some (.array n e)=>if known P e then some (n,e) else none | _=>none
def tfield (P:Program) (t:TypeId) (f:Nat):Option (Nat×TypeId) :=
 match P.underlying t with | some (.struct fs)=>(fs[f]?).bind fun g=>if known P g.type then some (g.offset,g.type) else none | _=>none

def asB:V→Option Bool | .p (.bool b)=>some b | _=>none
def asI:V→Option Int | .p (.int _ n)=>some n | _=>none
def V.cells:V→List V | .agg cs=>cs | .p (.agg a)=>a.toList.map .p | v=>[v]
def mkV (agg:Bool) (cs:List V):Option V:=if agg then some (.agg cs) else match cs with | [x]=>some x | _=>none
def toV (l:Loc) (o:Nat):C→Option V
 | .v x=>some x
 | .own s _=>some (.ref (l.hop o s) 0)
 | .arr s n e _=>some (.sl (l.hop o s) 0 n n e)
 | _=>none
def toVs (l:Loc):Nat→List C→Option (List V)
 | _,[]=>some []
 | o,c::cs=>(toV l o c).bind fun x=>(toVs l (o+1) cs).bind fun xs=>some (x::xs)
def rng {α:Type} (xs:List α) (o n:Nat):Option (List α):=if o+n≤xs.length then some ((xs.drop o).take n) else none

def cellsOf (h:H):V→Option (List V)
 | .p (.slice none 0 0)=>some []
 | .p (.string s)=>some (s.data.toList.map fun b=>.p (.int .u8 b.toNat))
 | .sl l off len _ esz=>(nd h l).bind fun cs=>(rng cs off (len*esz)).bind fun cs=>toVs l off cs
 | .fz cs _ _ _=>some cs
 | _=>none
def lenOf:V→Option Nat
 | .p (.slice none 0 0)=>some 0
 | .p (.string s)=>some s.size
 | .sl _ _ n _ _=>some n
 | .fz _ n _ _=>some n
 | _=>none

def intBits (op:BinOp) (k:IntKind) (x y:Int):Int :=
 let a:=BitVec.ofInt k.bits x
 let b:=BitVec.ofInt k.bits y
 k.wrap (match op with
  | .and=>a &&& b
  | .or=>a ||| b
  | .xor=>a ^^^ b
  | _=>a &&& ~~~b).toNat
def intBin (op:BinOp) (k:IntKind) (a b:Int):Option V :=
 match op with
 | .add=>some (.p (.int k (k.wrap (a+b))))
 | .sub=>some (.p (.int k (k.wrap (a-b))))
 | .mul=>some (.p (.int k (k.wrap (a*b))))
 | .quo=>if b=0 then none else some (.p (.int k (k.wrap (a.tdiv b))))
 | .rem=>if b=0 then none else some (.p (.int k (a.tmod b)))
 | .and | .or | .xor | .andNot=>some (.p (.int k (intBits op k a b)))
 | .eql=>some (.p (.bool (a==b)))
 | .neq=>some (.p (.bool (a != b)))
 | .lss=>some (.p (.bool (decide (a<b))))
 | .leq=>some (.p (.bool (decide (a≤b))))
 | .gtr=>some (.p (.bool (decide (a>b))))
 | .geq=>some (.p (.bool (decide (a≥b))))
 | _=>none
def shiftV (op:BinOp) (k:IntKind) (a b:Int):Option V :=
 if b<0 then none else
 match op with
 | .shl=>some (.p (.int k (k.wrap (a*2^min b.toNat k.bits))))
 | .shr=>some (.p (.int k (a.fdiv (2^min b.toNat k.bits))))
 | _=>none
def strBin (op:BinOp) (a b:ByteArray):Option V :=
 match op with
 | .add=>if ((a.size+b.size:Nat):Int)>IntKind.i64.max then none else some (.p (.string (a++b)))
 | .eql=>some (.p (.bool (a.toList==b.toList)))
 | .neq=>some (.p (.bool !(a.toList==b.toList)))
 | _=>none
def flatEq (P:Program) (t:TypeId) (x y:V):Option Bool :=
 match P.underlying t,x,y with
 | some .bool,.p (.bool a),.p (.bool b)=>some (a==b)
 | some (.int _),.p (.int k a),.p (.int k' b)=>if k=k' then some (a==b) else none
 | some .string,.p (.string a),.p (.string b)=>some (a.toList==b.toList)
 | _,_,_=>none
def z2z (P:Program):Nat→List Field→List V→List V→Option Bool
 | _,[],[],[]=>some true
 | i, f :: fs, x :: xs, y :: ys => if (f.offset == i && f.name != "_") = true then (flatEq P f.type x y).bind fun b => if b = true then z2z P (i + 1) fs xs ys else some false else none
 | _,_,_,_=>none
def flatAs (P:Program) (e:TypeId):Nat→List V→List V→Option Bool
 | 0,[],[]=>some true
 | n+1,x::xs,y::ys=>(flatEq P e x y).bind fun b=>if b=true then flatAs P e n xs ys else some false
 | _,_,_=>none
def flatE (P:Program) (t:TypeId) (xs ys:List V):Option Bool :=
 match P.underlying t with
 | some (.struct fs)=>if (!P.stoodInHeld t&&!P.eqGuardType P.depth t)=true then z2z P 0 fs.toList xs ys else none
 | some (.array n e)=>if ((P.cellsOf e==1&&(P.info? e).isSome)&&!P.eqGuardType P.depth t)=true then flatAs P e n xs ys else none
 | _=>none
def eqlV (P:Program) (h:H) (t:TypeId) (x y:V):Option Bool :=
 match P.underlying t,x,y with
 | some .bool,.p (.bool a),.p (.bool b)=>some (a==b)
 | some (.pointer _),.p (.pointer none),.p (.pointer none)=>some true
 | some (.pointer _),.p (.pointer none),.ref _ _=>some false
 | some (.pointer _),.ref _ _,.p (.pointer none)=>some false
 | some (.pointer e),.ref l o,.ref l' o' =>
  if !known P e||tsize P e==0 then none else if (nd h l).isSome&&(nd h l').isSome then some (decide (l.last=l'.last∧o=o')) else none
 | some (.slice _),.p (.slice none 0 0),.p (.slice none 0 0)=>some true
 | some (.slice _),.p (.slice none 0 0),.sl ..=>some false
 | some (.slice _),.p (.slice none 0 0),.fz ..=>some false
 | some (.slice _),.sl ..,.p (.slice none 0 0)=>some false
 | some (.slice _),.fz ..,.p (.slice none 0 0)=>some false
 | some (.struct _),.agg xs,.agg ys=>flatE P t xs ys
 | some (.array _ _),.agg xs,.agg ys=>flatE P t xs ys
 | _,_,_=>none
def binV (P:Program) (h:H) (op:BinOp) (t:TypeId) (x y:V):Option V :=
 match x,y with
 | .p (.int k a),.p (.int k' b) =>
  (match op with
  | .shl | .shr=>shiftV op k a b
  | _=>if k=k' then intBin op k a b else none)
 | .p (.string a),.p (.string b)=>strBin op a b
 | x,y =>
  match op with
  | .eql=>(eqlV P h t x y).map fun b=>.p (.bool b)
  | .neq=>(eqlV P h t x y).map fun b=>.p (.bool !b)
  | _=>none
def unV (op:UnOp) (x:V):Option V :=
 match op,x with
 | .neg,.p (.int k n)=>some (.p (.int k (k.wrap (0-n))))
 | .xor,.p (.int k n)=>some (.p (.int k (intBits .xor k (if k.signed then -1 else k.max) n)))
 | .not,.p (.bool b)=>some (.p (.bool !b))
 | _,_=>none
def z23:List V→Option (List UInt8)
 | []=>some []
 | .p (.int .u8 n)::xs=>(z23 xs).map fun bs=>UInt8.ofNat n.toNat::bs
 | _=>none
def isSl:V→Bool
 | .p (.slice none 0 0)=>true
 | .sl ..=>true
 | .fz ..=>true
 | _=>false
def isU8:Option TypeDesc→Bool | some (.int .u8)=>true | _=>false
def toStrV (P:Program) (h:H) (e:TypeId) (x:V):Option V :=
 if isSl x=true∧isU8 (P.underlying e)=true then
  (cellsOf h x).bind fun cs=>(lenOf x).bind fun n=>if cs.length=n then (z23 cs).map fun bs=>.p (.string ⟨bs.toArray⟩) else none
 else none
def ofStrV (P:Program) (e:TypeId) (s:ByteArray):Option V :=
 if isU8 (P.underlying e)=true then some (.fz (s.data.toList.map fun b=>.p (.int .u8 b.toNat)) s.size 1 false) else none
def litS (ok:Bool) (x:V):Option V:=match x with | .fz (c::cs) len esz true=>(match ok with | true=>some (.fz (c::cs) len esz true) | false=>none) | _=>none
def convV (P:Program) (h:H) (src dst:TypeId) (x:V):Option V :=
 match P.underlying src,P.underlying dst,x with
 | some _,some (.int k),.p (.int _ n)=>some (.p (.int k (k.wrap n)))
 | some _,some .string,.p (.string s)=>some (.p (.string s))
 | some (.slice e),some .string,x=>toStrV P h e x
 | some .string,some (.slice e),.p (.string s)=>ofStrV P e s
 | some (.slice _),some (.slice e),x=>litS (src==dst&&isU8 (P.underlying e)) x
 | _,_,_=>none
def fillV (places:Nat→Option (Nat×Nat)) (cells:List V):List (Nat×V)→Option (List V)
 | []=>some cells
 | (i,v)::rest =>
  match places i with
  | none=>none
  | some (off,size) =>
   if v.cells.length≠size∨off+v.cells.length>cells.length then none
   else fillV places (cells.take off++v.cells++cells.drop (off+v.cells.length)) rest
def buildV (P:Program) (t:TypeId) (parts:List (Nat×V)):Option V :=
 (tzero P t).bind fun zero =>
 match P.underlying t with
 | some (.struct fs)=>if fs.toList.all (fun f=>known P f.type) then (fillV (fun i=>(fs[i]?).map fun f=>(f.offset,tsize P f.type)) zero parts).map .agg else none
 | some (.array _ e)=>if known P e then (fillV (fun i=>some (i*tsize P e,tsize P e)) zero parts).map .agg else none
 | _=>none
def rept {α:Type}:Nat→List α→List α
 | 0,_=>[]
 | n+1,xs=>xs++rept n xs
def bSV (P:Program) (t:TypeId) (len:Nat) (parts:List (Nat×V)):Option V :=
 (telem P t).bind fun e=>(tzero P e).bind fun zero =>
 if zero.length≠tsize P e∨tsize P e=0∨len*tsize P e>2^24 then none else
 (fillV (fun i=>some (i*tsize P e,tsize P e)) (rept len zero) parts).map fun cs=>.fz cs len (tsize P e) true
def fldA (P:Program) (t:TypeId) (x:V) (f:Nat):Option V :=
 (tfield P t f).bind fun q=>if tsize P q.2=0 then none else
 match x with
 | .ref l off=>some (.ref l (off+q.1))
 | .fzp cs=>if q.1≤cs.length then some (.fzp (cs.drop q.1)) else none
 | _=>none
def fldV (P:Program) (t:TypeId) (x:V) (f:Nat):Option V :=
 (tfield P t f).bind fun q =>
 match x with
 | .agg cs=>(rng cs q.1 (if tagg P q.2 then tsize P q.2 else 1)).bind (mkV (tagg P q.2))
 | _=>none
def idxA (P:Program) (t:TypeId) (x i:V):Option V :=
 (asI i).bind fun i =>
 match x with
 | .sl l off len _ esz=>(telem P t).bind fun e=>if esz=tsize P e∧0≤i∧i<len then some (.ref l (off+i.toNat*esz)) else none
 | .fz cs len esz _=>(telem P t).bind fun e=>if esz=tsize P e∧0≤i∧i<len then some (.fzp (cs.drop (i.toNat*esz))) else none
 | .ref l off=>(tarr P t).bind fun q=>if 0≤i∧i<q.1 then some (.ref l (off+i.toNat*tsize P q.2)) else none
 | _=>none
def idxV (P:Program) (t:TypeId) (x i:V):Option V :=
 (asI i).bind fun i =>
 match x with
 | .p (.string s)=>if P.underlying t matches some .string then (if 0≤i then (s[i.toNat]?).map fun b=>.p (.int .u8 b.toNat) else none) else none
 | .agg cs=>(tarr P t).bind fun q=>if 0≤i∧i<q.1 then (rng cs (i.toNat*tsize P q.2) (if tagg P q.2 then tsize P q.2 else 1)).bind (mkV (tagg P q.2)) else none
 | _=>none
def bnd (x:Option V) (dflt:Nat) (lim:Nat):Option Nat :=
 match x with
 | none=>some dflt
 | some x=>(asI x).bind fun i=>if 0≤i∧i≤lim then some i.toNat else none
def slcV (P:Program) (h:H) (t:TypeId) (x:V) (lo hi mx:Option V):Option V :=
 if mx.isSome&&hi.isNone then none else
 match x with
 | .p (.string s) =>
  if mx.isSome then none else
  if P.underlying t matches some .string then
   (bnd hi s.size s.size).bind fun b=>(bnd lo 0 b).bind fun a=>some (.p (.string (s.extract a b)))
  else none
 | .p (.slice none 0 0) =>
  (telem P t).bind fun _=>(bnd mx 0 0).bind fun _=>(bnd hi 0 0).bind fun _=>(bnd lo 0 0).bind fun _=>some (.p (.slice none 0 0))
 | .sl l off len av esz =>
  (telem P t).bind fun e=>if esz≠tsize P e then none else
  (bnd mx av av).bind fun m=>(bnd hi len m).bind fun b=>(bnd lo 0 b).bind fun a =>
  if mx.isSome∧m=a then some (.fz [] 0 esz true) else some (.sl l (off+a*esz) (b-a) (m-a) esz)
 | .fz cs len esz tight =>
  (telem P t).bind fun e=>if esz≠tsize P e then none else
  (bnd mx len len).bind fun m=>(bnd hi len m).bind fun b=>(bnd lo 0 b).bind fun a =>
  some (.fz ((cs.drop (a*esz)).take ((b-a)*esz)) (b-a) esz (tight&&b==m))
 | .ref l off =>
  (tarr P t).bind fun q=>(nd h l).bind fun cs=>if cs.length<off+q.1*tsize P q.2 then none else
  (bnd mx q.1 q.1).bind fun m=>(bnd hi q.1 m).bind fun b=>(bnd lo 0 b).bind fun a =>
  if m=a then some (.fz [] 0 (tsize P q.2) true) else some (.sl l (off+a*tsize P q.2) (b-a) (m-a) (tsize P q.2))
 | _=>none
def ldV (P:Program) (h:H) (t:TypeId) (a:V):Option V :=
 if !known P t then none else
 match a with
 | .ref l off=>(nd h l).bind fun cs=>(rng cs off (if tagg P t then tsize P t else 1)).bind fun cs=>(toVs l off cs).bind (mkV (tagg P t))
 | .fzp cs=>(rng cs 0 (if tagg P t then tsize P t else 1)).bind (mkV (tagg P t))
 | _=>none
def nilChk:V→Option V
 | .ref l o=>some (.ref l o)
 | .fzp cs=>some (.fzp cs)
 | .clo f cs=>some (.clo f cs)
 | _=>none
def foldI (f:Int→Int→Int):Int→List V→Option Int
 | a,[]=>some a
 | a,.p (.int _ b)::xs=>foldI f (f a b) xs
 | _,_=>none
def pickV (c a b:V):Option V:=(asB c).map fun t=>if t then a else b
def extV (t:V) (i:Nat):Option V:=match t with | .tup vs=>vs[i]? | _=>none
def lenV (P:Program) (t:TypeId) (x:V):Option V :=
 match x with
 | .p (.string s)=>if P.underlying t matches some .string then some (.p (.int .i64 (s.size:Int))) else none
 | x=>(telem P t).bind fun _=>(lenOf x).map fun (n:Nat)=>V.p (Value.int .i64 (n:Int))
def capV (P:Program) (t:TypeId) (x:V):Option V :=
 match x with
 | .p (.slice none 0 0)=>(telem P t).bind fun _=>some (V.p (Value.int .i64 0))
 | _=>none
def gdB (g:V) (want:Bool):Option Bool:=match g with | .p (.bool b)=>some (b==want) | .tup []=>some false | _=>none
def gd (g:V) (want:Bool) (x:Option V):Option V:=(gdB g want).bind fun b=>if b then x else some udf
def gdE (g:V) (want:Bool) (h:H) (x:Option (V×H)):Option (V×H):=(gdB g want).bind fun b=>if b then x else some (udf,h)
def maxV:List V→Option V
 | .p (.int k a)::rest=>(foldI (fun a b=>if b>a then b else a) a rest).map fun n=>V.p (.int k n)
 | _=>none
def minV:List V→Option V
 | .p (.int k a)::rest=>(foldI (fun a b=>if b<a then b else a) a rest).map fun n=>V.p (.int k n)
 | _=>none

def z20:List C→Option (List V)
 | []=>some []
 | .v x::cs=>(z20 cs).map (x::·)
 | _=>none
def layC (own:Bool) (h:H) (x:V):Option (C×H) :=
 match x with
 | .ref r 0 =>
  if r.hops=[]∧r.lvl=top h then
   (match rootC h r with
    | some (.own s cs)=>if s=r.s then some (.own s cs,z9 h r .dead) else none
    | _=>none)
  else some (.v x,h)
 | .sl r off len av esz =>
  if own then
   (if r.hops=[]∧r.lvl=top h then
    (match rootC h r with
     | some (.arr s n e cs)=>if s=r.s∧off=0∧n=len∧e=esz then some (.arr s n e cs,z9 h r .dead) else none
     | _=>none)
    else some (.v x,h))
  else if r.lvl=top h then
   (match at_ h r with
    | some (.arr s n e cs) =>
     if s=r.last∧e=esz∧cs.length=n*e then
      (z20 cs).bind fun xs=>(rng xs off (len*esz)).bind fun ys =>
       some (.v (.fz ys len esz false),setAt h r (if r.hops=[] then .dead else .v (.fz xs n e false)))
     else none
    | _=>none)
  else some (.v x,h)
 | .agg _=>none
 | .tup _=>none
 | .p (.agg _)=>none
 | .p (.tuple _)=>none
 | x=>some (.v x,h)
def layCs (own:Bool):H→List V→Option (List C×H)
 | h,[]=>some ([],h)
 | h,x::xs=>(layC own h x).bind fun (c,h)=>(layCs own h xs).bind fun (cs,h)=>some (c::cs,h)
def frzCs:H→List V→Option (List V×H)
 | h,[]=>some ([],h)
 | h,x::xs=>(layC false h x).bind fun (c,h)=>match c with
   | .v y=>(frzCs h xs).map fun (ys,h)=>(y::ys,h)
   | _=>none
def frzA (h:H) (x:V):Option (V×H) :=
 match x with
 | .ref l o=>some (.ref l o,h)
 | .agg cs=>(frzCs h cs).map fun q=>(.agg q.1,q.2)
 | .fz cs n e t=>(frzCs h cs).map fun q=>(.fz q.1 n e t,q.2)
 | x=>(layC false h x).bind fun q=>match q.1 with | .v y=>some (y,q.2) | _=>none
def frzAs:H→List V→Option (List V×H)
 | h,[]=>some ([],h)
 | h,x::xs=>(frzA h x).bind fun q=>(frzAs q.2 xs).map fun r=>(q.1::r.1,r.2)
def frzIf (b:Bool) (h:H) (xs:List V):Option (List V×H):=match b with | true=>frzAs h xs | false=>some (xs,h)
structure Cfg where
 P:Program
 own:TypeId→Bool
 frz:FuncId→Bool
 frzIn:FuncId→Bool
 frzMk:TypeId→Bool
def owns (G:Cfg) (t:TypeId):Bool :=
 match G.P.underlying t with
 | some (.struct _) | some (.array _ _)=>G.own t
 | _=>true
def ownsE (G:Cfg) (t:TypeId):Bool :=
 match G.P.underlying t with
 | some (.struct _) | some (.array _ _)=>G.own t
 | some (.slice _)=>false
 | _=>true
def z3e (l:Loc) (off:Nat):Option C→V→Bool
 | some (.arr s _ _ _),.sl r _ _ _ _=>decide (r=l.hop off s)
 | _,_=>false
def cutArr (σ:Stamp):Option C→V→Option C
 | some (.arr s _ e ds),.sl _ o len _ esz=>if e=esz then (rng ds o (len*esz)).map fun ds=>C.arr (if o=0 then s else σ) len esz ds else none
 | _,_=>none
def stV (G:Cfg) (σ:Stamp) (h:H) (t:TypeId) (a x:V):Option H :=
 match a with
 | .ref l off =>
  if !known G.P t||x.cells.length != tsize G.P t then none else
  (nd h l).bind fun cs =>
  match z3e l off cs[off]? x with
  | true=>(cutArr σ cs[off]? x).map fun c=>setNd h l (cs.set off c)
  | false=>(layCs (owns G t) h x.cells).bind fun q=>(nd q.2 l).bind fun cs =>
    if off+q.1.length≤cs.length then some (setNd q.2 l (cs.take off++q.1++cs.drop (off+q.1.length))) else none
 | _=>none
def newLoc (h:H) (d:Nat) (σ:Stamp):Loc:=⟨top h,d,0,σ,[]⟩
def allocV (G:Cfg) (σ:Stamp) (d:Nat) (h:H) (t:TypeId):Option (V×H) :=
 (tzero G.P t).bind fun z=>if z.length=tsize G.P t then some (.ref (newLoc h d σ) 0,zf h d [.own σ (z.map .v)]) else none
def boxV (G:Cfg) (σ:Stamp) (d:Nat) (h:H) (t:TypeId) (x:V):Option (V×H) :=
 (layCs (owns G t) h x.cells).bind fun (cs,h)=>some (.ref (newLoc h d σ) 0,zf h d [.own σ cs])
def z46 (G:Cfg) (σ:Stamp) (d:Nat) (h:H) (t:TypeId) (n c:V):Option (V×H) :=
 (telem G.P t).bind fun e=>(tzero G.P e).bind fun z=>(asI n).bind fun n=>(asI c).bind fun c =>
 if 0≤n∧n≤c∧c*tbytes G.P e≤2^47∧c<2^62∧z.length=tsize G.P e∧tsize G.P e≠0 then
  some (.sl (newLoc h d σ) 0 n.toNat c.toNat (tsize G.P e),zf h d [.arr σ n.toNat (tsize G.P e) ((rept n.toNat z).map .v)])
 else none
def z6o (G:Cfg) (σ:Stamp) (d:Nat) (h:H) (t:TypeId) (n c:V):Option (V×H) :=
 match G.frzMk t with
 | false=>z46 G σ d h t n c
 | true=>(z46 G σ d h t n c).bind fun q=>frzA q.2 q.1
def isInt (P:Program) (t:TypeId):Bool:=match P.underlying t with | some (.slice _) | some .string=>false | _=>true
def z66 (G:Cfg) (σ:Stamp) (d:Nat) (h:H) (e:TypeId) (n:Nat) (ds:List C) (x:V):Option (V×H) :=
 match x with
 | .p (.slice none 0 0) =>
  if n*tbytes G.P e≤2^47∧n<2^61 then
   some (.sl (newLoc h d σ) 0 n n (tsize G.P e),zf h d [.arr σ n (tsize G.P e) ds]) else none
 | .fz cs len esz tight =>
  if tight=true∧esz=tsize G.P e∧cs.length=len*esz∧(len+n)*tbytes G.P e≤2^47∧len+n<2^61∧cs.all leafV then
   some (.sl (newLoc h d σ) 0 (len+n) (len+n) esz,zf h d [.arr σ (len+n) esz (cs.map .v++ds)]) else none
 | .sl l off len av esz =>
  if esz≠tsize G.P e then none else
  (nd h l).bind fun cs =>
  if len+n≤av∧off+len*esz+ds.length≤cs.length then
   some (.sl l off (len+n) av esz,setNd h l (cs.take (off+len*esz)++ds++cs.drop (off+len*esz+ds.length)))
  else if off=0∧cs.length=len*esz∧(len+n)*tbytes G.P e≤2^47∧len+n<2^61 then
   some (.sl (newLoc h d σ) 0 (len+n) (len+n) esz,zf (setAt h l .dead) d [.arr σ (len+n) esz (cs++ds)])
  else none
 | _=>none
def z4l (G:Cfg) (σ:Stamp) (d:Nat) (h:H) (t t':TypeId) (x y:V):Option (V×H) :=
 if isInt G.P t' then none else
 (telem G.P t).bind fun e=>(tzero G.P e).bind fun z=>(lenOf y).bind fun n=>(cellsOf h y).bind fun ys =>
 if z.length≠tsize G.P e∨ys.length≠n*tsize G.P e∨tsize G.P e=0 then none else
 if n=0 then (if isSl x then some (x,h) else none) else
 (layCs (ownsE G e) h ys).bind fun q=>z66 G σ d q.2 e n q.1 x
def isIntT (P:Program) (t:TypeId):Bool:=match P.underlying t with | some (.int _)=>true | _=>false
def u8Sl (P:Program) (t:TypeId):Bool:=match telem P t with | some e=>(match tzero P e with | some [.p (.int .u8 0)]=>tsize P e==1&&tbytes P e==1 | _=>false) | none=>false
def zerosB (n:Nat):ByteArray:=⟨Array.replicate n 0⟩
def z7p (G:Cfg) (σ:Stamp) (d:Nat) (h:H) (t t':TypeId) (x y:V):Option (V×H) :=
 match isIntT G.P t' with
 | false=>z4l G σ d h t t' x y
 | true=>(match u8Sl G.P t with
  | true=>(asI y).bind fun n=>if 0≤n∧n<2^40∧(lenOf x).getD 0<2^60 then z4l G σ d h t t x (.p (.string (zerosB n.toNat))) else none
  | false=>none)
def overV (G:Cfg) (h:H) (x:V) (n:Nat) (ys:List V):Option H :=
 match x with
 | .sl l off len _ esz =>
  if ys.length≠n*esz∨n>len∨n=0 then none else
  (layCs true h ys).bind fun q=>(nd q.2 l).bind fun cs =>
  if off+q.1.length≤cs.length then some (setNd q.2 l (cs.take off++q.1++cs.drop (off+q.1.length))) else none
 | _=>none
def eszIs (x:V) (k:Nat):Bool:=match x with | .sl _ _ _ _ esz=>esz==k | _=>false
def copyV (G:Cfg) (h:H) (t:TypeId) (x y:V):Option (V×H) :=
 (telem G.P t).bind fun e=>(lenOf x).bind fun n=>(lenOf y).bind fun m=>(cellsOf h y).bind fun ys =>
 if ys.length≠m*tsize G.P e then none else
 if !isSl x then none else
 if min m n=0 then some (V.p (.int .i64 0),h) else
 if eszIs x (tsize G.P e) then (overV G h x (min m n) (ys.take (min m n*tsize G.P e))).map fun h=>(V.p (.int .i64 ((min m n:Nat):Int)),h) else none
def clearV (G:Cfg) (h:H) (t:TypeId) (x:V):Option (V×H) :=
 (telem G.P t).bind fun e=>(tzero G.P e).bind fun z=>(lenOf x).bind fun n =>
 if !isSl x then none else
 if n=0 then some (V.tup [],h) else
 if z.length≠tsize G.P e then none else
 if eszIs x (tsize G.P e) then (overV G h x n (rept n z)).map fun h=>(V.tup [],h) else none
end Go.Ev
namespace Go.Ev
set_option linter.unusedVariables false
open List

abbrev Nodes:=List (Stamp×List C)
def sh:C→C
 | .own s _=>.own s []
 | .arr s n e _=>.arr s n e []
 | c=>c
mutual
def nodesC:C→Nodes
 | .own s cs=>(s,cs.map sh)::z5 cs
 | .arr s _ _ cs=>(s,cs.map sh)::z5 cs
 | .v _=>[]
 | .it ..=>[]
 | .dead=>[]
def z5:List C→Nodes
 | []=>[]
 | c::cs=>nodesC c++z5 cs
end
def nodesL (L:Layer):Nodes:=L.flatMap z5
def nodesH (h:H):Nodes:=h.flatMap nodesL

theorem zr (a b:List C):z5 (a++b)=z5 a++z5 b:=by
 induction a with
 | nil=>rfl
 | cons c a ih=>simp [z5,ih]
theorem z3f (xs:List V):z5 (xs.map .v)=[]:=by
 induction xs with
 | nil=>rfl
 | cons x xs ih=>simp [z5,nodesC,ih]
theorem z83 (c:C) (cs:List C):sh (c.withNode cs)=sh c:=by cases c<;>rfl
theorem z2l {c:C} {s:Stamp} {cs:List C} (h:c.node s=some cs):nodesC c=(s,cs.map sh)::z5 cs:=by
 cases c<;>simp only [C.node] at h<;>first | (split at h<;>simp_all [nodesC];done) | simp at h
theorem z1y {c:C} {s:Stamp} {cs:List C} (h:c.node s=some cs) (cs':List C):(c.withNode cs').node s=some cs':=by
 cases c<;>simp only [C.node] at h<;>first | (split at h<;>simp_all [C.withNode,C.node];done) | simp at h
theorem z4c (c:C) (a b:List C):(c.withNode a).withNode b=c.withNode b:=by cases c<;>rfl
theorem z6p {c:C} {s:Stamp} {cs:List C} (h:c.node s=some cs):c.withNode cs=c:=by
 cases c<;>simp only [C.node] at h<;>first | (split at h<;>simp_all [C.withNode];done) | simp at h

theorem z35 {cs:List C} {o:Nat} {c:C} (h:cs[o]?=some c) :
  ∃ rest,z5 cs ~ nodesC c++rest∧∀ c',z5 (cs.set o c') ~ nodesC c'++rest:=by
 induction cs generalizing o with
 | nil=>simp at h
 | cons d cs ih =>
  cases o with
  | zero =>
   simp only [List.getElem?_cons_zero,Option.some.injEq] at h
   subst h
   exact ⟨z5 cs,by simp [z5],fun c'=>by simp [z5]⟩
  | succ o =>
   simp only [List.getElem?_cons_succ] at h
   obtain ⟨rest,h1,h2⟩:=ih h
   have sw:∀ x:Nodes,nodesC d++(x++rest) ~ x++(nodesC d++rest):=fun x=>by
    rw [← List.append_assoc,← List.append_assoc]
    exact List.perm_append_comm.append_right rest
   exact ⟨nodesC d++rest,(Perm.append_left _ h1).trans (sw _),fun c'=>by
    simp only [List.set_cons_succ,z5]
    exact (Perm.append_left _ (h2 c')).trans (sw _)⟩
theorem zcn {cs:List C} {o:Nat} {c c':C} (h:cs[o]?=some c) (hs:sh c'=sh c):(cs.set o c').map sh=cs.map sh:=by
 rw [List.map_set,hs]
 apply List.ext_getElem?
 intro i
 rw [List.getElem?_set]
 split
 ·rename_i e;subst e
  split
  ·simp [h]
  ·rename_i hlt;simp only [List.length_map,Nat.not_lt] at hlt;rw [List.getElem?_eq_none (by simpa using hlt)]
 ·rfl

theorem z2y {c:C} {s:Stamp} {o:Nat} {s':Stamp} {r:List (Nat×Stamp)} {c0:C} (h:find c s ((o,s')::r)=some c0) :
  ∃ cs c',c.node s=some cs∧cs[o]?=some c'∧find c' s' r=some c0:=by
 simp only [find] at h
 cases hn:c.node s with
 | none=>simp [hn] at h
 | some cs =>
  simp only [hn,Option.bind_some] at h
  cases ho:cs[o]? with
  | none=>simp [ho] at h
  | some c'=>exact ⟨cs,c',rfl,ho,by simpa [ho] using h⟩
theorem z21 {c:C} {s:Stamp} {o:Nat} {s':Stamp} {r:List (Nat×Stamp)} {cs:List C} {c':C} (h1:c.node s=some cs) (h2:cs[o]?=some c') (new:C) :
  repl c s ((o,s')::r) new=c.withNode (cs.set o (repl c' s' r new)):=by
 simp [repl,h1,h2]
def lastS (s:Stamp):List (Nat×Stamp)→Stamp
 | []=>s
 | (_,s')::r=>lastS s' r
theorem zd5 {hops:List (Nat×Stamp)}:∀ {c:C} {s:Stamp} {c0:C},find c s hops=some c0→(c0.node (lastS s hops)).isSome:=by
 induction hops with
 | nil=>intro c s c0 h;simp only [find] at h;split at h<;>simp_all [lastS]
 | cons x r ih =>
  intro c s c0 h
  obtain ⟨o,s'⟩:=x
  obtain ⟨cs,c',_,_,h3⟩:=z2y h
  exact ih h3
theorem zee {hops:List (Nat×Stamp)} {c:C} {s:Stamp} {c0 new:C} (h:find c s hops=some c0) (hs:sh new=sh c0):sh (repl c s hops new)=sh c:=by
 cases hops with
 | nil=>simp only [find] at h;split at h<;>simp_all [repl]
 | cons x r =>
  obtain ⟨o,s'⟩:=x
  obtain ⟨cs,c',h1,h2,h3⟩:=z2y h
  rw [z21 h1 h2,z83]
theorem zdr {hops:List (Nat×Stamp)}:∀ {c:C} {s:Stamp} {c0:C},find c s hops=some c0 →
  ∃ rest,nodesC c ~ nodesC c0++rest∧∀ new,sh new=sh c0→nodesC (repl c s hops new) ~ nodesC new++rest:=by
 induction hops with
 | nil =>
  intro c s c0 h
  simp only [find] at h
  split at h
  ·simp only [Option.some.injEq] at h;subst h
   exact ⟨[],by simp,fun new _=>by simp [repl]⟩
  ·simp at h
 | cons x r ih =>
  intro c s c0 h
  obtain ⟨o,s'⟩:=x
  obtain ⟨cs,c',h1,h2,h3⟩:=z2y h
  obtain ⟨rest,p1,p2⟩:=ih h3
  obtain ⟨rest',q1,q2⟩:=z35 h2
  have mid:∀ (a:Stamp×List C) (x y z:Nodes),a::((x++y)++z) ~ x++(a::(y++z)):=fun a x y z=>by
   rw [List.append_assoc];exact perm_middle.symm
  refine ⟨(s,cs.map sh)::(rest++rest'),?_,fun new hs=>?_⟩
  ·rw [z2l h1]
   exact ((q1.trans (p1.append_right rest')).cons _).trans (mid _ _ _ _)
  ·rw [z21 h1 h2,z2l (z1y h1 _),zcn h2 (zee h3 hs)]
   exact (((q2 _).trans ((p2 new hs).append_right rest')).cons _).trans (mid _ _ _ _)
theorem zai {hops:List (Nat×Stamp)}:∀ {c:C} {s:Stamp} {c0:C},find c s hops=some c0→∀ new,(new.node (lastS s hops)).isSome→find (repl c s hops new) s hops=some new:=by
 induction hops with
 | nil=>intro c s c0 h new hn;simp only [lastS] at hn;simp [repl,find,hn]
 | cons x r ih =>
  intro c s c0 h new hn
  obtain ⟨o,s'⟩:=x
  obtain ⟨cs,c',h1,h2,h3⟩:=z2y h
  rw [z21 h1 h2]
  simp only [find,z1y h1,Option.bind_some]
  have ho:o<cs.length:=(List.getElem?_eq_some_iff.1 h2).1
  rw [List.getElem?_set_self ho]
  simpa using ih h3 new hn

theorem z9f {L:Layer} {d:Nat} {cs:List C} (h:L[d]?=some cs):∃ rest,nodesL L ~ z5 cs++rest∧∀ cs',nodesL (L.set d cs') ~ z5 cs'++rest:=by
 induction L generalizing d with
 | nil=>simp at h
 | cons x L ih =>
  cases d with
  | zero =>
   simp only [List.getElem?_cons_zero,Option.some.injEq] at h
   subst h
   exact ⟨nodesL L,by simp [nodesL],fun cs'=>by simp [nodesL]⟩
  | succ d =>
   simp only [List.getElem?_cons_succ] at h
   obtain ⟨rest,h1,h2⟩:=ih h
   have sw:∀ y:Nodes,z5 x++(y++rest) ~ y++(z5 x++rest):=fun y=>by
    rw [← List.append_assoc,← List.append_assoc]
    exact List.perm_append_comm.append_right rest
   refine ⟨z5 x++rest,?_,fun cs'=>?_⟩
   ·simp only [nodesL,List.flatMap_cons] at *
    exact (Perm.append_left _ h1).trans (sw _)
   ·simp only [nodesL,List.set_cons_succ,List.flatMap_cons] at *
    exact (Perm.append_left _ (h2 cs')).trans (sw _)
theorem z4j {h:H} {l:Loc} {c:C} (hr:rootC h l=some c):∃ rest,nodesH h ~ nodesC c++rest∧∀ c',nodesH (z9 h l c') ~ nodesC c'++rest:=by
 induction h with
 | nil=>simp [rootC] at hr
 | cons L h ih =>
  simp only [rootC] at hr
  split at hr
  ·rename_i hl
   cases hd:L[l.slot]? with
   | none=>simp [hd] at hr
   | some cs =>
    simp only [hd,Option.bind_some] at hr
    obtain ⟨r1,a1,a2⟩:=z9f hd
    obtain ⟨r2,b1,b2⟩:=z35 hr
    refine ⟨r2++(r1++nodesH h),?_,fun c'=>?_⟩
    ·simp only [nodesH,List.flatMap_cons] at *
     have:=(a1.trans (b1.append_right r1)).append_right (List.flatMap nodesL h)
     simpa [List.append_assoc] using this
    ·simp only [z9,hl,if_true,hd,Option.getD_some,nodesH,List.flatMap_cons] at *
     have:=((a2 (cs.set l.comp c')).trans ((b2 c').append_right r1)).append_right (List.flatMap nodesL h)
     simpa [List.append_assoc] using this
  ·rename_i hl
   obtain ⟨rest,a1,a2⟩:=ih hr
   have sw:∀ y:Nodes,nodesL L++(y++rest) ~ y++(nodesL L++rest):=fun y=>by
    rw [← List.append_assoc,← List.append_assoc]
    exact List.perm_append_comm.append_right rest
   refine ⟨nodesL L++rest,?_,fun c'=>?_⟩
   ·simp only [nodesH,List.flatMap_cons] at *
    exact (Perm.append_left _ a1).trans (sw _)
   ·simp only [z9,hl,if_false,nodesH,List.flatMap_cons] at *
    exact (Perm.append_left _ (a2 c')).trans (sw _)
theorem z8i {h:H} {l:Loc} {c:C} (hr:rootC h l=some c) (c':C):rootC (z9 h l c') l=some c':=by
 induction h with
 | nil=>simp [rootC] at hr
 | cons L h ih =>
  simp only [rootC] at hr
  split at hr
  ·rename_i hl
   cases hd:L[l.slot]? with
   | none=>simp [hd] at hr
   | some cs =>
    simp only [hd,Option.bind_some] at hr
    have h1:l.slot<L.length:=(List.getElem?_eq_some_iff.1 hd).1
    have h2:l.comp<cs.length:=(List.getElem?_eq_some_iff.1 hr).1
    simp only [z9,hl,if_true,rootC,hd,Option.getD_some]
    rw [List.getElem?_set_self h1]
    simp [List.getElem?_set_self h2]
  ·rename_i hl
   simp only [z9,hl,if_false,rootC]
   have:(z9 h l c').length=h.length:=by
    clear ih hr hl
    induction h with
    | nil=>rfl
    | cons L h ih=>simp only [z9];split<;>simp [ih]
   rw [if_neg (by rw [this];exact hl)]
   exact ih hr
theorem z1a (h:H) (l:Loc) (c:C):(z9 h l c).length=h.length:=by
 induction h with
 | nil=>rfl
 | cons L h ih=>simp only [z9];split<;>simp [ih]

theorem Loc.last_eq (l:Loc):l.last=lastS l.s l.hops:=by
 unfold Loc.last
 generalize l.s=s
 generalize l.hops=r
 induction r generalizing s with
 | nil=>rfl
 | cons x r ih =>
  obtain ⟨o,s'⟩:=x
  cases r with
  | nil=>rfl
  | cons y r =>
   have:=ih s'
   simp only [List.getLast?_cons_cons,lastS] at *
   rw [← this]
   cases h:(y::r).getLast? with
   | none=>simp at h
   | some z=>rfl

theorem z2b {h:H} {l:Loc} {cs:List C} (hn:nd h l=some cs) :
  ∃ rest,nodesH h ~ (l.last,cs.map sh)::(z5 cs++rest)∧∀ cs',nodesH (setNd h l cs') ~ (l.last,cs'.map sh)::(z5 cs'++rest):=by
 unfold nd at hn
 cases ha:at_ h l with
 | none=>simp [ha] at hn
 | some c0 =>
  simp only [ha,Option.bind_some] at hn
  have ha':=ha
  unfold at_ at ha'
  cases hr:rootC h l with
  | none=>simp [hr] at ha'
  | some c =>
   simp only [hr,Option.bind_some] at ha'
   obtain ⟨r1,a1,a2⟩:=z4j hr
   obtain ⟨r2,b1,b2⟩:=zdr ha'
   refine ⟨r2++r1,?_,fun cs'=>?_⟩
   ·have:=a1.trans (b1.append_right r1)
    rw [z2l hn] at this
    simpa [List.append_assoc] using this
   ·have:=(a2 (repl c l.s l.hops (c0.withNode cs'))).trans ((b2 (c0.withNode cs') (z83 _ _)).append_right r1)
    rw [z2l (z1y hn cs')] at this
    simp only [setNd,ha,setAt,hr]
    simpa [List.append_assoc] using this
theorem z4i {h:H} {l:Loc} {cs:List C} (hn:nd h l=some cs):∃ c,rootC h l=some c:=by
 unfold nd at_ at hn
 cases hr:rootC h l with
 | none=>simp [hr] at hn
 | some c=>exact ⟨c,rfl⟩
theorem zbn {h:H} {l:Loc} {cs:List C} (hn:nd h l=some cs) (cs':List C):nd (setNd h l cs') l=some cs':=by
 obtain ⟨c,hr⟩:=z4i hn
 unfold nd at hn
 cases ha:at_ h l with
 | none=>simp [ha] at hn
 | some c0 =>
  simp only [ha,Option.bind_some] at hn
  have hf:find c l.s l.hops=some c0:=by simpa [at_,hr] using ha
  have hnode:=z1y hn cs'
  have e:setNd h l cs'=z9 h l (repl c l.s l.hops (c0.withNode cs')):=by simp [setNd,ha,setAt,hr]
  rw [e]
  simp only [nd,at_,z8i hr,Option.bind_some]
  rw [zai hf _ (by rw [← Loc.last_eq,hnode];rfl)]
  simpa using hnode
theorem zb1 (h:H) (l:Loc) (cs:List C):(setNd h l cs).length=h.length:=by
 unfold setNd setAt
 split
 ·split
  ·exact z1a _ _ _
  ·rfl
 ·rfl

def Part (a b:Nodes):Prop:=∃ rest,b ~ a++rest
theorem Part.refl (a:Nodes):Part a a:=⟨[],by simp⟩
theorem Part.of_perm {a b:Nodes} (h:a ~ b):Part a b:=⟨[],by simpa using h.symm⟩
theorem Part.trans {a b c:Nodes} (h:Part a b) (k:Part b c):Part a c:=by
 obtain ⟨r,hr⟩:=h;obtain ⟨q,hq⟩:=k
 exact ⟨r++q,hq.trans (by have:=hr.append_right q;simpa [List.append_assoc] using this)⟩
theorem Part.left (a b:Nodes):Part a (a++b):=⟨b,.refl _⟩
theorem Part.right (a b:Nodes):Part b (a++b):=⟨a,perm_append_comm⟩
theorem Part.append_left (a:Nodes) {b c:Nodes} (h:Part b c):Part (a++b) (a++c):=by
 obtain ⟨r,hr⟩:=h;exact ⟨r,by have:=hr.append_left a;simpa [List.append_assoc] using this⟩
theorem Part.cons (x:Stamp×List C) {b c:Nodes} (h:Part b c):Part (x::b) (x::c):=by
 simpa using Part.append_left [x] h
theorem Part.append_right {a b:Nodes} (h:Part a b) (c:Nodes):Part (a++c) (b++c):=by
 obtain ⟨r,hr⟩:=h
 refine ⟨r,(hr.append_right c).trans ?_⟩
 rw [List.append_assoc,List.append_assoc]
 exact perm_append_comm.append_left a
theorem z24 (h:H) (d:Nat) (cs:List C):Part (nodesH (zf h d cs)) (z5 cs++nodesH h):=by
 cases h with
 | nil=>simpa [zf,nodesH] using Part.right (z5 cs) []
 | cons L h =>
  simp only [zf,nodesH,List.flatMap_cons]
  cases hd:L[d]? with
  | none =>
   rw [List.set_eq_of_length_le (by simpa using hd)]
   exact Part.right _ _
  | some x =>
   obtain ⟨r,a1,a2⟩:=z9f hd
   have e:nodesL (L.set d cs)++h.flatMap nodesL ~ z5 cs++(r++h.flatMap nodesL):=by
    have:=(a2 cs).append_right (h.flatMap nodesL);simpa [List.append_assoc] using this
   refine (Part.of_perm e).trans (Part.append_left _ (Part.append_right ?_ _))
   exact (Part.right (z5 x) r).trans (Part.of_perm a1.symm)
theorem zbt {r:List (Nat×Stamp)} {o:Nat} {s':Stamp}:∀ {c:C} {s:Stamp},find c s (r++[(o,s')])=(find c s r).bind fun c0=>(c0.node (lastS s r)).bind fun cs=>(cs[o]?).bind fun c'=>if (c'.node s').isSome then some c' else none:=by
 induction r with
 | nil =>
  intro c s
  simp only [List.nil_append,find,lastS]
  cases hn:c.node s<;>simp [hn]
 | cons x r ih =>
  intro c s
  obtain ⟨o1,s1⟩:=x
  simp only [List.cons_append,find,lastS]
  cases hn:c.node s with
  | none=>simp
  | some cs =>
   simp only [Option.bind_some]
   cases ho:cs[o1]? with
   | none=>simp
   | some c1=>simpa using ih (c:=c1) (s:=s1)
theorem z4y (l:Loc) (o:Nat) (s:Stamp):(l.hop o s).last=s:=by simp [Loc.last,Loc.hop]
theorem zb3 (h:H) (l:Loc) (o:Nat) (s:Stamp):rootC h (l.hop o s)=rootC h l:=by
 induction h with
 | nil=>rfl
 | cons L h ih=>simp only [rootC,Loc.hop] at *;rw [ih];rfl
theorem at_hop {h:H} {l:Loc} {o:Nat} {s:Stamp}:at_ h (l.hop o s)=(nd h l).bind fun cs=>(cs[o]?).bind fun c=>if (c.node s).isSome then some c else none:=by
 unfold at_ nd
 rw [zb3]
 simp only [Loc.hop,at_]
 cases hr:rootC h l with
 | none=>simp
 | some c =>
  simp only [Option.bind_some]
  rw [zbt,← Loc.last_eq]
  cases find c l.s l.hops<;>simp
theorem nd_hop {h:H} {l:Loc} {o:Nat} {s:Stamp} {cs:List C} (hn:nd h l=some cs) {c:C} (hc:cs[o]?=some c):nd h (l.hop o s)=c.node s:=by
 unfold nd
 rw [at_hop,hn]
 simp only [Option.bind_some,hc]
 cases h:(c.node s) with
 | none=>simp
 | some x=>simp [z4y,h]
theorem zbw (h:H) (l:Loc) (o:Nat) (s:Stamp) (c:C):z9 h (l.hop o s) c=z9 h l c:=by
 induction h with
 | nil=>rfl
 | cons L h ih=>simp only [z9,Loc.hop] at *;rw [ih];rfl
theorem zc7 {r:List (Nat×Stamp)} {o:Nat} {s':Stamp}:∀ {c:C} {s:Stamp} {c0:C} {cs:List C} {c':C} (new:C),find c s r=some c0→c0.node (lastS s r)=some cs→cs[o]?=some c' →
  repl c s (r++[(o,s')]) new=repl c s r (c0.withNode (cs.set o new)):=by
 induction r with
 | nil =>
  intro c s c0 cs c' new hf hn hc
  simp only [find,lastS] at hf hn
  split at hf
  ·simp only [Option.some.injEq] at hf;subst hf
   simp [repl,hn,hc]
  ·simp at hf
 | cons x r ih =>
  intro c s c0 cs c' new hf hn hc
  obtain ⟨o1,s1⟩:=x
  obtain ⟨ds,c1,h1,h2,h3⟩:=z2y hf
  rw [List.cons_append,z21 h1 h2,z21 h1 h2,ih new h3 (by simpa [lastS] using hn) hc]
theorem z79 {h:H} {l:Loc} {o:Nat} {s:Stamp} {cs:List C} {c:C} (hn:nd h l=some cs) (hc:cs[o]?=some c) (new:C) :
  setAt h (l.hop o s) new=setNd h l (cs.set o new):=by
 obtain ⟨c1,hr⟩:=z4i hn
 unfold nd at hn
 cases ha:at_ h l with
 | none=>simp [ha] at hn
 | some c0 =>
  simp only [ha,Option.bind_some] at hn
  have hf:find c1 l.s l.hops=some c0:=by simpa [at_,hr] using ha
  simp only [setAt,zb3,hr,setNd,ha]
  rw [zbw]
  congr 1
  rw [Loc.last_eq] at hn
  exact zc7 new hf hn hc
theorem Loc.cases_hop (l:Loc):l.hops=[]∨∃ (l':Loc) (o:Nat) (s:Stamp),l=l'.hop o s:=by
 rcases List.eq_nil_or_concat l.hops with h | ⟨r,x,h⟩
 ·exact .inl h
 ·refine .inr ⟨({ l with hops:=r }:Loc),x.1,x.2,?_⟩
  cases l
  simp only [Loc.hop] at *
  simp [h]
theorem nd_at {h:H} {l:Loc} {cs:List C} (hn:nd h l=some cs):∃ c,at_ h l=some c∧c.node l.last=some cs:=by
 unfold nd at hn
 cases ha:at_ h l with
 | none=>simp [ha] at hn
 | some c=>exact ⟨c,rfl,by simpa [ha] using hn⟩
theorem at_nd {h:H} {l:Loc} {c:C} (ha:at_ h l=some c):∃ cs,nd h l=some cs∧c.node l.last=some cs:=by
 have ha':=ha
 unfold at_ at ha'
 cases hr:rootC h l with
 | none=>simp [hr] at ha'
 | some c1 =>
  simp only [hr,Option.bind_some] at ha'
  have:=zd5 ha'
  rw [← Loc.last_eq] at this
  obtain ⟨cs,hcs⟩:=Option.isSome_iff_exists.1 this
  exact ⟨cs,by simp [nd,ha,hcs],hcs⟩
end Go.Ev
namespace Go.Ev
set_option linter.unusedVariables false
open List (Perm)

structure Pos where
 blk:Nat
 off:Nat
 tot:Nat
structure Inj where
 at_:Stamp→Option Pos
 fz:Nat→Option (List Value)
 nw:Nat→Bool
structure Inj.Le (ι ι':Inj):Prop where
 at_:∀ s p,ι.at_ s=some p→ι'.at_ s=some p
 fz:∀ b f,ι.fz b=some f→ι'.fz b=some f
 nw:∀ b,ι.nw b=true→ι'.nw b=true
theorem Inj.Le.refl (ι:Inj):ι.Le ι:=⟨fun _ _ h=>h,fun _ _ h=>h,fun _ h=>h⟩
theorem Inj.Le.trans {a b c:Inj} (h:a.Le b) (k:b.Le c):a.Le c:=⟨fun s p x=>k.at_ s p (h.at_ s p x),fun s p x=>k.fz s p (h.fz s p x),fun b x=>k.nw b (h.nw b x)⟩

def Leaf:Value→Prop
 | .agg _ | .tuple _=>False
 | _=>True

mutual
inductive RV (ι:Inj):V→Value→Prop
 | p (v:Value):RV ι (.p v) v
 | agg {cs:List V} {a:Array Value} (h:RVs ι cs a.toList):RV ι (.agg cs) (.agg a)
 | ref {l:Loc} {off:Nat} {p:Pos} (h:ι.at_ l.last=some p):RV ι (.ref l off) (.pointer (some ⟨p.blk,p.off+off,none⟩))
 | sl {l:Loc} {off len av esz cap o:Nat} {p:Pos} (h:ι.at_ l.last=some p) (h1:len≤av) (h2:av≤cap) (h3:cap≠0→o=p.off+off) (h4:cap≠0→o+cap*esz≤p.tot) :
   RV ι (.sl l off len av esz) (.slice (some ⟨p.blk,o,none⟩) len cap)
 | fz0 {esz cap:Nat} {tight:Bool} {a:Addr} (ht:tight=true→cap=0):RV ι (.fz [] 0 esz tight) (.slice (some a) 0 cap)
 | fz {cs:List V} {len esz cap b o:Nat} {tight:Bool} {f:List Value} (h:ι.fz b=some f) (h1:len≤cap) (ht:tight=true→cap=len∧ι.nw b=true) (hl:cs.length=len*esz)
   (hc:RVs ι cs ((f.drop o).take cs.length)):RV ι (.fz cs len esz tight) (.slice (some ⟨b,o,none⟩) len cap)
 | fzp {cs:List V} {b o:Nat} {f:List Value} (h:ι.fz b=some f) (hc:RVs ι cs ((f.drop o).take cs.length)):RV ι (.fzp cs) (.pointer (some ⟨b,o,none⟩))
 | clo {f:FuncId} {caps:List V} {vs:Array Value} (h:RVs ι caps vs.toList):RV ι (.clo f caps) (.func (.func f) #[] vs)
 | tup {xs:List V} {vs:Array Value} (h:RVs ι xs vs.toList):RV ι (.tup xs) (.tuple vs)
inductive RVs (ι:Inj):List V→List Value→Prop
 | nil:RVs ι [] []
 | cons {x:V} {xs:List V} {v:Value} {vs:List Value} (h:RV ι x v) (t:RVs ι xs vs):RVs ι (x::xs) (v::vs)
end
mutual
theorem RV.mono {ι ι':Inj} (hι:ι.Le ι'):∀ {x:V} {v:Value},RV ι x v→RV ι' x v
 | _,_,.p v=>.p v
 | _,_,.agg h=>.agg (RVs.mono hι h)
 | _,_,.ref h=>.ref (hι.at_ _ _ h)
 | _,_,.sl h h1 h2 h3 h4=>.sl (hι.at_ _ _ h) h1 h2 h3 h4
 | _,_,.fz0 b=>.fz0 b
 | _,_,.fz h h1 ht hl hc=>.fz (hι.fz _ _ h) h1 (fun x=>⟨(ht x).1,hι.nw _ (ht x).2⟩) hl (RVs.mono hι hc)
 | _,_,.fzp h hc=>.fzp (hι.fz _ _ h) (RVs.mono hι hc)
 | _,_,.clo h=>.clo (RVs.mono hι h)
 | _,_,.tup h=>.tup (RVs.mono hι h)
theorem RVs.mono {ι ι':Inj} (hι:ι.Le ι'):∀ {xs:List V} {vs:List Value},RVs ι xs vs→RVs ι' xs vs
 | _,_,.nil=>.nil
 | _,_,.cons h t=>.cons (RV.mono hι h) (RVs.mono hι t)
end
theorem RVs.length {ι:Inj}:∀ {xs:List V} {vs:List Value},RVs ι xs vs→vs.length=xs.length
 | _,_,.nil=>rfl
 | _,_,.cons _ t=>by simp [RVs.length t]
theorem RVs.get {ι:Inj}:∀ {xs:List V} {vs:List Value},RVs ι xs vs→∀ {i:Nat} {x:V},xs[i]?=some x→∃ v,vs[i]?=some v∧RV ι x v
 | _,_,.nil,_,_,h=>by simp at h
 | _,_,.cons h t,i,x,hx=>by
  cases i with
  | zero=>simp only [List.getElem?_cons_zero,Option.some.injEq] at hx;subst hx;exact ⟨_,rfl,h⟩
  | succ i=>simp only [List.getElem?_cons_succ] at hx ⊢;exact RVs.get t hx
theorem RVs.of_get {ι:Inj}:∀ {xs:List V} {vs:List Value},vs.length=xs.length→(∀ (i:Nat) x v,xs[i]?=some x→vs[i]?=some v→RV ι x v)→RVs ι xs vs
 | [],[],_,_=>.nil
 | [],_::_,h,_=>by simp at h
 | _::_,[],h,_=>by simp at h
 | x::xs,v::vs,h,k=>.cons (k 0 x v rfl rfl) (RVs.of_get (by simpa using h) fun i y u hy hu=>k (i+1) y u hy hu)
theorem RVs.append {ι:Inj} {xs ys:List V} {vs us:List Value} (h:RVs ι xs vs) (k:RVs ι ys us):RVs ι (xs++ys) (vs++us):=by
 refine RVs.of_get (by simp [h.length,k.length]) fun i x v hx hv=>?_
 have hl:=h.length
 rw [List.getElem?_append] at hx hv
 rw [hl] at hv
 split at hx
 ·obtain ⟨u,hu,r⟩:=h.get hx;simp_all
 ·obtain ⟨u,hu,r⟩:=k.get hx;simp_all
theorem RVs.drop {ι:Inj} {xs:List V} {vs:List Value} (h:RVs ι xs vs) (n:Nat):RVs ι (xs.drop n) (vs.drop n):=by
 refine RVs.of_get (by simp [h.length]) fun i x v hx hv=>?_
 rw [List.getElem?_drop] at hx hv
 obtain ⟨u,hu,r⟩:=h.get hx;simp_all
theorem RVs.take {ι:Inj} {xs:List V} {vs:List Value} (h:RVs ι xs vs) (n:Nat):RVs ι (xs.take n) (vs.take n):=by
 refine RVs.of_get (by simp [h.length]) fun i x v hx hv=>?_
 have hn:i<n:=by
  have:=(List.getElem?_eq_some_iff.1 hx).1;simp at this;omega
 rw [List.getElem?_take_of_lt hn] at hx hv
 obtain ⟨u,hu,r⟩:=h.get hx;simp_all
theorem RVs.plain {ι:Inj} (vs:List Value):RVs ι (vs.map .p) vs:=by
 refine RVs.of_get (by simp) fun i x v hx hv=>?_
 rw [List.getElem?_map,hv] at hx
 simp at hx;subst hx;exact .p v

inductive RC (ι:Inj):C→Value→Prop
 | v {x:V} {u:Value} (h:RV ι x u) (hl:Leaf u):RC ι (.v x) u
 | own {s:Stamp} {cs:List C} {p:Pos} (h:ι.at_ s=some p):RC ι (.own s cs) (.pointer (some ⟨p.blk,p.off,none⟩))
 | arr {s:Stamp} {len esz cap o:Nat} {cs:List C} {p:Pos} (h:ι.at_ s=some p) (h1:len≤cap) (h3:cap≠0→o=p.off) (h4:cap≠0→o+cap*esz≤p.tot) :
   RC ι (.arr s len esz cs) (.slice (some ⟨p.blk,o,none⟩) len cap)
 | dead {u:Value}:RC ι .dead u
theorem RC.mono {ι ι':Inj} (hι:ι.Le ι') {c:C} {v:Value} (h:RC ι c v):RC ι' c v:=by
 cases h with
 | v h hl=>exact .v (h.mono hι) hl
 | own h=>exact .own (hι.at_ _ _ h)
 | arr h h1 h3 h4=>exact .arr (hι.at_ _ _ h) h1 h3 h4
 | dead=>exact .dead
theorem RC.sh {ι:Inj} {c:C} {v:Value} (h:RC ι c v):RC ι (Ev.sh c) v:=by
 cases h with
 | v h hl=>exact .v h hl
 | own h=>exact .own h
 | arr h h1 h3 h4=>exact .arr h h1 h3 h4
 | dead=>exact .dead
theorem RC.of_sh {ι:Inj} {c:C} {v:Value} (h:RC ι (Ev.sh c) v):RC ι c v:=by
 cases c<;>cases h
 ·exact .v ‹_› ‹_›
 ·exact .own ‹_›
 ·exact .arr ‹_› ‹_› ‹_› ‹_›
 ·exact .dead
def RCs (ι:Inj) (cs:List C) (vs:List Value):Prop:=∀ (i:Nat) c,cs[i]?=some c→∃ v,vs[i]?=some v∧RC ι c v
theorem RCs.mono {ι ι':Inj} (hι:ι.Le ι') {cs:List C} {vs:List Value} (h:RCs ι cs vs):RCs ι' cs vs:=fun i c hc=>by
 obtain ⟨v,hv,r⟩:=h i c hc;exact ⟨v,hv,r.mono hι⟩
theorem RCs.sh {ι:Inj} {cs:List C} {vs:List Value} (h:RCs ι cs vs):RCs ι (cs.map Ev.sh) vs:=fun i c hc=>by
 rw [List.getElem?_map] at hc
 cases hd:cs[i]? with
 | none=>simp [hd] at hc
 | some d =>
  simp only [hd,Option.map_some,Option.some.injEq] at hc
  obtain ⟨v,hv,r⟩:=h i d hd
  exact ⟨v,hv,hc▸r.sh⟩

abbrev stamps (ns:Nodes):List Stamp:=ns.map (·.1)
structure SimN (ι:Inj) (B:Nat) (hp:Array Obj) (ns:Nodes):Prop where
 nodup:(stamps ns).Nodup
 lie:∀ s cs,(s,cs)∈ns→∀ p,ι.at_ s=some p→B≤p.blk∧∃ c ety,hp[p.blk]?=some (.cells c ety (0,0))∧c.size=p.tot∧p.off+cs.length≤p.tot∧RCs ι cs (c.toList.drop p.off)
 inj:∀ s s',s∈stamps ns→s'∈stamps ns→∀ p p',ι.at_ s=some p→ι.at_ s'=some p'→p.blk=p'.blk→s=s'
 frz:∀ b f,ι.fz b=some f→∃ c ety fr,hp[b]?=some (.cells c ety fr)∧c.toList=f
 apart:∀ s,s∈stamps ns→∀ p,ι.at_ s=some p→ι.fz p.blk=none
 nwb:∀ b,ι.nw b=true→B≤b

theorem SimN.part {ι:Inj} {B:Nat} {hp:Array Obj} {ns ns':Nodes} (h:SimN ι B hp ns') (hs:Part ns ns'):SimN ι B hp ns:=by
 obtain ⟨r,hr⟩:=hs
 have mem:∀ x,x∈ns→x∈ns':=fun x hx=>hr.symm.subset (List.mem_append_left _ hx)
 have mem':∀ s,s∈stamps ns→s∈stamps ns':=fun s hx=>by
  obtain ⟨x,hm,rfl⟩:=List.mem_map.1 hx;exact List.mem_map.2 ⟨x,mem x hm,rfl⟩
 refine ⟨?_,fun s cs hm=>h.lie s cs (mem _ hm),fun s s' a b=>h.inj s s' (mem' s a) (mem' s' b),h.frz,fun s a=>h.apart s (mem' s a),h.nwb⟩
 have:(stamps ns').Perm (stamps ns++stamps r):=by simpa [stamps] using hr.map (·.1)
 exact (List.nodup_append.1 (this.nodup h.nodup)).1
theorem SimN.perm {ι:Inj} {B:Nat} {hp:Array Obj} {ns ns':Nodes} (h:SimN ι B hp ns') (hs:ns'.Perm ns):SimN ι B hp ns:=h.part (.of_perm hs.symm)

theorem zbx (w:World) (a:Addr) (v:Value) {k:Nat} (h:k≠a.block):(w.setCell a v).heap[k]?=w.heap[k]?:=by
 simp only [World.setCell,Array.getElem?_modify]
 rw [if_neg (fun e=>h e.symm)]
theorem zaq (w:World) (a:Addr) (v:Value) (h0:a.spot=none) {c:Array Value} {e:TypeId} {fr:Nat×Nat} (h:w.heap[a.block]?=some (.cells c e fr)) :
  (w.setCell a v).heap[a.block]?=some (.cells (c.setIfInBounds a.off v) e fr):=by
 simp only [World.setCell]
 rw [Array.getElem?_modify]
 simp [h,h0]

theorem SimN.set {ι:Inj} {B:Nat} {w:World} {ns:Nodes} {s:Stamp} {cells:List C} {p:Pos} {i:Nat} {c:C} {v:Value}
  (h:SimN ι B w.heap ((s,cells)::ns)) (hp:ι.at_ s=some p) (hi:i<cells.length) (hc:RC ι c v) :
  SimN ι B (w.setCell ⟨p.blk,p.off+i,none⟩ v).heap ((s,cells.set i (sh c))::ns):=by
 obtain ⟨hB,ca,ety,hb,hsz,hle,hcs⟩:=h.lie s cells (List.mem_cons_self ..) p hp
 have hsame:=zaq w ⟨p.blk,p.off+i,none⟩ v rfl hb
 have hoth:∀ b,b≠p.blk→(w.setCell ⟨p.blk,p.off+i,none⟩ v).heap[b]?=w.heap[b]?:=fun b hb=>zbx w _ v hb
 have nd:=h.nodup
 simp only [stamps,List.map_cons,List.nodup_cons] at nd
 refine ⟨by simpa [stamps] using h.nodup,?_,?_,?_,?_,h.nwb⟩
 ·intro s' cs' hm p' hp'
  simp only [List.mem_cons,Prod.mk.injEq] at hm
  rcases hm with ⟨rfl,rfl⟩ | hm
  ·rw [hp] at hp';obtain rfl:=Option.some.inj hp'
   refine ⟨hB,_,ety,hsame,by simp [hsz],by simpa using hle,fun j d hd=>?_⟩
   rw [List.getElem?_set] at hd
   simp only [Array.toList_setIfInBounds,List.getElem?_drop]
   split at hd
   ·rename_i e;subst e
    simp only [Option.some.injEq] at hd;subst hd
    refine ⟨v,?_,hc.sh⟩
    rw [List.getElem?_set_self];simp;omega
   ·rename_i e
    obtain ⟨u,hu,r⟩:=hcs j d hd
    refine ⟨u,?_,r⟩
    rw [List.getElem?_set_ne (by omega)]
    rwa [List.getElem?_drop] at hu
  ·have hs':s'∈stamps ns:=List.mem_map.2 ⟨_,hm,rfl⟩
   have hne:p'.blk≠p.blk:=fun e=>by
    have:=h.inj s' s (List.mem_cons_of_mem _ hs') (List.mem_cons_self ..) p' p hp' hp e
    subst this;exact nd.1 hs'
   obtain ⟨a1,c1,e1,a2,a3,a4,a5⟩:=h.lie s' cs' (List.mem_cons_of_mem _ hm) p' hp'
   exact ⟨a1,c1,e1,by rw [hoth _ hne];exact a2,a3,a4,a5⟩
 ·intro a b ha hb';exact h.inj a b (by simpa [stamps] using ha) (by simpa [stamps] using hb')
 ·intro b f hf
  obtain ⟨c1,e1,fr,k1,k2⟩:=h.frz b f hf
  have hne:b≠p.blk:=fun e=>by
   have:=h.apart s (List.mem_cons_self ..) p hp
   rw [← e,hf] at this;simp at this
  exact ⟨c1,e1,fr,by rw [hoth _ hne];exact k1,k2⟩
 ·intro a ha;exact h.apart a (by simpa [stamps] using ha)

theorem SimN.same {ι:Inj} {B:Nat} {hp:Array Obj} {ns:Nodes} {s:Stamp} {cells cells':List C} (h:SimN ι B hp ((s,cells)::ns)) (hl:cells'.length≤cells.length) (hc:∀ us,RCs ι cells us→RCs ι cells' us) :
  SimN ι B hp ((s,cells')::ns):=by
 refine ⟨by simpa [stamps] using h.nodup,fun s' cs' hm p hp=>?_,fun a b ha hb=>h.inj a b (by simpa [stamps] using ha) (by simpa [stamps] using hb),h.frz,fun a ha=>h.apart a (by simpa [stamps] using ha),h.nwb⟩
 simp only [List.mem_cons,Prod.mk.injEq] at hm
 rcases hm with ⟨rfl,rfl⟩ | hm
 ·obtain ⟨a1,c1,e1,a2,a3,a4,a5⟩:=h.lie _ _ (List.mem_cons_self ..) p hp
  exact ⟨a1,c1,e1,a2,a3,by omega,hc _ a5⟩
 ·exact h.lie s' cs' (List.mem_cons_of_mem _ hm) p hp
theorem SimN.extend {ι:Inj} {B:Nat} {hp:Array Obj} {ns:Nodes} {s:Stamp} {cells:List C} {p:Pos} (h:SimN ι B hp ((s,cells)::ns)) (hs:ι.at_ s=some p) (k:Nat) (hk:p.off+cells.length+k≤p.tot) :
  SimN ι B hp ((s,cells++List.replicate k .dead)::ns):=by
 refine ⟨by simpa [stamps] using h.nodup,fun s' cs' hm p' hp=>?_,fun a b ha hb=>h.inj a b (by simpa [stamps] using ha) (by simpa [stamps] using hb),h.frz,fun a ha=>h.apart a (by simpa [stamps] using ha),h.nwb⟩
 simp only [List.mem_cons,Prod.mk.injEq] at hm
 rcases hm with ⟨rfl,rfl⟩ | hm
 ·rw [hs] at hp;obtain rfl:=Option.some.inj hp
  obtain ⟨a1,c1,e1,a2,a3,a4,a5⟩:=h.lie _ _ (List.mem_cons_self ..) p hs
  refine ⟨a1,c1,e1,a2,a3,by simp;omega,fun i c hc=>?_⟩
  rw [List.getElem?_append] at hc
  split at hc
  ·exact a5 i c hc
  ·have hi:i<cells.length+k:=by
    have:=(List.getElem?_eq_some_iff.1 hc).1;simp at this;omega
   have hc':c=.dead:=by
    rw [List.getElem?_replicate] at hc;split at hc<;>simp_all
   subst hc'
   have hlt:p.off+i<c1.size:=by omega
   exact ⟨c1[p.off+i],by simp [hlt],.dead⟩
 ·exact h.lie s' cs' (List.mem_cons_of_mem _ hm) p' hp
theorem SimN.virtual {ι:Inj} {B:Nat} {hp:Array Obj} {ns:Nodes} {s:Stamp} (cells:List C) (h:SimN ι B hp ns) (hs:ι.at_ s=none) (hn:s∉stamps ns) :
  SimN ι B hp ((s,cells)::ns):=by
 refine ⟨by simpa [stamps] using ⟨by simpa [stamps] using hn,h.nodup⟩,?_,?_,h.frz,?_,h.nwb⟩
 ·intro s' cs' hm p hp
  simp only [List.mem_cons,Prod.mk.injEq] at hm
  rcases hm with ⟨rfl,rfl⟩ | hm
  ·rw [hs] at hp;simp at hp
  ·exact h.lie s' cs' hm p hp
 ·intro a b ha hb p p' hp hp' e
  simp only [stamps,List.map_cons,List.mem_cons] at ha hb
  rcases ha with rfl | ha
  ·rw [hs] at hp;simp at hp
  ·rcases hb with rfl | hb
   ·rw [hs] at hp';simp at hp'
   ·exact h.inj a b ha hb p p' hp hp' e
 ·intro a ha p hp
  simp only [stamps,List.map_cons,List.mem_cons] at ha
  rcases ha with rfl | ha
  ·rw [hs] at hp;simp at hp
  ·exact h.apart a ha p hp
def Inj.put (ι:Inj) (s:Stamp) (p:Pos):Inj:={ ι with at_:=fun s'=>if s'=s then some p else ι.at_ s' }
def Inj.freeze (ι:Inj) (b:Nat) (f:List Value):Inj:={ ι with fz:=fun b'=>if b'=b then some f else ι.fz b' }
theorem Inj.Le.put {ι:Inj} {s:Stamp} (hs:ι.at_ s=none) (p:Pos):ι.Le (ι.put s p):=by
 refine ⟨fun s' q h=>?_,fun _ _ h=>h,fun _ h=>h⟩
 simp only [Inj.put];split
 ·rename_i e;subst e;rw [hs] at h;simp at h
 ·exact h
theorem Inj.put_ne (ι:Inj) {s s1:Stamp} (h:s1≠s) (p:Pos):(ι.put s p).at_ s1=ι.at_ s1:=by simp [Inj.put,h]
theorem Inj.put_same (ι:Inj) (s:Stamp) (p:Pos):(ι.put s p).at_ s=some p:=by simp [Inj.put]
def Inj.freezeN (ι:Inj) (b:Nat) (f:List Value):Inj:={ ι.freeze b f with nw:=fun b'=>b'==b||ι.nw b' }
theorem Inj.Le.freeze {ι:Inj} {b:Nat} (hb:ι.fz b=none) (f:List Value):ι.Le (ι.freeze b f):=by
 refine ⟨fun _ _ h=>h,fun b' q h=>?_,fun _ h=>h⟩
 simp only [Inj.freeze];split
 ·rename_i e;subst e;rw [hb] at h;simp at h
 ·exact h
theorem z29 (w:World) (o:Obj) {b:Nat} {x:Obj} (h:w.heap[b]?=some x):(w.alloc o).heap[b]?=some x:=by
 have hlt:b<w.heap.size:=(Array.getElem?_eq_some_iff.1 h).1
 show (w.heap.push o)[b]?=_
 rw [Array.getElem?_push,if_neg (by omega)];exact h
theorem z6v (w:World) (o:Obj):(w.alloc o).heap[w.heap.size]?=some o:=by
 show (w.heap.push o)[w.heap.size]?=_
 rw [Array.getElem?_push,if_pos rfl]
theorem zd6 {ns:Nodes} (nd:(stamps ns).Nodup) {s:Stamp} {a b:List C} (ha:(s,a)∈ns) (hb:(s,b)∈ns):a=b:=by
 induction ns with
 | nil=>simp at ha
 | cons x ns ih =>
  simp only [stamps,List.map_cons,List.nodup_cons] at nd
  simp only [List.mem_cons] at ha hb
  rcases ha with rfl | ha
  ·rcases hb with e | hb
   ·exact (Prod.mk.inj e).2.symm
   ·exact absurd (List.mem_map.2 ⟨_,hb,rfl⟩) nd.1
  ·rcases hb with rfl | hb
   ·exact absurd (List.mem_map.2 ⟨_,ha,rfl⟩) nd.1
   ·exact ih nd.2 ha hb

theorem SimN.alloc {ι:Inj} {B:Nat} {w:World} {ns:Nodes} (h:SimN ι B w.heap ns) (o:Obj):SimN ι B (w.alloc o).heap ns:=by
 refine ⟨h.nodup,fun s cs hm p hp=>?_,h.inj,fun b f hf=>?_,h.apart,h.nwb⟩
 ·obtain ⟨a1,c1,e1,a2,a3⟩:=h.lie s cs hm p hp
  exact ⟨a1,c1,e1,z29 w o a2,a3⟩
 ·obtain ⟨c,e,fr,k1,k2⟩:=h.frz b f hf
  exact ⟨c,e,fr,z29 w o k1,k2⟩
theorem SimN.give {ι:Inj} {B:Nat} {w:World} {ns:Nodes} {s:Stamp} {cells:List C} {vals:Array Value} {ety:TypeId}
  (h:SimN ι B w.heap ns) (hm:(s,cells)∈ns) (hs:ι.at_ s=none) (hB:B≤w.heap.size) (hc:RCs (ι.put s ⟨w.heap.size,0,vals.size⟩) cells vals.toList) (hl:cells.length≤vals.size) :
  SimN (ι.put s ⟨w.heap.size,0,vals.size⟩) B (w.alloc (.cells vals ety)).heap ns:=by
 have hle:=Inj.Le.put hs ⟨w.heap.size,0,vals.size⟩
 have hlt:∀ s' p,s'∈stamps ns→ι.at_ s'=some p→p.blk<w.heap.size:=fun s' p a b=>by
  obtain ⟨x,hx,rfl⟩:=List.mem_map.1 a
  obtain ⟨_,c1,e1,a2,_⟩:=h.lie x.1 x.2 hx p b
  exact (Array.getElem?_eq_some_iff.1 a2).1
 have hfz:ι.fz w.heap.size=none:=by
  cases hf:ι.fz w.heap.size with
  | none=>rfl
  | some f =>
   obtain ⟨c,e,fr,k1,_⟩:=h.frz _ f hf
   have:=(Array.getElem?_eq_some_iff.1 k1).1;omega
 refine ⟨h.nodup,fun s' cs' hm' p hp=>?_,fun a b ha hb p p' hp hp' e=>?_,fun b f hf=>?_,fun a ha p hp=>?_,h.nwb⟩
 ·simp only [Inj.put] at hp
  split at hp
  ·rename_i e;subst e
   obtain rfl:=Option.some.inj hp
   have:cs'=cells:=zd6 h.nodup hm' hm
   subst this
   exact ⟨hB,vals,ety,z6v w _,rfl,by simpa using hl,by simpa using hc⟩
  ·obtain ⟨a1,c1,e1,a2,a3,a4,a5⟩:=h.lie s' cs' hm' p hp
   exact ⟨a1,c1,e1,z29 w _ a2,a3,a4,a5.mono hle⟩
 ·simp only [Inj.put] at hp hp'
  split at hp<;>split at hp'
  ·simp_all
  ·obtain rfl:=Option.some.inj hp
   have:=hlt b p' hb hp'
   simp only at e;omega
  ·obtain rfl:=Option.some.inj hp'
   have:=hlt a p ha hp
   simp only at e;omega
  ·exact h.inj a b ha hb p p' hp hp' e
 ·obtain ⟨c,e,fr,k1,k2⟩:=h.frz b f hf
  exact ⟨c,e,fr,z29 w _ k1,k2⟩
 ·simp only [Inj.put] at hp
  split at hp
  ·obtain rfl:=Option.some.inj hp;exact hfz
  ·exact h.apart a ha p hp
theorem SimN.new {ι:Inj} {B:Nat} {w:World} {ns:Nodes} {s:Stamp} {cells:List C} {vals:Array Value} {ety:TypeId}
  (h:SimN ι B w.heap ns) (hs:ι.at_ s=none) (hn:s∉stamps ns) (hB:B≤w.heap.size) (hc:RCs (ι.put s ⟨w.heap.size,0,vals.size⟩) cells vals.toList) (hl:cells.length≤vals.size) :
  SimN (ι.put s ⟨w.heap.size,0,vals.size⟩) B (w.alloc (.cells vals ety)).heap ((s,cells)::ns) :=
 (h.virtual cells hs hn).give (List.mem_cons_self ..) hs hB hc hl
theorem SimN.newFrozen {ι:Inj} {B:Nat} {w:World} {ns:Nodes} (h:SimN ι B w.heap ns) (hB:B≤w.heap.size) (vals:Array Value) (ety:TypeId) (fr:Nat×Nat) :
  SimN (ι.freezeN w.heap.size vals.toList) B (w.alloc (.cells vals ety fr)).heap ns∧ι.Le (ι.freezeN w.heap.size vals.toList):=by
 have hfz:ι.fz w.heap.size=none:=by
  cases hf:ι.fz w.heap.size with
  | none=>rfl
  | some f =>
   obtain ⟨c,e,fr,k1,_⟩:=h.frz _ f hf
   have:=(Array.getElem?_eq_some_iff.1 k1).1;omega
 have hle0:=Inj.Le.freeze hfz vals.toList
 have hle:ι.Le (ι.freezeN w.heap.size vals.toList):=⟨hle0.at_,hle0.fz,fun b hb=>by simp [Inj.freezeN,hb]⟩
 refine ⟨⟨h.nodup,fun s cs hm p hp=>?_,h.inj,fun b f hf=>?_,fun a ha p hp=>?_,fun b hb=>?_⟩,hle⟩
 ·obtain ⟨a1,c1,e1,a2,a3,a4,a5⟩:=h.lie s cs hm p hp
  exact ⟨a1,c1,e1,z29 w _ a2,a3,a4,a5.mono hle⟩
 ·simp only [Inj.freezeN,Inj.freeze] at hf
  split at hf
  ·rename_i e;subst e
   obtain rfl:=Option.some.inj hf
   exact ⟨vals,ety,fr,z6v w _,rfl⟩
  ·obtain ⟨c,e,fr',k1,k2⟩:=h.frz b f hf
   exact ⟨c,e,fr',z29 w _ k1,k2⟩
 ·simp only [Inj.freezeN,Inj.freeze]
  split
  ·rename_i e
   obtain ⟨x,hx,rfl⟩:=List.mem_map.1 ha
   obtain ⟨_,c1,e1,a2,_⟩:=h.lie x.1 x.2 hx p hp
   have:=(Array.getElem?_eq_some_iff.1 a2).1
   omega
  ·exact h.apart a ha p hp
 ·simp only [Inj.freezeN,Bool.or_eq_true,beq_iff_eq] at hb
  rcases hb with rfl | hb
  ·exact hB
  ·exact h.nwb b hb
theorem SimN.freeze {ι:Inj} {B:Nat} {hp:Array Obj} {ns:Nodes} {s:Stamp} {cells:List C} {p:Pos} {c:Array Value} {ety:TypeId}
  (h:SimN ι B hp ((s,cells)::ns)) (hs:ι.at_ s=some p) (hb:hp[p.blk]?=some (.cells c ety (0,0))) :
  SimN (ι.freeze p.blk c.toList) B hp ns∧ι.Le (ι.freeze p.blk c.toList):=by
 have hle:=Inj.Le.freeze (h.apart s (List.mem_cons_self ..) p hs) c.toList
 have nd:=h.nodup
 simp only [stamps,List.map_cons,List.nodup_cons] at nd
 have k:=h.part (Part.right [(s,cells)] ns)
 refine ⟨⟨k.nodup,fun s' cs' hm p' hp'=>?_,k.inj,fun b f hf=>?_,fun a ha p' hp'=>?_,k.nwb⟩,hle⟩
 ·obtain ⟨a1,c1,e1,a2,a3,a4,a5⟩:=k.lie s' cs' hm p' hp'
  exact ⟨a1,c1,e1,a2,a3,a4,a5.mono hle⟩
 ·simp only [Inj.freeze] at hf
  split at hf
  ·rename_i e;subst e
   obtain rfl:=Option.some.inj hf
   exact ⟨c,ety,(0,0),hb,rfl⟩
  ·exact h.frz b f hf
 ·simp only [Inj.freeze]
  split
  ·rename_i e
   have:=h.inj a s (List.mem_cons_of_mem _ ha) (List.mem_cons_self ..) p' p hp' hs e
   subst this;exact absurd ha nd.1
  ·exact k.apart a ha p' hp'
theorem SimN.restamp {ι:Inj} {B:Nat} {hp:Array Obj} {ns:Nodes} {s s':Stamp} {cells cells':List C} {p:Pos} {o:Nat}
  (h:SimN ι B hp ((s,cells)::ns)) (hs:ι.at_ s=some p) (hs':ι.at_ s'=none) (hn:s'∉stamps ns) (hc:∀ (i:Nat) c,cells'[i]?=some c→cells[o+i]?=some c) (hl:o+cells'.length≤cells.length) :
  SimN (ι.put s' ⟨p.blk,p.off+o,p.tot⟩) B hp ((s',cells')::ns):=by
 have hle:=Inj.Le.put hs' ⟨p.blk,p.off+o,p.tot⟩
 have nd:=h.nodup
 simp only [stamps,List.map_cons,List.nodup_cons] at nd
 have k:=h.part (Part.right [(s,cells)] ns)
 refine ⟨by simpa [stamps] using ⟨by simpa [stamps] using hn,k.nodup⟩,fun s1 cs1 hm p1 hp1=>?_,fun a b ha hb p1 p2 hp1 hp2 e=>?_,h.frz,fun a ha p1 hp1=>?_,h.nwb⟩
 ·simp only [List.mem_cons,Prod.mk.injEq] at hm
  rcases hm with ⟨rfl,rfl⟩ | hm
  ·rw [Inj.put_same] at hp1
   obtain rfl:=Option.some.inj hp1
   obtain ⟨a1,c1,e1,a2,a3,a4,a5⟩:=h.lie s cells (List.mem_cons_self ..) p hs
   refine ⟨a1,c1,e1,a2,a3,by simp only;omega,fun i c hci=>?_⟩
   obtain ⟨u,hu,r⟩:=a5 (o+i) c (hc i c hci)
   refine ⟨u,?_,r.mono hle⟩
   simp only [List.getElem?_drop] at hu ⊢
   rw [show p.off+o+i=p.off+(o+i) by omega];exact hu
  ·have hne:s1≠s':=fun e=>hn (List.mem_map.2 ⟨_,hm,e⟩)
   simp only [Inj.put,if_neg hne] at hp1
   obtain ⟨a1,c1,e1,a2,a3,a4,a5⟩:=k.lie s1 cs1 hm p1 hp1
   exact ⟨a1,c1,e1,a2,a3,a4,a5.mono hle⟩
 ·simp only [stamps,List.map_cons,List.mem_cons] at ha hb
  rcases ha with ea | ha
  ·rcases hb with eb | hb
   ·exact ea.trans eb.symm
   ·have hne:b≠s':=fun e=>hn (e▸hb)
    rw [ea,Inj.put_same] at hp1
    obtain rfl:=Option.some.inj hp1
    rw [Inj.put_ne _ hne] at hp2
    have:=h.inj s b (List.mem_cons_self ..) (List.mem_cons_of_mem _ hb) p p2 hs hp2 e
    subst this;exact absurd hb nd.1
  ·have hna:a≠s':=fun e=>hn (e▸ha)
   rw [Inj.put_ne _ hna] at hp1
   rcases hb with eb | hb
   ·rw [eb,Inj.put_same] at hp2
    obtain rfl:=Option.some.inj hp2
    have:=h.inj a s (List.mem_cons_of_mem _ ha) (List.mem_cons_self ..) p1 p hp1 hs e
    subst this;exact absurd ha nd.1
   ·have hne:b≠s':=fun e=>hn (e▸hb)
    rw [Inj.put_ne _ hne] at hp2
    exact k.inj a b ha hb p1 p2 hp1 hp2 e
 ·simp only [stamps,List.map_cons,List.mem_cons] at ha
  rcases ha with ea | ha
  ·rw [ea,Inj.put_same] at hp1
   obtain rfl:=Option.some.inj hp1
   exact h.apart s (List.mem_cons_self ..) p hs
  ·have hna:a≠s':=fun e=>hn (e▸ha)
   rw [Inj.put_ne _ hna] at hp1
   exact k.apart a ha p1 hp1
end Go.Ev
namespace Go.Ev
set_option linter.unusedVariables false

def constV:Value→V
 | .agg cs=>.agg (cs.toList.map .p)
 | .func (.func f) a b=>if a.size=0∧b.size=0 then .clo f [] else .p (.func (.func f) a b)
 | .tuple a=>if a.size=0 then .tup [] else .p (.tuple a)
 | v=>.p v
def opd (e:Env):Operand→V
 | .tmp t=>e t
 | .const v=>constV v
 | .global g=>.p (.pointer (some ⟨g,0,none⟩))
 | .func f=>.clo f []

def isPure:Op→Bool
 | .move _ | .assign _ | .pick .. | .build .. | .buildSlice .. | .load .. | .nilCheck _ | .binOp .. | .unOp .. | .convert .. | .fieldAddr .. | .field ..
 | .indexAddr .. | .index .. | .slice .. | .extract .. | .makeFunc ..=>true
 | .call { callee:=.builtin b,.. }=>(match b with | .len | .min | .max | .cap=>true | _=>false)
 | _=>false
def usesH:Op→Bool
 | .load .. | .convert .. | .slice ..=>true
 | .binOp .eql .. | .binOp .neq ..=>true
 | _=>false
def z2j:Op→Bool | .alloc _=>true | _=>false

def callP (P:Program) (e:Env) (c:Call):Option V :=
 match c.callee with
 | .builtin .len=>(match c.args.toList,c.argTypes.toList with | [x],t::_=>lenV P t (opd e x) | _,_=>none)
 | .builtin .cap=>(match c.args.toList,c.argTypes.toList with | [x],t::_=>capV P t (opd e x) | _,_=>none)
 | .builtin .min=>minV (c.args.toList.map (opd e))
 | .builtin .max=>maxV (c.args.toList.map (opd e))
 | _=>none
def pureV (P:Program) (e:Env) (h:H) (o:Op):Option V :=
 match o with
 | .move x | .assign x=>some (opd e x)
 | .pick c a b=>pickV (opd e c) (opd e a) (opd e b)
 | .build t parts=>buildV P t (parts.toList.map fun q=>(q.1,opd e q.2))
 | .buildSlice t n parts=>bSV P t n (parts.toList.map fun q=>(q.1,opd e q.2))
 | .load t a=>ldV P h t (opd e a)
 | .nilCheck x=>nilChk (opd e x)
 | .binOp op t x y _=>binV P h op t (opd e x) (opd e y)
 | .unOp op _ x=>unV op (opd e x)
 | .convert a b x=>convV P h a b (opd e x)
 | .fieldAddr t x f=>fldA P t (opd e x) f
 | .field t x f=>fldV P t (opd e x) f
 | .indexAddr t x i=>idxA P t (opd e x) (opd e i)
 | .index t x i=>idxV P t (opd e x) (opd e i)
 | .slice t x lo hi mx=>slcV P h t (opd e x) (lo.map (opd e)) (hi.map (opd e)) (mx.map (opd e))
 | .extract t i=>extV (opd e t) i
 | .makeFunc (.func f) first caps=>if first.size=0 then some (.clo f (caps.toList.map (opd e))) else none
 | .call c=>callP P e c
 | _=>none

abbrev CallF:=FuncId→Stamp→List V→H→Option (List C×H)
abbrev LoopF:=Code→Stamp→Env→H→Option (Exit×Env×H)

def resVs (h:H) (d:Nat):Nat→List C→List V
 | _,[]=>[]
 | j,c::cs=>(match c with
   | .v x=>x
   | .own s _=>.ref ⟨top h,d,j,s,[]⟩ 0
   | .arr s n e _=>.sl ⟨top h,d,j,s,[]⟩ 0 n n e
   | _=>udf)::resVs h d (j+1) cs
def tupV:List V→V | [x]=>x | xs=>.tup xs
def z3z:List C→Bool
 | []=>true
 | .v _::cs=>z3z cs
 | _=>false
def land (h:H) (d:Option Nat) (cs:List C):V×H :=
 match d with
 | some d=>(tupV (resVs h d 0 cs),match z3z cs with | true=>h | false=>zf h d cs)
 | none=>(udf,h)
def isF:Operand→Bool | .func _=>true | _=>false
def callE (G:Cfg) (rec:CallF) (σ:Stamp) (e:Env) (h:H) (c:Call) (d:Option Nat):Option (V×H) :=
 match c.callee with
 | .builtin .append=>(match c.args.toList,c.argTypes.toList,d with | [x,y],[t,t'],some d=>z7p G σ d h t t' (opd e x) (opd e y) | _,_,_=>none)
 | .builtin .copy=>(match c.args.toList,c.argTypes.toList with | [x,y],t::_=>copyV G h t (opd e x) (opd e y) | _,_=>none)
 | .builtin .clear=>(match c.args.toList,c.argTypes.toList with | [x],t::_=>clearV G h t (opd e x) | _,_=>none)
 | .value f =>
  (match opd e f with
   | .clo g caps=>(frzIf (isF f&&G.frzIn g) h (c.args.toList.map (opd e)++caps)).bind fun q=>(rec g σ q.1 q.2).map fun r=>land r.2 d r.1
   | _=>none)
 | _=>none
def effV (G:Cfg) (rec:CallF) (σ:Stamp) (e:Env) (h:H) (o:Oper):Option (V×H) :=
 match o.op,o.dst with
 | .alloc t,some d=>allocV G σ d h t
 | .box t x,some d=>boxV G σ d h t (opd e x)
 | .makeSlice t n c,some d=>z6o G σ d h t (opd e n) (opd e c)
 | .store t a x,_=>(stV G σ h t (opd e a) (opd e x)).map fun h=>(udf,h)
 | .call c,d=>callE G rec σ e h c d
 | _,_=>none

def zi (ops:Array Oper) (o:Oper):Option (Option (Nat×Bool)) :=
 match o.guard with
 | none=>some none
 | some (j,want)=>match (ops[j]?).bind (·.dst) with | some d=>some (some (d,want)) | none=>none
def pureG (P:Program) (ops:Array Oper) (e:Env) (h:H) (o:Oper):Option V :=
 match zi ops o with
 | some none=>pureV P e h o.op
 | some (some (d,want))=>gd (e d) want (pureV P e h o.op)
 | none=>none
def effG (G:Cfg) (rec:CallF) (ops:Array Oper) (σ:Stamp) (e:Env) (h:H) (o:Oper):Option (V×H) :=
 match zi ops o with
 | some none=>effV G rec σ e h o
 | some (some (d,want))=>gdE (e d) want h (effV G rec σ e h o)
 | none=>none

def evOps {α:Type} (G:Cfg) (rec:CallF) (all:Array Oper) (σ:Stamp) (k:Env→H→Option α):Nat→List Oper→Env→H→Option α
 | _,[],e,h=>k e h
 | i,o::os,e,h =>
  match isPure o.op with
  | true=>(pureG G.P all e h o).bind fun v=>evOps G rec all σ k (i+1) os (put e o.dst v) h
  | false=>(effG G rec all (i::σ) e h o).bind fun r=>evOps G rec all σ k (i+1) os (put e o.dst r.1) r.2

def rowOf (n P i:Nat):Nat:=(P >>> (i*n)) &&& (2^n-1)
def edgesM (n P:Nat):List Edge→Nat→Nat
 | [],s=>s
 | e::es,s=>edgesM n P es (match Region.binds .any e with | true=>s ||| 2^e.on ||| rowOf n P e.on | false=>s)
def packGo (n:Nat):Nat→Nat→List Oper→Nat
 | _,P,[]=>P
 | i,P,o::os=>packGo n (i+1) (P ||| (edgesM n P o.after.toList 0 <<< (i*n))) os
def packed (ops:Array Oper):Nat:=packGo ops.size 0 0 ops.toList
def anc (ops:Array Oper) (i:Nat):Nat:=rowOf ops.size (packed ops) i
def earlyB (ops:List Oper):Nat→Operand→Bool
 | 0,_=>false
 | n+1,.const _=>true
 | n+1,.tmp t=>(match ops.find? (fun o=>o.dst==some t) with
  | none=>true
  | some o=>o.guard.isNone&&(match o.op with
   | .move x | .assign x=>earlyB ops n x
   | .build _ parts=>parts.toList.isEmpty
   | _=>false))
 | _,_=>false
def earlyV (P:Program) (ops:List Oper) (e:Env):Nat→Operand→V
 | 0,_=>udf
 | n+1,.const v=>constV v
 | n+1,.tmp t=>(match ops.find? (fun o=>o.dst==some t) with
  | none=>e t
  | some o=>(match o.op with
   | .move x | .assign x=>earlyV P ops e n x
   | .build t _=>(buildV P t []).getD udf
   | _=>udf))
 | _,_=>udf
def isMake (ops:Array Oper) (o:Oper):Bool :=
 o.dst.isSome&&(match o.op with
  | .box _ x=>earlyB ops.toList 4 x
  | .makeSlice _ n c=>earlyB ops.toList 4 n&&earlyB ops.toList 4 c
  | _=>false)
def isMk (b:Bool) (ops:Array Oper) (o:Oper):Bool:=(z2j o.op||(b&&isMake ops o))&&o.guard.isNone
def litV:V→Bool | .p v=>leafB v | _=>false
abbrev Made:=List V×Option (Nat×Nat×Nat)
def mkOf (G:Cfg) (op:Op) (val:Operand→V):Option Made :=
 match op with
 | .box t x=>match (val x).cells.all litV with | true=>some ((val x).cells,none) | false=>none
 | .makeSlice t n c =>
  (match G.frzMk t with
  | true=>none
  | false=>(telem G.P t).bind fun e=>(tzero G.P e).bind fun z=>(asI (val n)).bind fun n=>(asI (val c)).bind fun c =>
   if 0≤n∧n≤c∧c*tbytes G.P e≤2^47∧c<2^62∧z.length=tsize G.P e∧tsize G.P e≠0 then some (rept n.toNat z,some (n.toNat,c.toNat,tsize G.P e)) else none)
 | _=>none
def mkC (s:Stamp):Made→C
 | (cs,none)=>.own s (cs.map .v)
 | (cs,some (n,_,z))=>.arr s n z (cs.map .v)
def mkV' (l:Loc):Made→V
 | (_,none)=>.ref l 0
 | (_,some (n,c,z))=>.sl l 0 n c z
abbrev Mk:=Nat→Option Made
def mkAt (G:Cfg) (ops:Array Oper) (e:Env):Mk:=fun i=>mkOf G (ops.getD i default).op (earlyV G.P ops.toList e 4)
def effB (b:Bool) (ops:Array Oper) (o:Oper):Bool:=!isPure o.op&&!isMk b ops o
def infos:Nat→List Oper→List (Nat×Oper)
 | _,[]=>[]
 | i,o::os=>(i,o)::infos (i+1) os
def readyP (b:Bool) (ops:Array Oper) (done:Nat) (eff:Bool):List (Nat×Oper)→Option Nat
 | []=>none
 | (i,o)::l=>match effB b ops o==eff&&(!done.testBit i&&(anc ops i &&& done==anc ops i)) with | true=>some i | false=>readyP b ops done eff l
def ordGo (b:Bool) (ops:Array Oper):Nat→Nat→List Nat
 | 0,_=>[]
 | fuel+1,done =>
  match readyP b ops done false (infos 0 ops.toList) with
  | some i=>i::ordGo b ops fuel (done ||| 2^i)
  | none=>match readyP b ops done true (infos 0 ops.toList) with
   | some i=>i::ordGo b ops fuel (done ||| 2^i)
   | none=>[]
def ordOf (b:Bool) (ops:Array Oper):List Nat:=ordGo b ops ops.size 0
def safeGo (b:Bool) (ops:Array Oper):List Nat→Nat→Nat→Bool
 | [],_,_=>true
 | i::rest,done,effs =>
  (anc ops i &&& done==anc ops i)&&(!done.testBit i&&(decide (i<ops.size) &&
  ((match effB b ops (ops.getD i default)||usesH (ops.getD i default).op with | true=>effs &&& anc ops i==effs | false=>true) &&
  safeGo b ops rest (done ||| 2^i) (match effB b ops (ops.getD i default) with | true=>effs ||| 2^i | false=>effs))))
def zcc (ops:Array Oper) (l:List (Nat×Oper)):Bool :=
 l.all fun q=>(q.2.dst.toList++q.2.looksAt ops).all fun t=>l.all fun r=>r.2.dst != some t||(r.1==q.1||((anc ops q.1).testBit r.1||(anc ops r.1).testBit q.1))
def zex (l:List (Nat×Oper)):Bool:=l.all fun q=>q.2.after.toList.all fun e=>!Region.binds .any e||decide (e.on<q.1)
def z51 (b:Bool) (ops:Array Oper):Bool :=
 zex (infos 0 ops.toList)&&((List.range ops.size).all (fun i=>(ordOf b ops).contains i)&&(safeGo b ops (ordOf b ops) 0 0&&zcc ops (infos 0 ops.toList)))

open Classical in
noncomputable def need {α:Type} (p:Prop) (x:Option α):Option α:=if p then x else none
noncomputable def needs {α:Type} (anc:Nat):List (Nat×(H→Prop))→H→Option α→Option α
 | [],_,x=>x
 | q::ws,h,x=>match anc.testBit q.1 with
  | true=>needs anc ws h x
  | false=>need (q.2 h) (needs anc ws h x)
def slotOf (h:H) (d:Nat):Option (List C):=match h with | L::_=>L[d]? | []=>none
noncomputable def evDraw {α:Type} (b:Bool) (mk:Mk) (G:Cfg) (rec:CallF) (ops:Array Oper) (σ:Stamp) (k:Env→H→Option α):List Nat→List (Nat×(H→Prop))→Env→H→Option α
 | [],_,e,h=>k e h
 | i::rest,ws,e,h =>
  let o:=ops.getD i default
  match isPure o.op,isMk b ops o with
  | true,_=>(pureG G.P ops e h o).bind fun v=>evDraw b mk G rec ops σ k rest (match usesH o.op with | true=>(i,fun h'=>pureG G.P ops e h' o=some v)::ws | false=>ws) (put e o.dst v) h
  | false,true=>(match z2j o.op with
   | true=>evDraw b mk G rec ops σ k rest ws (put e o.dst (match o.dst with | some d=>.ref (newLoc h d (i::σ)) 0 | none=>udf)) h
   | false=>(mk i).bind fun m=>need (mkOf G o.op (opd e)=some m) (evDraw b mk G rec ops σ k rest ws (put e o.dst (match o.dst with | some d=>mkV' (newLoc h d (i::σ)) m | none=>udf)) h))
  | false,false=>(effG G rec ops (i::σ) e h o).bind fun r=>needs (anc ops i) ws r.2 (evDraw b mk G rec ops σ k rest ws (put e o.dst r.1) r.2)
def allocW (b:Bool) (mk:Mk) (ops:Array Oper) (G:Cfg) (σ:Stamp):Nat→List Oper→List (Nat×(H→Prop))
 | _,[]=>[]
 | i,o::os=>match isMk b ops o with
  | true=>(match o.op,o.dst with
   | .alloc t,some d=>(i,fun h=>∃ z,tzero G.P t=some z∧slotOf h d=some [.own (i::σ) (z.map .v)])
   | .alloc t,none=>(i,fun h=>False)
   | _,some d=>(i,fun h=>∃ m,mk i=some m∧slotOf h d=some [mkC (i::σ) m])
   | _,none=>(i,fun h=>False))::allocW b mk ops G σ (i+1) os
  | false=>allocW b mk ops G σ (i+1) os
def z1h (b:Bool) (mk:Mk) (ops:Array Oper) (G:Cfg) (σ:Stamp):Nat→List Oper→H→Option H
 | _,[],h=>some h
 | i,o::os,h =>
  match isMk b ops o with
  | true=>(match o.op,o.dst with
   | .alloc t,some d=>(allocV G (i::σ) d h t).bind fun r=>z1h b mk ops G σ (i+1) os r.2
   | .alloc _,none=>z1h b mk ops G σ (i+1) os h
   | _,some d=>(mk i).bind fun m=>z1h b mk ops G σ (i+1) os (zf h d [mkC (i::σ) m])
   | _,none=>z1h b mk ops G σ (i+1) os h)
  | false=>z1h b mk ops G σ (i+1) os h
def drB (ops:Array Oper):Bool:=!z51 false ops

noncomputable def evC {α:Type} (G:Cfg) (rec:CallF) (loop:LoopF):Code→Stamp→Env→H→(Exit→Env→H→Option α)→Option α
 | .skip,_,e,h,k=>k .normal e h
 | .ret,_,e,h,k=>k .ret e h
 | .exit id,_,e,h,k=>k (.exit id) e h
 | .seq a b,σ,e,h,k=>evC G rec loop a (0::σ) e h fun x e h=>match x with
   | .normal=>evC G rec loop b (1::σ) e h k
   | x=>k x e h
 | .cond c a b,σ,e,h,k=>(asB (opd e c)).bind fun t=>match t with
   | true=>evC G rec loop a σ e h k
   | false=>evC G rec loop b σ e h k
 | .block id c,σ,e,h,k=>evC G rec loop c σ e h fun x e h=>match x with
   | .exit j=>if j=id then k .normal e h else k (.exit j) e h
   | x=>k x e h
 | .loop c,σ,e,h,k=>(loop c σ e h).bind fun r=>k r.1 r.2.1 r.2.2
 | .region _ ops false,σ,e,h,k=>evOps G rec ops σ (k .normal) 0 ops.toList e h
 | .region _ ops true,σ,e,h,k =>
  match z51 (drB ops) ops with
  | true=>(z1h (drB ops) (mkAt G ops e) ops G σ 0 ops.toList h).bind fun h=>needs 0 (allocW (drB ops) (mkAt G ops e) ops G σ 0 ops.toList) h (evDraw (drB ops) (mkAt G ops e) G rec ops σ (k .normal) (ordOf (drB ops) ops) (allocW (drB ops) (mkAt G ops e) ops G σ 0 ops.toList) e h)
  | false=>none
 | _,_,_,_,_=>none

def z1i (P:Program) (e:Env) (h:H):List ResultVar→Option (List V)
 | []=>some []
 | .tmp t::rs=>(z1i P e h rs).map (e t::·)
 | .cell a t::rs=>(ldV P h t (e a)).bind fun x=>(z1i P e h rs).map (x::·)
def expC (σ:Stamp) (h:H) (x:V):Option (C×H) :=
 match x with
 | .ref r off =>
  if r.lvl=top h then
   (match at_ h r with
    | some (.own s cs)=>if off=0 then some (.own s cs,setAt h r .dead) else none
    | _=>none)
  else some (.v x,h)
 | .sl r off len av esz =>
  if r.lvl=top h then
   (match at_ h r with
    | some (.arr s n e cs)=>if e=esz then (rng cs off (len*esz)).bind fun ds=>some (.arr (if off=0 then s else σ) len esz ds,setAt h r .dead) else none
    | _=>none)
  else some (.v x,h)
 | .agg xs=>(frzCs h xs).map fun (ys,h)=>(.v (.agg ys),h)
 | x=>some (.v x,h)
def expF (frz:Bool) (σ:Stamp) (h:H) (x:V):Option (C×H) :=
 match frz,x with
 | true,.sl r off len av esz=>layC false h (.sl r off len av esz)
 | _,x=>expC σ h x
def expCs (frz:Bool) (σ:Stamp):Nat→H→List V→Option (List C×H)
 | _,h,[]=>some ([],h)
 | j,h,x::xs=>(expF frz (j::σ) h x).bind fun (c,h)=>(expCs frz σ (j+1) h xs).map fun (cs,h)=>(c::cs,h)
def fits (n:Nat):Code→Bool
 | .region _ ops _=>ops.toList.all fun o=>match o.dst with | some d=>decide (d<n) | none=>true
 | .seq a b | .cond _ a b=>fits n a&&fits n b
 | .block _ c | .loop c=>fits n c
 | _=>true
def envOf (args:List V):Env:=fun i=>args.getD i udf
def finC (G:Cfg) (frz:Bool) (fn:Func) (σ:Stamp) (x:Exit) (e:Env) (h:H):Option (List C×H) :=
 match x with
 | .normal | .ret=>(z1i G.P e h fn.results.toList).bind fun vs=>(expCs frz σ 0 h vs).map fun (cs,h)=>(cs,h.tail)
 | _=>none
noncomputable def evBody (G:Cfg) (rec:CallF) (loop:LoopF) (f:FuncId) (σ:Stamp) (args:List V) (h:H):Option (List C×H) :=
 match G.P.funcs[f]? with
 | some fn=>(match fn.body with
  | some c => if args.length ≤ fn.ntmps ∧ fits fn.ntmps c = true ∧ (fn.name == "runtime.NumGoroutine") = false then evC G rec loop c (0 :: σ) (envOf args) (List.replicate fn.ntmps [] :: h) (finC G (G.frz f) fn (1 :: σ)) else none
  | none=>none)
 | none=>none
noncomputable def z26 (G:Cfg) (rec:CallF) (loop:LoopF) (c:Code) (σ:Stamp) (e:Env) (h:H):Option (Exit×Env×H) :=
 evC G rec loop c (0::σ) e h fun x e h=>match x with
  | .normal=>loop c (1::σ) e h
  | x=>some (x,e,h)
mutual
noncomputable def kCall (G:Cfg) (X:CallF):Nat→CallF
 | 0=>fun _ _ _ _=>none
 | k+1=>fun f σ args h=>match X f σ args h with
  | some r=>some r
  | none=>evBody G (kCall G X k) (kLoop G X k) f σ args h
noncomputable def kLoop (G:Cfg) (X:CallF):Nat→LoopF
 | 0=>fun _ _ _ _=>none
 | k+1=>fun c σ e h=>z26 G (kCall G X k) (kLoop G X k) c σ e h
end
end Go.Ev
namespace Go.Ev
set_option linter.unusedVariables false
set_option linter.unusedSimpArgs false

section types
variable {P:Program} (w:World)
theorem z11 {t:TypeId} {i:TypeInfo} (h:P.info? t=some i):(typeInfo t).run P w=.ok i w:=by
 simp [typeInfo,h]
theorem zk {t:TypeId} (h:known P t=true):(sizeOf t).run P w=.ok (tsize P t) w:=by
 unfold known at h
 cases hi:P.info? t with
 | none=>simp [hi] at h
 | some i=>simp [sizeOf,z11 w hi,tsize,hi]
theorem zce {t:TypeId} (h:known P t=true):(isAgg t).run P w=.ok (tagg P t) w:=by
 unfold known at h
 cases hu:P.underlying t with
 | none=>simp [hu] at h
 | some d =>
  simp only [isAgg,Sem.run_bind,run_underlying hu,Result.andThen_ok,tagg,hu]
  cases d<;>rfl
theorem zq {t e:TypeId} (h:telem P t=some e):P.underlying t=some (.slice e)∧known P e=true:=by
 unfold telem at h
 split at h
 ·split at h
  ·simp only [Option.some.injEq] at h;subst h;exact ⟨‹_›,‹_›⟩
  ·simp at h
 ·simp at h
theorem z6z {t:TypeId} {q:Nat×TypeId} (h:tarr P t=some q):P.underlying t=some (.array q.1 q.2)∧known P q.2=true:=by
 unfold tarr at h
 split at h
 ·split at h
  ·simp only [Option.some.injEq] at h;subst h;exact ⟨‹_›,‹_›⟩
  ·simp at h
 ·simp at h
theorem z85 {t:TypeId} {f:Nat} {q:Nat×TypeId} (h:tfield P t f=some q):∃ fs g,P.underlying t=some (.struct fs)∧fs[f]?=some g∧g.offset=q.1∧g.type=q.2∧known P q.2=true:=by
 unfold tfield at h
 split at h
 ·rename_i fs hu
  cases hg:fs[f]? with
  | none=>simp [hg] at h
  | some g =>
   simp only [hg,Option.bind_some] at h
   split at h
   ·simp only [Option.some.injEq] at h;subst h;exact ⟨fs,g,hu,hg,rfl,rfl,‹_›⟩
   ·simp at h
 ·simp at h
end types

theorem toV_ok {ι:Inj} {l:Loc} {o:Nat} {c:C} {x:V} {u:Value} (h:toV l o c=some x) (hc:RC ι c u):RV ι x u:=by
 cases c<;>simp only [toV,Option.some.injEq] at h<;>try (simp at h;done)
 ·subst h;cases hc;assumption
 ·subst h
  cases hc with
  | own h=>exact RV.ref (ι:=ι) (l:=l.hop o _) (off:=0) (by rw [z4y];exact h)
 ·subst h
  cases hc with
  | arr h h1 h3 h4=>exact RV.sl (by rw [z4y];exact h) (Nat.le_refl _) h1 (by simpa using h3) h4
theorem z9l {ι:Inj} {l:Loc}:∀ {cs:List C} {o:Nat} {xs:List V} {us:List Value},toVs l o cs=some xs→us.length=cs.length→(∀ (i:Nat) c u,cs[i]?=some c→us[i]?=some u→RC ι c u)→RVs ι xs us
 | [],_,xs,us,h,hl,_=>by
  simp only [toVs,Option.some.injEq] at h;subst h
  have:us=[]:=by simpa using hl
  subst this;exact .nil
 | c::cs,o,xs,us,h,hl,hc=>by
  simp only [toVs] at h
  obtain ⟨x,hx,h⟩:=Option.bind_eq_some_iff.1 h
  obtain ⟨ys,hy,h⟩:=Option.bind_eq_some_iff.1 h
  simp only [Option.some.injEq] at h;subst h
  cases us with
  | nil=>simp at hl
  | cons u us=>exact .cons (toV_ok hx (hc 0 c u rfl rfl)) (z9l hy (by simpa using hl) fun i c u a b=>hc (i+1) c u a b)
theorem z8b {l:Loc}:∀ {cs:List C} {o:Nat} {xs:List V},toVs l o cs=some xs→xs.length=cs.length
 | [],_,xs,h=>by simp only [toVs,Option.some.injEq] at h;subst h;rfl
 | c::cs,o,xs,h=>by
  simp only [toVs] at h
  obtain ⟨x,hx,h⟩:=Option.bind_eq_some_iff.1 h
  obtain ⟨ys,hy,h⟩:=Option.bind_eq_some_iff.1 h
  simp only [Option.some.injEq] at h;subst h
  simp [z8b hy]
theorem z3a {α:Type} {xs ys:List α} {o n:Nat} (h:rng xs o n=some ys):o+n≤xs.length∧ys=(xs.drop o).take n∧ys.length=n:=by
 unfold rng at h
 split at h
 ·simp only [Option.some.injEq] at h;subst h;exact ⟨‹_›,rfl,by simp;omega⟩
 ·simp at h
theorem mkV_ok {ι:Inj} {agg:Bool} {xs:List V} {us:List Value} {v:V} (h:mkV agg xs=some v) (hr:RVs ι xs us):∃ u,RV ι v u∧(if agg then u=.agg us.toArray else us=[u]):=by
 cases agg with
 | true=>simp only [mkV,if_true,Option.some.injEq] at h;subst h;exact ⟨_,.agg (by simpa using hr),by simp⟩
 | false =>
  simp only [mkV,Bool.false_eq_true,if_false] at h
  cases hr with
  | nil=>simp at h
  | cons hx ht =>
   cases ht with
   | nil=>simp only [Option.some.injEq] at h;subst h;exact ⟨_,hx,by simp⟩
   | cons=>simp at h

def z5w (w:World) (b o:Nat) (us:List Value):Prop:=∀ (j:Nat) u,us[j]?=some u→w.cell? ⟨b,o+j,none⟩=some u
theorem z4v {w:World} {b i:Nat} {c:Array Value} {e:TypeId} {fr:Nat×Nat} (h:w.heap[b]?=some (.cells c e fr)):w.cell? ⟨b,i,none⟩=c[i]?:=by
 simp [World.cell?,h]
theorem z25 {w:World} {b i:Nat} {c:Array Value} {e:TypeId} (h:w.heap[b]?=some (.cells c e (0,0))):w.frozen? ⟨b,i,none⟩=false:=by
 simp [World.frozen?,h]
theorem z4b {P:Program} {w:World} {t:TypeId} {b o:Nat} {us:List Value} {u:Value} (hk:known P t=true) (hc:z5w w b o us)
  (hl:us.length=if tagg P t then tsize P t else 1) (hu:if tagg P t then u=.agg us.toArray else us=[u]):(loadVar t ⟨b,o,none⟩).run P w=.ok u w:=by
 simp only [loadVar,Sem.run_bind,zce w hk,Result.andThen_ok]
 cases ht:tagg P t with
 | true =>
  simp only [ht,if_true] at hl hu ⊢
  have:=run_loadCells_list (P:=P) (w:=w) ⟨b,o,none⟩ us (fun j v hj=>by rw [Addr.add_lit];exact hc j v hj)
  simp only [Sem.run_bind,zk w hk,Result.andThen_ok]
  rw [← hl,this]
  simp [hu]
 | false =>
  simp only [ht,Bool.false_eq_true,if_false] at hl hu ⊢
  subst hu
  have:=hc 0 u rfl
  simp only [Nat.add_zero] at this
  simp [this]
theorem z6h {ι:Inj} {B:Nat} {w:World} {h:H} (hS:SimN ι B w.heap (nodesH h)) {l:Loc} {cs:List C} (hn:nd h l=some cs) {p:Pos} (hp:ι.at_ l.last=some p) {off n:Nat} (hl:off+n≤cs.length) :
  ∃ us:List Value,us.length=n∧z5w w p.blk (p.off+off) us∧∀ (i:Nat) c u,((cs.drop off).take n)[i]?=some c→us[i]?=some u→RC ι c u:=by
 obtain ⟨rest,hd,_⟩:=z2b hn
 obtain ⟨hB,ca,ety,hb,hsz,hle,hcs⟩:=hS.lie l.last (cs.map sh) (hd.symm.subset (List.mem_cons_self ..)) p hp
 simp only [List.length_map] at hle
 refine ⟨(ca.toList.drop (p.off+off)).take n,by simp;omega,fun j u hj=>?_,fun i c u hc hu=>?_⟩
 ·have hjn:j<n:=by have:=(List.getElem?_eq_some_iff.1 hj).1;simp at this;omega
  rw [List.getElem?_take_of_lt hjn,List.getElem?_drop] at hj
  rw [z4v hb,← Array.getElem?_toList];exact hj
 ·have hin:i<n:=by have:=(List.getElem?_eq_some_iff.1 hc).1;simp at this;omega
  rw [List.getElem?_take_of_lt hin,List.getElem?_drop] at hc hu
  have h1:(cs.map sh)[off+i]?=some (sh c):=by rw [List.getElem?_map,hc];rfl
  obtain ⟨v,hv,r⟩:=hcs _ _ h1
  rw [List.getElem?_drop,← Nat.add_assoc] at hv
  rw [hv] at hu
  obtain rfl:=Option.some.inj hu
  exact r.of_sh
theorem zah {ι:Inj} {B:Nat} {w:World} {ns:Nodes} (hS:SimN ι B w.heap ns) {b:Nat} {f:List Value} (hf:ι.fz b=some f) (o n:Nat):z5w w b o ((f.drop o).take n):=by
 obtain ⟨c,e,fr,hb,rfl⟩:=hS.frz b f hf
 intro j u hj
 have hjn:j<n:=by have:=(List.getElem?_eq_some_iff.1 hj).1;simp at this;omega
 rw [List.getElem?_take_of_lt hjn,List.getElem?_drop] at hj
 rw [z4v hb,← Array.getElem?_toList];exact hj
theorem ld_ok {P:Program} {ι:Inj} {B:Nat} {w:World} {h:H} (hS:SimN ι B w.heap (nodesH h)) {t:TypeId} {a v:V} {u:Value} (ha:RV ι a u) (hv:ldV P h t a=some v) :
  ∃ r,(Instr.loadAt t u).run P w=.ok r w∧RV ι v r:=by
 unfold ldV at hv
 split at hv
 ·simp at hv
 ·rename_i hk
  simp only [Bool.not_eq_true,Bool.not_eq_false'] at hk
  split at hv
  ·rename_i l off
   obtain ⟨cs,hn,hv1⟩:=Option.bind_eq_some_iff.1 hv
   obtain ⟨ds,hr,hv2⟩:=Option.bind_eq_some_iff.1 hv1
   obtain ⟨xs,hx,hv3⟩:=Option.bind_eq_some_iff.1 hv2
   clear hv hv1 hv2
   obtain ⟨h1,h2,h3⟩:=z3a hr
   cases ha with
   | ref hp =>
    obtain ⟨us,k1,k2,k3⟩:=z6h hS hn hp h1
    subst h2
    have hvs:=z9l hx (by rw [k1,h3]) k3
    obtain ⟨r,r1,r2⟩:=mkV_ok hv3 hvs
    exact ⟨r,by simp [Instr.loadAt,Instr.sureAddr,z4b hk k2 k1 r2],r1⟩
  ·rename_i cs
   obtain ⟨ds,hr,hv⟩:=Option.bind_eq_some_iff.1 hv
   obtain ⟨h1,h2,h3⟩:=z3a hr
   cases ha with
   | fzp hf hc =>
    rename_i b o f
    subst h2
    simp only [Nat.zero_add,List.drop_zero] at h1 h3 hv
    have hc':=hc.take (if tagg P t then tsize P t else 1)
    rw [List.take_take,Nat.min_eq_left h1] at hc'
    obtain ⟨r,r1,r2⟩:=mkV_ok hv hc'
    exact ⟨r,by simp [Instr.loadAt,Instr.sureAddr,z4b hk (zah hS hf o _) (by rw [hc'.length,h3]) r2],r1⟩
  ·simp at hv
end Go.Ev
namespace Go.Ev
set_option linter.unusedVariables false
set_option linter.unusedSimpArgs false

def RE (ι:Inj) (e:Env) (a:Act):Prop:=∀ i,RV ι (e i) (a.tmps.getD i undef)
theorem RE.mono {ι ι':Inj} (hι:ι.Le ι') {e:Env} {a:Act} (h:RE ι e a):RE ι' e a:=fun i=>(h i).mono hι
theorem zdd (ι:Inj) (v:Value):RV ι (constV v) v:=by
 cases v<;>try exact .p _
 ·rename_i f a b
  cases f<;>try exact .p _
  simp only [constV]
  split
  ·rename_i h
   obtain rfl:=Array.size_eq_zero_iff.1 h.1
   obtain rfl:=Array.size_eq_zero_iff.1 h.2
   exact .clo .nil
  ·exact .p _
 ·exact .agg (.plain _)
 ·rename_i a
  simp only [constV]
  split
  ·rename_i h
   obtain rfl:=Array.size_eq_zero_iff.1 h
   exact .tup .nil
  ·exact .p _
theorem opd_ok {ι:Inj} {e:Env} {a:Act} (h:RE ι e a) (x:Operand):RV ι (opd e x) (a.eval x):=by
 cases x with
 | tmp t=>exact h t
 | const v=>exact zdd ι v
 | global g=>exact .p _
 | func f=>exact .clo .nil
theorem z7r {ι:Inj} {e:Env} {a:Act} (h:RE ι e a) (xs:List Operand):RVs ι (xs.map (opd e)) (xs.map a.eval):=by
 induction xs with
 | nil=>exact .nil
 | cons x xs ih=>exact .cons (opd_ok h x) ih
theorem put_ok {ι:Inj} {e:Env} {a:Act} (h:RE ι e a) {v:V} {u:Value} (hv:RV ι v u) (d:Option Nat) (hd:∀ i,d=some i→i<a.tmps.size):RE ι (put e d v) (a.put d u):=by
 cases d with
 | none=>exact h
 | some d =>
  intro i
  have hlt:=hd d rfl
  simp only [put,upd,Act.put]
  split
  ·rename_i e1;subst e1
   simpa [Array.getD,hlt] using hv
  ·rename_i e1
   have:=h i
   simp only [Array.getD_eq_getD_getElem?] at this ⊢
   rw [Array.getElem?_setIfInBounds_ne (by omega)];exact this

theorem asB_ok {ι:Inj} {x:V} {b:Bool} {u:Value} (h:asB x=some b) (hr:RV ι x u):u=.bool b:=by
 unfold asB at h
 split at h
 ·simp only [Option.some.injEq] at h;subst h;cases hr;rfl
 ·simp at h
theorem asI_ok {ι:Inj} {x:V} {n:Int} {u:Value} (h:asI x=some n) (hr:RV ι x u):∃ k,u=.int k n:=by
 unfold asI at h
 split at h
 ·simp only [Option.some.injEq] at h;subst h;cases hr;exact ⟨_,rfl⟩
 ·simp at h
theorem z6f {ι:Inj} {x:V} {u:Value} (hr:RV ι x u):RVs ι x.cells u.cells.toList:=by
 cases hr with
 | p=>cases u<;>first | exact .cons (.p _) .nil | exact .plain _
 | agg h=>exact h
 | ref h=>exact .cons (.ref h) .nil
 | sl h h1 h2 h3 h4=>exact .cons (.sl h h1 h2 h3 h4) .nil
 | fz0 b=>exact .cons (.fz0 b) .nil
 | fz h h1 ht hl hc=>exact .cons (.fz h h1 ht hl hc) .nil
 | fzp h hc=>exact .cons (.fzp h hc) .nil
 | clo h=>exact .cons (.clo h) .nil
 | tup h=>exact .cons (.tup h) .nil

section
variable {P:Program} {ι:Inj} {B:Nat} {w:World} {h:H}

def NotNil:Value→Prop
 | .pointer none | .nilIface | .nilFunc=>False
 | .func (.method _) _ _=>False
 | _=>True
theorem nil_ok {x v:V} {u:Value} (hv:nilChk x=some v) (hr:RV ι x u):v=x∧NotNil u:=by
 unfold nilChk at hv
 cases x<;>simp only [Option.some.injEq] at hv<;>first
  | (subst hv;cases hr;exact ⟨rfl,trivial⟩)
  | (exact absurd hv (by simp))

theorem zew {op:BinOp} {k:IntKind} {a b:Int} {v:V} (t:TypeId) (hv:intBin op k a b=some v):∃ r,(binOp op t (.int k a) (.int k b)).run P w=.ok r w∧RV ι v r:=by
 unfold intBin at hv
 cases op<;>simp only [Option.some.injEq] at hv<;>try (simp at hv;done)
 case quo =>
  split at hv
  ·simp at hv
  ·simp only [Option.some.injEq] at hv;subst hv
   exact ⟨_,by simp [binOp,Op.intDiv, *]<;>rfl,.p _⟩
 case rem =>
  split at hv
  ·simp at hv
  ·simp only [Option.some.injEq] at hv;subst hv
   exact ⟨_,by simp [binOp,Op.intDiv, *]<;>rfl,.p _⟩
 all_goals subst hv
 all_goals first
  | exact ⟨_,by simp [binOp,Op.intArith];rfl,.p _⟩
  | exact ⟨_,by simp [binOp,Op.intCmp];rfl,.p _⟩
  | exact ⟨_,by simp [binOp,Op.intBits];rfl,.p _⟩
theorem za0 {op:BinOp} {k:IntKind} {a b:Int} {v:V} (t:TypeId) (hop:op=.shl∨op=.shr) (hv:shiftV op k a b=some v):∃ r,(∀ yk,(binOp op t (.int k a) (.int yk b)).run P w=.ok r w)∧RV ι v r:=by
 unfold shiftV at hv
 split at hv
 ·simp at hv
 ·rename_i hb
  rcases hop with rfl | rfl<;>simp only [Option.some.injEq] at hv<;>subst hv
  ·exact ⟨_,fun yk=>by simp [binOp,Op.shift,hb]<;>rfl,.p _⟩
  ·exact ⟨_,fun yk=>by simp [binOp,Op.shift,hb]<;>rfl,.p _⟩
theorem zey {op:BinOp} {a b:ByteArray} {v:V} (t:TypeId) (hv:strBin op a b=some v):∃ r,(binOp op t (.string a) (.string b)).run P w=.ok r w∧RV ι v r:=by
 unfold strBin at hv
 cases op<;>simp only [Option.some.injEq] at hv<;>try (simp at hv;done)
 case add =>
  split at hv
  ·simp at hv
  ·rename_i hlt
   simp only [Option.some.injEq] at hv;subst hv
   refine ⟨.string (a++b),?_,.p _⟩
   simp only [binOp,Op.stringOp]
   rw [if_neg hlt];rfl
 all_goals subst hv
 all_goals exact ⟨_,by simp [binOp,Op.stringOp]<;>rfl,.p _⟩

theorem zc6 (hS:SimN ι B w.heap (nodesH h)) {l l':Loc} {o o':Nat} {p p':Pos} (hl:(nd h l).isSome=true) (hl':(nd h l').isSome=true) (hp:ι.at_ l.last=some p) (hp':ι.at_ l'.last=some p') :
  (sameAddr ⟨p.blk,p.off+o,none⟩ ⟨p'.blk,p'.off+o',none⟩).run P w=.ok (decide (l.last=l'.last∧o=o')) w:=by
 obtain ⟨cs,hn⟩:=Option.isSome_iff_exists.1 hl
 obtain ⟨cs',hn'⟩:=Option.isSome_iff_exists.1 hl'
 obtain ⟨r1,d1,_⟩:=z2b hn
 obtain ⟨r2,d2,_⟩:=z2b hn'
 have m1:=d1.symm.subset (List.mem_cons_self ..)
 have m2:=d2.symm.subset (List.mem_cons_self ..)
 obtain ⟨_,c1,e1,b1,_⟩:=hS.lie _ _ m1 p hp
 obtain ⟨_,c2,e2,b2,_⟩:=hS.lie _ _ m2 p' hp'
 by_cases hb:p.blk=p'.blk
 ·have hs:=hS.inj _ _ (List.mem_map.2 ⟨_,m1,rfl⟩) (List.mem_map.2 ⟨_,m2,rfl⟩) p p' hp hp' hb
  simp only at hs
  rw [← hs] at hp'
  rw [hp] at hp'
  obtain rfl:=Option.some.inj hp'
  simp only [sameAddr,beq_self_eq_true,if_true,Sem.run_pure,hs,true_and]
  congr 1
  by_cases ho:o=o'
  ·subst ho;simp
  ·simp [ho]
 ·have hne:l.last≠l'.last:=fun e=>by
   rw [e,hp'] at hp;obtain rfl:=Option.some.inj hp;exact hb rfl
  have hb':(p.blk==p'.blk)=false:=by simpa using hb
  have f1:w.frozen? ⟨p.blk,p.off+o,none⟩=false:=z25 b1
  have f2:w.frozen? ⟨p'.blk,p'.off+o',none⟩=false:=z25 b2
  have g1:∀ i,w.frozen? ⟨p.blk,i,none⟩=false:=fun i=>z25 b1
  have g2:∀ i,w.frozen? ⟨p'.blk,i,none⟩=false:=fun i=>z25 b2
  have s1:w.shape? p.blk=some (e1,c1.size):=by simp [World.shape?,b1]
  have s2:w.shape? p'.blk=some (e2,c2.size):=by simp [World.shape?,b2]
  simp [sameAddr,hb',f1,f2,noView,viewAt,s1,s2,mayBeOne,stringish,g1,g2,hne]

theorem zae {t:TypeId} {x y:V} {u v:Value} {b:Bool} {d:Nat} (hx:RV ι x u) (hy:RV ι y v) (h:flatEq P t x y=some b) :
  (Op.equalIn (d+1) t u v).run P w=.ok b w∧True:=by
 unfold flatEq at h
 split at h
 ·rename_i hu;cases hx;cases hy
  simp only [Option.some.injEq] at h;subst h
  exact ⟨run_equalIn_bool w d t _ _ hu,trivial⟩
 ·rename_i hu;cases hx;cases hy
  split at h
  ·rename_i e;subst e
   simp only [Option.some.injEq] at h;subst h
   exact ⟨run_equalIn_int w d t _ _ _ _ hu,trivial⟩
  ·cases h
 ·rename_i hu;cases hx;cases hy
  simp only [Option.some.injEq] at h;subst h
  exact ⟨run_equalIn_string w d t _ _ hu,trivial⟩
 ·cases h
theorem z57 {t:TypeId} {x y:V} {b:Bool} {cs:Array Value} {i:Nat} {u:Value} (h:flatEq P t x y=some b) (hc:cs[i]?=some u):(part t cs i).run P w=.ok u w:=by
 have ha:(isAgg t).run P w=.ok false w:=by
  unfold flatEq at h
  split at h
  ·rename_i hu;simp [isAgg,run_underlying hu]
  ·rename_i hu;simp [isAgg,run_underlying hu]
  ·rename_i hu;simp [isAgg,run_underlying hu]
  ·cases h
 simp only [part,Sem.run_bind,ha,Result.andThen_ok]
 simp [hc]
theorem z96 {us vs:Array Value} {d:Nat}:∀ (fs:List Field) (i:Nat) (xs ys:List V) (b:Bool),RVs ι xs (us.toList.drop i)→RVs ι ys (vs.toList.drop i)→z2z P i fs xs ys=some b→(Op.eqFields (d+1) us vs fs).run P w=.ok b w
 | [],i,[],[],b,_,_,h=>by simp only [z2z,Option.some.injEq] at h;subst h;simp [Op.eqFields]
 | f::fs,i,x::xs,y::ys,b,hx,hy,h=>by
  simp only [z2z] at h
  split at h
  ·rename_i hc
   simp only [Bool.and_eq_true,beq_iff_eq,bne_iff_ne,ne_eq] at hc
   obtain ⟨r,h1,h2⟩:=Option.bind_eq_some_iff.1 h
   cases hdx:us.toList.drop i with
   | nil=>rw [hdx] at hx;cases hx
   | cons u us' =>
    cases hdy:vs.toList.drop i with
    | nil=>rw [hdy] at hy;cases hy
    | cons v vs' =>
     rw [hdx] at hx;rw [hdy] at hy
     cases hx with
     | cons hx1 hx2 =>
      cases hy with
      | cons hy1 hy2 =>
       have gu:us[i]?=some u:=by
        have:=congrArg (·[0]?) hdx
        simpa using this
       have gv:vs[i]?=some v:=by
        have:=congrArg (·[0]?) hdy
        simpa using this
       have tu:us.toList.drop (i+1)=us':=by rw [← List.drop_drop,hdx];rfl
       have tv:vs.toList.drop (i+1)=vs':=by rw [← List.drop_drop,hdy];rfl
       rw [Op.eqFields,if_pos hc.2,hc.1]
       simp only [Sem.run_bind,z57 h1 gu,z57 h1 gv,(zae (w:=w) (d:=d) hx1 hy1 h1).1,Result.andThen_ok]
       cases r with
       | false =>
        simp only [Bool.false_eq_true,if_false,Option.some.injEq] at h2;subst h2
        simp
       | true =>
        simp only [if_true] at h2
        have:=z96 (d:=d) fs (i+1) xs ys b (by rw [tu];exact hx2) (by rw [tv];exact hy2) h2
        simpa using this
  ·cases h
 | [],_,_::_,_,_,_,_,h=>by simp [z2z] at h
 | [],_,[],_::_,_,_,_,h=>by simp [z2z] at h
 | _::_,_,[],_,_,_,_,h=>by simp [z2z] at h
 | _::_,_,_::_,[],_,_,_,h=>by simp [z2z] at h
theorem z9u {us vs:Array Value} {d:Nat} {e:TypeId}:∀ (n i:Nat) (xs ys:List V) (b:Bool),RVs ι xs (us.toList.drop i)→RVs ι ys (vs.toList.drop i)→flatAs P e n xs ys=some b→(Op.eqItems (d+1) e 1 us vs (List.range' i n)).run P w=.ok b w
 | 0,i,[],[],b,_,_,h=>by simp only [flatAs,Option.some.injEq] at h;subst h;simp [Op.eqItems]
 | n+1,i,x::xs,y::ys,b,hx,hy,h=>by
  simp only [flatAs] at h
  obtain ⟨r,h1,h2⟩:=Option.bind_eq_some_iff.1 h
  cases hdx:us.toList.drop i with
  | nil=>rw [hdx] at hx;cases hx
  | cons u us' =>
   cases hdy:vs.toList.drop i with
   | nil=>rw [hdy] at hy;cases hy
   | cons v vs' =>
    rw [hdx] at hx;rw [hdy] at hy
    cases hx with
    | cons hx1 hx2 =>
     cases hy with
     | cons hy1 hy2 =>
      have gu:us[i]?=some u:=by
       have:=congrArg (·[0]?) hdx
       simpa using this
      have gv:vs[i]?=some v:=by
       have:=congrArg (·[0]?) hdy
       simpa using this
      have tu:us.toList.drop (i+1)=us':=by rw [← List.drop_drop,hdx];rfl
      have tv:vs.toList.drop (i+1)=vs':=by rw [← List.drop_drop,hdy];rfl
      rw [List.range'_succ,Op.eqItems,Nat.mul_one]
      simp only [Sem.run_bind,z57 h1 gu,z57 h1 gv,(zae (w:=w) (d:=d) hx1 hy1 h1).1,Result.andThen_ok]
      cases r with
      | false =>
       simp only [Bool.false_eq_true,if_false,Option.some.injEq] at h2;subst h2
       simp
      | true =>
       simp only [if_true] at h2
       have:=z9u (d:=d) n (i+1) xs ys b (by rw [tu];exact hx2) (by rw [tv];exact hy2) h2
       simpa using this
 | 0,_,_::_,_,_,_,_,h=>by simp [flatAs] at h
 | 0,_,[],_::_,_,_,_,h=>by simp [flatAs] at h
 | _+1,_,[],_,_,_,_,h=>by simp [flatAs] at h
 | _+1,_,_::_,[],_,_,_,h=>by simp [flatAs] at h
theorem zbk {t:TypeId} {xs ys:List V} {us vs:Array Value} {b:Bool} {d:Nat} (hx:RVs ι xs us.toList) (hy:RVs ι ys vs.toList) (h:flatE P t xs ys=some b):(Op.equalIn (d+2) t (.agg us) (.agg vs)).run P w=.ok b w∧P.eqGuardType P.depth t=false:=by
 unfold flatE at h
 split at h
 ·rename_i fs hu
  split at h
  ·rename_i hc
   simp only [Bool.and_eq_true,Bool.not_eq_true'] at hc
   have hf:P.fieldsOf t=fs:=by simp [Program.fieldsOf,hu]
   refine ⟨?_,hc.2⟩
   rw [run_equalIn_struct (P:=P) w (d+1) t us vs (by rw [hf];exact hu) hc.1,hf]
   exact z96 fs.toList 0 xs ys b (by simpa using hx) (by simpa using hy) h
  ·cases h
 ·rename_i n e hu
  split at h
  ·rename_i hc
   simp only [Bool.and_eq_true,Bool.not_eq_true',beq_iff_eq] at hc
   obtain ⟨⟨hc1,hc2⟩,hc3⟩:=hc
   obtain ⟨inf,hinf⟩:=Option.isSome_iff_exists.1 hc2
   refine ⟨?_,hc3⟩
   rw [run_equalIn_array w (d+1) us vs hu hinf,hc1,List.range_eq_range']
   exact z9u n 0 xs ys b (by simpa using hx) (by simpa using hy) h
  ·cases h
 ·cases h
theorem zat {h':H} {t:TypeId} {xs ys:List V} {b:Bool} (h:eqlV P h' t (.agg xs) (.agg ys)=some b):flatE P t xs ys=some b:=by
 unfold eqlV at h
 split at h<;>first | assumption | (simp at h;done) | skip
 all_goals (rename_i h1 h2;first | (cases h1;cases h2;assumption) | (cases h1) | (cases h2))
theorem zdq (hS:SimN ι B w.heap (nodesH h)) {t:TypeId} {x y:V} {u v:Value} {b:Bool} (hx:RV ι x u) (hy:RV ι y v) (hv:eqlV P h t x y=some b) :
  (Op.equal t u v).run P w=.ok b w:=by
 by_cases hagg:∃ xs ys,x=.agg xs∧y=.agg ys
 ·obtain ⟨xs,ys,rfl,rfl⟩:=hagg
  have hv:flatE P t xs ys=some b:=zat hv
  cases hx with
  | agg hx=>cases hy with
   | agg hy=>exact (zbk (d:=9998) hx hy hv).1
 suffices hd:∀ d,(Op.equalIn (d+1) t u v).run P w=.ok b w from hd 9999
 intro d
 unfold eqlV at hv
 split at hv<;>try (simp at hv;done)
 case h_1 hu=>cases hx;cases hy;simp only [Option.some.injEq] at hv;subst hv;simp [Op.equalIn,run_underlying hu]
 case h_2 hu=>cases hx;cases hy;simp only [Option.some.injEq] at hv;subst hv;simp [Op.equalIn,run_underlying hu]
 case h_3 hu=>cases hx;cases hy;simp only [Option.some.injEq] at hv;subst hv;simp [Op.equalIn,run_underlying hu]
 case h_4 hu=>cases hx;cases hy;simp only [Option.some.injEq] at hv;subst hv;simp [Op.equalIn,run_underlying hu]
 case h_5 e l o l' o' hu =>
  cases hx with
  | ref hp =>
   cases hy with
   | ref hp' =>
    split at hv
    ·simp at hv
    ·rename_i hk
     simp only [Bool.or_eq_true,Bool.not_eq_true',beq_iff_eq,not_or,Bool.not_eq_false] at hk
     split at hv
     ·rename_i hn
      simp only [Bool.and_eq_true] at hn
      simp only [Option.some.injEq] at hv;subst hv
      have:=zc6 (P:=P) (o:=o) (o':=o') hS hn.1 hn.2 hp hp'
      simp only [Op.equalIn,Sem.run_bind,run_underlying hu,Result.andThen_ok,zk w hk.1]
      simp [hk.2,this]
     ·simp at hv
 case h_11 hu=>exact absurd ⟨_,_,rfl,rfl⟩ hagg
 case h_12 hu=>exact absurd ⟨_,_,rfl,rfl⟩ hagg
 all_goals (rename_i hu;cases hx<;>cases hy<;>simp only [Option.some.injEq] at hv<;>subst hv<;>simp [Op.equalIn,run_underlying hu])
theorem bin_ok (hS:SimN ι B w.heap (nodesH h)) {op:BinOp} {t:TypeId} {x y v:V} {u u':Value} (ox oy:Operand) (hx:RV ι x u) (hy:RV ι y u') (hv:binV P h op t x y=some v) :
  ∃ r,(do eqGuard op t ox oy u u';binOp op t u u':Sem Value).run P w=.ok r w∧RV ι v r:=by
 unfold binV at hv
 split at hv
 ·cases hx;cases hy
  simp only [eqGuard_at_int]
  have:∀ (s:Sem Value),(do (pure ():Sem Unit);s:Sem Value).run P w=s.run P w:=fun s=>by simp
  rw [this]
  split at hv
  ·obtain ⟨r,h1,h2⟩:=za0 (P:=P) (ι:=ι) (w:=w) t (.inl rfl) hv;exact ⟨r,h1 (by assumption),h2⟩
  ·obtain ⟨r,h1,h2⟩:=za0 (P:=P) (ι:=ι) (w:=w) t (.inr rfl) hv;exact ⟨r,h1 (by assumption),h2⟩
  ·split at hv
   ·rename_i hk;subst hk;exact zew t hv
   ·simp at hv
 ·cases hx;cases hy
  simp only [eqGuard_at_string]
  have:∀ (s:Sem Value),(do (pure ():Sem Unit);s:Sem Value).run P w=s.run P w:=fun s=>by simp
  rw [this]
  exact zey t hv
 ·by_cases hagg:∃ xs ys,x=.agg xs∧y=.agg ys
  ·obtain ⟨xs,ys,rfl,rfl⟩:=hagg
   cases hx with
   | agg hx=>cases hy with
    | agg hy =>
     have key:∀ b,eqlV P h t (.agg xs) (.agg ys)=some b→_:=fun b hb=>zbk (d:=9998) (w:=w) hx hy (zat hb)
     split at hv
     ·obtain ⟨b,hb,rfl⟩:=Option.map_eq_some_iff.1 hv
      obtain ⟨k1,k2⟩:=key b hb
      refine ⟨_,?_,.p _⟩
      rw [Sem.run_bind,run_eqGuard_agg w _ _ _ _ _ _ k2,Result.andThen_ok,run_eql_struct,k1];rfl
     ·obtain ⟨b,hb,rfl⟩:=Option.map_eq_some_iff.1 hv
      obtain ⟨k1,k2⟩:=key b hb
      refine ⟨_,?_,.p _⟩
      rw [Sem.run_bind,run_eqGuard_agg w _ _ _ _ _ _ k2,Result.andThen_ok,run_neq_struct,k1];rfl
     ·simp at hv
  have hg:∀ b,eqlV P h t x y=some b→eqGuard op t ox oy u u'=pure ():=fun b hb=>by
   unfold eqlV at hb
   split at hb<;>try (simp at hb;done)
   all_goals first
    | exact absurd ⟨_,_,rfl,rfl⟩ hagg
    | (cases hx<;>first | exact eqGuard_at_bool .. | exact eqGuard_at_pointer .. | exact eqGuard_at_slice ..)
  have hbin:∀ b,eqlV P h t x y=some b→(binOp .eql t u u').run P w=.ok (.bool b) w∧(binOp .neq t u u').run P w=.ok (.bool !b) w:=fun b hb=>by
   have he:=zdq hS hx hy hb
   unfold eqlV at hb
   split at hb<;>try (simp at hb;done)
   all_goals first
    | exact absurd ⟨_,_,rfl,rfl⟩ hagg
    | (cases hx<;>cases hy<;>constructor<;>simp [binOp,he])
  split at hv
  ·obtain ⟨b,hb,rfl⟩:=Option.map_eq_some_iff.1 hv
   refine ⟨_,?_,.p _⟩
   rw [hg b hb]
   simp [(hbin b hb).1]
  ·obtain ⟨b,hb,rfl⟩:=Option.map_eq_some_iff.1 hv
   refine ⟨_,?_,.p _⟩
   rw [hg b hb]
   simp [(hbin b hb).2]
  ·simp at hv
theorem un_ok {op:UnOp} {x v:V} {u:Value} (hx:RV ι x u) (hv:unV op x=some v):∃ r,(Op.unary op u).run P w=.ok r w∧RV ι v r:=by
 unfold unV at hv
 split at hv
 ·simp only [Option.some.injEq] at hv;subst hv;cases hx
  exact ⟨_,by simp [Op.unary,Op.intArith]<;>rfl,.p _⟩
 ·simp only [Option.some.injEq] at hv;subst hv;cases hx
  exact ⟨_,by simp [Op.unary,Op.intBits]<;>rfl,.p _⟩
 ·simp only [Option.some.injEq] at hv;subst hv;cases hx
  exact ⟨_,by simp [Op.unary]<;>rfl,.p _⟩
 ·simp at hv
end
end Go.Ev
namespace Go.Ev
open Go.RowKit (Below)
set_option linter.unusedVariables false
set_option linter.unusedSimpArgs false

section
variable {P:Program} {ι:Inj} {B:Nat} {w:World} {h:H}

theorem z90 (hS:SimN ι B w.heap (nodesH h)) {x:V} {u:Value} {xs:List V} (hx:RV ι x u) (hc:cellsOf h x=some xs) :
  (u=.slice none 0 0∧xs=[])∨(∃ s,u=.string s∧xs=s.data.toList.map fun b=>.p (.int .u8 b.toNat)) ∨
  (∃ b o len cap us,u=.slice (some ⟨b,o,none⟩) len cap∧lenOf x=some len∧z5w w b o us∧RVs ι xs us) ∨
  (∃ a cap,u=.slice (some a) 0 cap∧lenOf x=some 0∧xs=[]):=by
 unfold cellsOf at hc
 split at hc
 ·cases hx;simp only [Option.some.injEq] at hc;exact .inl ⟨rfl,hc.symm⟩
 ·cases hx;simp only [Option.some.injEq] at hc;exact .inr (.inl ⟨_,rfl,hc.symm⟩)
 ·rename_i l off len av esz
  obtain ⟨cs,hn,hc1⟩:=Option.bind_eq_some_iff.1 hc
  obtain ⟨ds,hr,hc2⟩:=Option.bind_eq_some_iff.1 hc1
  obtain ⟨h1,h2,h3⟩:=z3a hr
  cases hx with
  | sl hp k1 k2 k3 k4 =>
   rename_i cap o p
   right;right;left
   by_cases h0:cap=0
   ·have:len=0:=by omega
    subst this
    simp only [Nat.zero_mul,List.take_zero] at h2
    subst h2
    simp only [toVs,Option.some.injEq] at hc2
    subst hc2
    exact ⟨_,_,_,_,[],rfl,rfl,fun j u hj=>by simp at hj,.nil⟩
   ·obtain ⟨us,a1,a2,a3⟩:=z6h hS hn hp h1
    subst h2
    have ho:=k3 h0
    subst ho
    exact ⟨_,_,_,_,us,rfl,rfl,a2,z9l hc2 (by rw [a1,h3]) a3⟩
 ·simp only [Option.some.injEq] at hc
  subst hc
  right;right
  cases hx with
  | fz0 ht=>exact .inr ⟨_,_,rfl,rfl,rfl⟩
  | fz hf k1 ht hl hcs=>exact .inl ⟨_,_,_,_,_,rfl,rfl,zah hS hf _ _,hcs⟩
 ·simp at hc
theorem z4t {x:V} {u:Value} {n:Nat} (hx:RV ι x u) (hn:lenOf x=some n):(u=.slice none 0 0∧n=0)∨(∃ s,u=.string s∧n=s.size)∨∃ a c,u=.slice (some a) n c:=by
 unfold lenOf at hn
 split at hn
 ·cases hx;simp only [Option.some.injEq] at hn;exact .inl ⟨rfl,hn.symm⟩
 ·cases hx;simp only [Option.some.injEq] at hn;exact .inr (.inl ⟨_,rfl,hn.symm⟩)
 ·cases hx;simp only [Option.some.injEq] at hn;subst hn;exact .inr (.inr ⟨_,_,rfl⟩)
 ·simp only [Option.some.injEq] at hn;subst hn;cases hx<;>exact .inr (.inr ⟨_,_,rfl⟩)
 ·simp at hn

theorem z88:∀ {xs:List V} {us:List Value} {bs:List UInt8},z23 xs=some bs→RVs ι xs us→∃ ns:List Int,us=ns.map (Value.int .u8)∧bs=ns.map fun n=>UInt8.ofNat n.toNat
 | [],_,bs,h,.nil=>by simp only [z23,Option.some.injEq] at h;subst h;exact ⟨[],rfl,rfl⟩
 | x::xs,_,bs,h,.cons hx ht=>by
  unfold z23 at h
  split at h
  ·simp at *
  ·rename_i n xs' he
   obtain ⟨cs,h1,rfl⟩:=Option.map_eq_some_iff.1 h
   simp only [List.cons.injEq] at he
   obtain ⟨rfl,rfl⟩:=he
   obtain ⟨ns,rfl,rfl⟩:=z88 h1 ht
   cases hx
   exact ⟨n::ns,rfl,rfl⟩
  ·simp at h
def Did (P:Program) (B:Nat) (ι:Inj) (w:World) (ns:Nodes) (s:Sem Value) (v:V):Prop :=
 ∃ ι' w' u,s.run P w=.ok u w'∧RV ι' v u∧SimN ι' B w'.heap ns∧ι.Le ι'∧ι'.at_=ι.at_∧Below B w w'
theorem Did.same {ns:Nodes} {s:Sem Value} {v:V} (hS:SimN ι B w.heap ns) (hr:∃ r,s.run P w=.ok r w∧RV ι v r):Did P B ι w ns s v:=by
 obtain ⟨r,h1,h2⟩:=hr
 exact ⟨ι,w,r,h1,h2,hS,.refl _,rfl,.refl _ _⟩
theorem z70 {d:Option TypeDesc} (hd:isU8 d=true):d=some (.int .u8):=by
 unfold isU8 at hd;split at hd
 ·rfl
 ·simp at hd
theorem ze4 (hS:SimN ι B w.heap (nodesH h)) {src dst e:TypeId} (hs:P.underlying src=some (.slice e)) (hd:P.underlying dst=some .string) {x v:V} {u:Value} (hx:RV ι x u) (hv:toStrV P h e x=some v) :
  ∃ r,(convert src dst u).run P w=.ok r w∧RV ι v r:=by
 unfold toStrV at hv
 split at hv
 ·rename_i hc
  obtain ⟨hsl,he⟩:=hc
  have he:=z70 he
  obtain ⟨cs,h1,h2⟩:=Option.bind_eq_some_iff.1 hv
  obtain ⟨n,hn,h2⟩:=Option.bind_eq_some_iff.1 h2
  split at h2
  ·rename_i hlen
   obtain ⟨bs,h3,rfl⟩:=Option.map_eq_some_iff.1 h2
   rcases z90 hS hx h1 with ⟨rfl,rfl⟩ | ⟨s,rfl,rfl⟩ | ⟨b,o,len,cap,us,rfl,hl,hc,hr⟩ | ⟨a,cap,rfl,hl,rfl⟩
   ·simp only [z23,Option.some.injEq] at h3;subst h3
    refine ⟨_,run_convert_bytes_nil w src e hs he 0 0 dst hd,?_⟩
    exact .p _
   ·exfalso;cases hx;simp [isSl] at hsl
   ·obtain ⟨ns,rfl,rfl⟩:=z88 h3 hr
    have hlen':ns.length=len:=by
     have a:=hr.length
     simp only [List.length_map] at a
     rw [hl] at hn;obtain rfl:=Option.some.inj hn
     omega
    refine ⟨_,run_convert_bytes_arg w src e hs he b o len cap ns hlen' (fun i hi=>hc i _ ?_) dst hd,?_⟩
    ·have:i<ns.length:=by omega
     simp [List.getD,List.getElem?_eq_getElem this]
    ·exact .p _
   ·simp only [z23,Option.some.injEq] at h3;subst h3
    refine ⟨.string ByteArray.empty,?_,.p _⟩
    rw [run_convert_bytes_string w src dst e _ 0 cap hs he hd]
    have hl:=run_loadCells_list (P:=P) w a [] (fun j v hj=>by simp at hj)
    simp only [List.length_nil] at hl
    simp only [Conv.bytesToString,Sem.run_bind,hl,Result.andThen_ok]
    rfl
  ·simp at h2
 ·simp at hv
theorem zdv (hB:B≤w.heap.size) {ns:Nodes} (hS:SimN ι B w.heap ns) {src dst e:TypeId} (hs:P.underlying src=some .string) (hd:P.underlying dst=some (.slice e)) {s:ByteArray} {v:V} (hv:ofStrV P e s=some v) :
  Did P B ι w ns (convert src dst (.string s)) v:=by
 unfold ofStrV at hv
 split at hv
 ·rename_i he
  have he:=z70 he
  simp only [Option.some.injEq] at hv;subst hv
  have hcap:s.size≤grownCap w s.size 0 e:=by simp [grownCap,Question.cut]
  generalize hc:Lib.bytesCells w e s=bc
  have hbc:∀ i,i<s.size→bc.toList[i]?=(s.data.toList[i]?).map fun b=>Value.int .u8 b.toNat:=fun i hi=>by
   rw [← hc]
   simp only [Lib.bytesCells,Array.toList_append,Array.toList_map]
   rw [List.getElem?_append_left (by simpa using hi),List.getElem?_map]
  have hsz:s.size≤bc.size:=by rw [← hc];simp only [Lib.bytesCells,Array.size_append,Array.size_map];exact Nat.le_add_right _ _
  have hnew:=Lib.bytesWorld_at_new w e s
  rw [hc] at hnew
  obtain ⟨hS',hle⟩:=hS.newFrozen hB bc e (bc.size,bc.size+1)
  refine ⟨_,Lib.bytesWorld w e s,_,Lib.run_convert_string_bytes w src dst e s hs hd he,?_,?_,hle,rfl,?_⟩
  ·refine .fz (f:=bc.toList) (by simp [Inj.freezeN,Inj.freeze]) hcap (by simp) (by simp) ?_
   simp only [List.length_map,List.drop_zero]
   refine RVs.of_get (by simp;omega) fun i x v hx hv=>?_
   have hi:i<s.data.toList.length:=by have:=(List.getElem?_eq_some_iff.1 hx).1;simpa using this
   rw [List.getElem?_take_of_lt hi,hbc i (by simpa using hi)] at hv
   rw [List.getElem?_map] at hx
   cases hb:s.data.toList[i]? with
   | none=>simp [hb] at hx
   | some b=>simp only [hb,Option.map_some,Option.some.injEq] at hx hv;subst hx;subst hv;exact .p _
  ·have push:∀ b x,(w.alloc (Obj.cells bc e (bc.size,bc.size+1))).heap[b]?=some x→(Lib.bytesWorld w e s).heap[b]?=some x:=fun b x hb=>by
    rw [show (w.alloc (Obj.cells bc e (bc.size,bc.size+1))).heap=w.heap.push _ from rfl,Array.getElem?_push] at hb
    split at hb
    ·rename_i hb';subst hb';rw [hnew];exact hb
    ·have hlt:=(Array.getElem?_eq_some_iff.1 hb).1
     rw [Lib.bytesWorld_at_old w e s b hlt];exact hb
   refine ⟨hS'.nodup,fun s1 cs hm p hp=>?_,hS'.inj,fun b f hf=>?_,hS'.apart,hS'.nwb⟩
   ·obtain ⟨a1,c1,e1,a2,a3⟩:=hS'.lie s1 cs hm p hp
    exact ⟨a1,c1,e1,push _ _ a2,a3⟩
   ·obtain ⟨c,e1,fr,k1,k2⟩:=hS'.frz b f hf
    exact ⟨c,e1,fr,push _ _ k1,k2⟩
  ·exact ⟨rfl,rfl,rfl,by rw [Lib.bytesWorld_size];omega,fun k hk=>Lib.bytesWorld_at_old w e s k (by omega)⟩
 ·simp at hv
theorem SimN.mark {ns:Nodes} {b:Nat} {f:List Value} (h:SimN ι B w.heap ns) (hf:ι.fz b=some f) (o n:Nat):SimN ι B (w.freeze ⟨b,o,none⟩ n).heap ns:=by
 have hne:∀ k,k≠b→(w.freeze ⟨b,o,none⟩ n).heap[k]?=w.heap[k]?:=fun k hk=>by
  unfold World.freeze
  split
  ·rfl
  ·simp only [Array.getElem?_modify]
   rw [if_neg (fun e=>hk e.symm)]
 refine ⟨h.nodup,fun s cs hm p hp=>?_,h.inj,fun b' f' hf'=>?_,h.apart,h.nwb⟩
 ·obtain ⟨a1,c1,e1,a2,a3⟩:=h.lie s cs hm p hp
  have:p.blk≠b:=fun e=>by
   have:=h.apart s (List.mem_map.2 ⟨_,hm,rfl⟩) p hp
   rw [e,hf] at this;cases this
  exact ⟨a1,c1,e1,by rw [hne _ this];exact a2,a3⟩
 ·obtain ⟨c,e,fr,k1,k2⟩:=h.frz b' f' hf'
  by_cases hb:b'=b
  ·subst hb
   unfold World.freeze
   split
   ·exact ⟨c,e,fr,k1,k2⟩
   ·obtain ⟨lo,hi⟩:=fr
    simp only [Array.getElem?_modify,if_true,k1,Option.map_some]
    exact ⟨c,e,_,rfl,k2⟩
  ·exact ⟨c,e,fr,by rw [hne _ hb];exact k1,k2⟩
theorem zd0 {b:Nat} (hb:B≤b) (o n:Nat):Below B w (w.freeze ⟨b,o,none⟩ n):=by
 unfold World.freeze
 split
 ·exact .refl _ _
 ·refine ⟨rfl,rfl,rfl,by simp,fun k hk=>?_⟩
  simp only [Array.getElem?_modify]
  rw [if_neg (by omega)]
theorem zes (hB:B≤w.heap.size) (hS:SimN ι B w.heap (nodesH h)) {src dst:TypeId} {x v:V} {u:Value} (hx:RV ι x u) (hv:convV P h src dst x=some v):Did P B ι w (nodesH h) (convert src dst u) v:=by
 unfold convV at hv
 split at hv
 ·rename_i hs hd
  simp only [Option.some.injEq] at hv;subst hv;cases hx
  exact .same hS ⟨_,by simp [convert,run_underlying hs,run_underlying hd,Conv.intToInt]<;>rfl,.p _⟩
 ·rename_i hs hd
  simp only [Option.some.injEq] at hv;subst hv;cases hx
  exact .same hS ⟨_,by simp [convert,run_underlying hs,run_underlying hd]<;>rfl,.p _⟩
 ·rename_i hs hd _
  exact .same hS (ze4 hS hs hd hx hv)
 ·rename_i hs hd
  cases hx
  exact zdv hB hS hs hd hv
 ·rename_i hs hd
  unfold litS at hv
  split at hv
  ·rename_i c0 cs0 len0 esz0
   cases hok:(src==dst&&isU8 (P.underlying _)) with
   | false=>rw [hok] at hv;cases hv
   | true =>
   rw [hok] at hv
   simp only [Bool.and_eq_true,beq_iff_eq] at hok
   obtain ⟨rfl,he⟩:=hok
   have he:=z70 he
   have hd2:=hd
   rw [hs] at hd2
   simp only [Option.some.injEq,TypeDesc.slice.injEq] at hd2
   rw [← hd2] at he hd
   simp only [Option.some.injEq] at hv;subst hv
   cases hx with
   | @fz _ len esz cap b o _ f h h1 ht hl hc =>
    have hnw:=(ht rfl).2
    obtain ⟨c,ety,fr,k1,k2⟩:=hS.frz b f h
    have hsh:w.shape? b=some (ety,c.size):=by simp [World.shape?,k1]
    refine ⟨ι,w.freeze ⟨b,c.size,none⟩ 1,.slice (some ⟨b,o,none⟩) _ cap,?_,.fz h h1 ht hl hc,hS.mark h _ _,.refl _,rfl,zd0 (hS.nwb b hnw) _ _⟩
    simp [convert,markStringish,run_underlying hs,run_underlying hd,run_underlying he,hsh]
  ·simp at hv
 ·simp at hv
end
end Go.Ev
namespace Go.Ev
open Go.RowKit (Below)
set_option linter.unusedVariables false
set_option linter.unusedSimpArgs false

theorem za5 (off:Nat):∀ (l:List Value) (k:Nat) (A:Array Value),off+k+l.length≤A.size →
  ((l.zipIdx k).foldl (fun cs (q:Value×Nat)=>cs.setIfInBounds (off+q.2) q.1) A).toList=A.toList.take (off+k)++l++A.toList.drop (off+k+l.length)
 | [],k,A,_=>by simp
 | x::l,k,A,hl=>by
  simp only [List.zipIdx_cons,List.foldl_cons,List.length_cons] at hl ⊢
  rw [za5 off l (k+1) _ (by simp;omega)]
  apply List.ext_getElem?
  intro i
  simp only [Array.toList_setIfInBounds,List.getElem?_append,List.length_append,List.length_take,List.length_set,Array.length_toList,List.getElem?_take,List.getElem?_drop,List.getElem?_set,List.length_cons]
  have e1:min (off+k) A.size=off+k:=by omega
  have e2:min (off+(k+1)) A.size=off+k+1:=by omega
  rw [e1,e2]
  rcases Nat.lt_or_ge i (off+k) with h | h
  ·rw [if_pos (by omega),if_pos (by omega),if_pos (by omega),if_neg (by omega),if_pos (by omega),if_pos (by omega),if_pos (by omega)]
  ·rcases Nat.eq_or_lt_of_le h with h' | h'
   ·subst h'
    rw [if_pos (by omega),if_pos (by omega),if_pos (by omega),if_pos rfl,if_pos (by omega),if_pos (by omega),if_neg (by omega)]
    simp
   ·rcases Nat.lt_or_ge i (off+k+1+l.length) with h3 | h3
    ·rw [if_pos (by omega),if_neg (by omega),if_pos (by omega),if_neg (by omega)]
     rw [show i-(off+k)=(i-(off+k+1))+1 by omega,List.getElem?_cons_succ]
    ·rw [if_neg (by omega),if_neg (by omega),if_neg (by omega)]
     congr 1;omega
theorem z7s {ι:Inj} {places:Nat→Option (Nat×Nat)}:∀ {parts:List (Nat×V)} {parts':List (Nat×Value)} {cells out:List V} {us:Array Value},
  fillV places cells parts=some out→RVs ι cells us.toList→(parts.length=parts'.length∧∀ (i:Nat) q q',parts[i]?=some q→parts'[i]?=some q'→q.1=q'.1∧RV ι q.2 q'.2) →
  ∃ us',Instr.fill places us parts'=some us'∧RVs ι out us'.toList∧us'.size=us.size
 | [],parts',cells,out,us,h,hr,hp=>by
  simp only [fillV,Option.some.injEq] at h;subst h
  have:parts'=[]:=by have:=hp.1;simp at this;exact List.length_eq_zero_iff.1 this.symm
  subst this
  exact ⟨us,rfl,hr,rfl⟩
 | (i,v)::rest,parts',cells,out,us,h,hr,hp=>by
  cases parts' with
  | nil=>simp at hp
  | cons q' rest' =>
   obtain ⟨i',v'⟩:=q'
   have h0:=hp.2 0 _ _ rfl rfl
   simp only at h0
   obtain ⟨rfl,hv⟩:=h0
   simp only [fillV] at h
   cases hpl:places i with
   | none=>simp [hpl] at h
   | some os =>
    obtain ⟨off,size⟩:=os
    simp only [hpl] at h
    split at h
    ·simp at h
    ·rename_i hc
     have hcells:=z6f hv
     have hcl:=hcells.length
     have hul:=hr.length
     simp only [Array.length_toList] at hul hcl
     have hc1:v.cells.length=size:=by
      rcases Nat.decEq v.cells.length size with hne | he
      ·exact absurd (.inl hne) hc
      ·exact he
     have hc2:off+v.cells.length≤cells.length:=by
      rcases Nat.lt_or_ge cells.length (off+v.cells.length) with hlt | hge
      ·exact absurd (.inr hlt) hc
      ·exact hge
     have hcond:¬ (v'.cells.size≠size||decide (off+v'.cells.size>us.size))=true:=by
      simp only [Bool.or_eq_true,decide_eq_true_eq,not_or]
      constructor
      ·simp;omega
      ·omega
     have key:=za5 off v'.cells.toList 0 us (by simp;omega)
     simp only [Nat.add_zero] at key
     have e:(v'.cells.zipIdx.foldl (fun cs (c,j)=>cs.setIfInBounds (off+j) c) us)=(v'.cells.toList.zipIdx.foldl (fun cs (q:Value×Nat)=>cs.setIfInBounds (off+q.2) q.1) us):=by
      rw [← Array.foldl_toList];simp [Array.toList_zipIdx]
     obtain ⟨us',k1,k2,k3⟩:=z7s (us:=v'.cells.zipIdx.foldl (fun cs (c,j)=>cs.setIfInBounds (off+j) c) us) (parts':=rest') h (by
      rw [e,key]
      have a1:=(hr.take off).append hcells
      have a2:=a1.append (hr.drop (off+v.cells.length))
      rw [hcells.length]
      exact a2) ⟨by have:=hp.1;simpa using this,fun j a b ha hb=>hp.2 (j+1) a b ha hb⟩
     refine ⟨us',?_,k2,?_⟩
     ·simp only [Instr.fill,hpl]
      rw [if_neg (by simpa using hcond)]
      exact k1
     ·rw [k3,e,← Array.length_toList,key]
      simp
      omega
section
variable {P:Program} {ι:Inj} {B:Nat} {w:World} {h:H}
theorem z1m {t:TypeId} {z:List V} (hz:tzero P t=some z):∃ i z0,P.info? t=some i∧i.zero=some z0∧z=z0.cells.toList.map .p∧∀ v∈z0.cells.toList,Leaf v:=by
 unfold tzero at hz
 obtain ⟨i,hi,hz⟩:=Option.bind_eq_some_iff.1 hz
 obtain ⟨z0,h0,hz⟩:=Option.bind_eq_some_iff.1 hz
 split at hz
 ·rename_i hl
  simp only [Option.some.injEq] at hz;subst hz
  refine ⟨i,z0,hi,h0,rfl,fun v hv=>?_⟩
  have:=List.all_eq_true.1 hl v hv
  cases v<;>first | trivial | simp [leafB] at this
 ·simp at hz
theorem z1r {t:TypeId} {i:TypeInfo} {z0:Value} (hi:P.info? t=some i) (h0:i.zero=some z0):(zeroValue t).run P w=.ok z0 w:=by
 simp [zeroValue,z11 w hi,h0]
theorem z8g {e:Env} {a:Act} (hE:RE ι e a) (parts:Array (Nat×Operand)) :
  (parts.toList.map fun q=>(q.1,opd e q.2)).length=(parts.map fun (i,x)=>(i,a.eval x)).toList.length ∧
  ∀ (i:Nat) q q',(parts.toList.map fun q=>(q.1,opd e q.2))[i]?=some q→(parts.map fun (i,x)=>(i,a.eval x)).toList[i]?=some q'→q.1=q'.1∧RV ι q.2 q'.2:=by
 refine ⟨by simp,fun i q q' h1 h2=>?_⟩
 simp only [Array.toList_map,List.getElem?_map] at h1 h2
 cases hp:parts.toList[i]? with
 | none=>simp [hp] at h1
 | some r=>simp only [hp,Option.map_some,Option.some.injEq] at h1 h2;subst h1;subst h2;exact ⟨rfl,opd_ok hE r.2⟩
theorem zcp {fs:List Field} (hk:∀ f∈fs,known P f.type=true) :
  (fs.mapM (m:=Sem) fun (f:Field)=>do pure (f.offset,← sizeOf f.type)).run P w=.ok (fs.map fun (f:Field)=>(f.offset,tsize P f.type)) w:=by
 induction fs with
 | nil=>simp
 | cons f fs ih =>
  have h1:=hk f (List.mem_cons_self ..)
  have h2:=ih fun g hg=>hk g (List.mem_cons_of_mem _ hg)
  simp only [List.mapM_cons,Sem.run_bind,zk w h1,Result.andThen_ok,Sem.run_pure,h2,List.map_cons]
theorem zdp {e:Env} {a:Act} (hE:RE ι e a) {t:TypeId} {parts:Array (Nat×Operand)} {v:V} (hv:buildV P t (parts.toList.map fun q=>(q.1,opd e q.2))=some v) :
  ∃ r,(Instr.build t (parts.map fun (i,x)=>(i,a.eval x))).run P w=.ok r w∧RV ι v r:=by
 unfold buildV at hv
 obtain ⟨z,hz,hv⟩:=Option.bind_eq_some_iff.1 hv
 obtain ⟨i,z0,hi,h0,rfl,_⟩:=z1m hz
 have hz0:RVs ι (z0.cells.toList.map .p) z0.cells.toList:=.plain _
 split at hv
 ·rename_i fs hu
  split at hv
  ·rename_i hk
   obtain ⟨out,hf,rfl⟩:=Option.map_eq_some_iff.1 hv
   obtain ⟨us',k1,k2,_⟩:=z7s hf hz0 (z8g hE parts)
   have hk':∀ f∈fs.toList,known P f.type=true:=fun f hm=>by
    rw [List.all_eq_true] at hk;exact hk f hm
   have hpl:=zcp (P:=P) (w:=w) hk'
   have e1:(fs.mapM (m:=Sem) fun (f:Field)=>do pure (f.offset,← sizeOf f.type))=(List.toArray <$> (fs.toList.mapM (m:=Sem) fun (f:Field)=>do pure (f.offset,← sizeOf f.type))):=by
    rw [Array.mapM_eq_mapM_toList]
   have e2:(fs.mapM (m:=Sem) fun (f:Field)=>do pure (f.offset,← sizeOf f.type)).run P w=.ok (fs.toList.map fun (f:Field)=>(f.offset,tsize P f.type)).toArray w:=by
    rw [e1,Sem.run_map,hpl];rfl
   refine ⟨_,?_,.agg k2⟩
   simp only [Instr.build,Sem.run_bind,z1r hi h0,run_underlying hu,Result.andThen_ok,e2]
   have e3:(fun (i:Nat)=>(fs.toList.map fun (f:Field)=>(f.offset,tsize P f.type)).toArray[i]?)=fun i=>(fs[i]?).map fun (f:Field)=>(f.offset,tsize P f.type):=by
    funext j
    rw [List.getElem?_toArray,List.getElem?_map,Array.getElem?_toList]
   rw [e3,k1]
   simp
  ·simp at hv
 ·rename_i n e' hu
  split at hv
  ·rename_i hk
   obtain ⟨out,hf,rfl⟩:=Option.map_eq_some_iff.1 hv
   obtain ⟨us',k1,k2,_⟩:=z7s hf hz0 (z8g hE parts)
   refine ⟨_,?_,.agg k2⟩
   simp only [Instr.build,Sem.run_bind,z1r hi h0,run_underlying hu,Result.andThen_ok,zk w hk]
   rw [k1]
   simp
  ·simp at hv
 ·simp at hv
theorem z15 {α:Type} (n:Nat) (xs:List α):(rept n xs).length=n*xs.length:=by
 induction n with
 | zero=>simp [rept]
 | succ n ih=>simp [rept,ih,Nat.succ_mul,Nat.add_comm]
theorem zb8 {α β:Type} (f:α→β) (n:Nat) (xs:List α):(rept n xs).map f=rept n (xs.map f):=by
 induction n with
 | zero=>rfl
 | succ n ih=>simp [rept,ih]
theorem z4w {α:Type} (n:Nat) (xs:List α) (i:Nat) (hi:i<n*xs.length):(rept n xs)[i]?=xs[i % xs.length]?:=by
 induction n generalizing i with
 | zero=>simp at hi
 | succ n ih =>
  simp only [rept,List.getElem?_append]
  split
  ·rename_i h;rw [Nat.mod_eq_of_lt h]
  ·rename_i h
   rw [ih (i-xs.length) (by rw [Nat.succ_mul] at hi;omega)]
   rw [Nat.mod_eq_sub_mod (by omega:i≥xs.length)]
theorem z42 (z:Array Value) (n:Nat):((Array.range (n*z.size)).map (z[· % z.size]!)).toList=rept n z.toList:=by
 apply List.ext_getElem?
 intro i
 simp only [Array.toList_map,Array.toList_range,List.getElem?_map]
 by_cases hi:i<n*z.size
 ·rw [List.getElem?_range hi,z4w _ _ _ (by simpa using hi)]
  have hz:0<z.size:=by
   rcases Nat.eq_zero_or_pos z.size with h | h
   ·simp [h] at hi
   ·exact h
  have:i % z.size<z.size:=Nat.mod_lt _ hz
  simp [this]
 ·rw [List.getElem?_eq_none (by simpa using hi),List.getElem?_eq_none (by rw [z15];simpa using hi)]
  rfl
theorem zam (hB:B≤w.heap.size) {ns:Nodes} (hS:SimN ι B w.heap ns) {e:Env} {a:Act} (hE:RE ι e a) {t:TypeId} {n:Nat} {parts:Array (Nat×Operand)} {v:V} (hv:bSV P t n (parts.toList.map fun q=>(q.1,opd e q.2))=some v) :
  Did P B ι w ns (Instr.buildSlice t n (parts.map fun (i,x)=>(i,a.eval x))) v:=by
 unfold bSV at hv
 obtain ⟨e',he,hv⟩:=Option.bind_eq_some_iff.1 hv
 obtain ⟨hu,hk⟩:=zq he
 obtain ⟨z,hz,hv⟩:=Option.bind_eq_some_iff.1 hv
 obtain ⟨i,z0,hi,h0,rfl,_⟩:=z1m hz
 split at hv
 ·simp at hv
 ·rename_i hc
  simp only [List.length_map,Array.length_toList,not_or,Nat.not_lt] at hc
  obtain ⟨c1,c2,c3⟩:=hc
  have c1:z0.cells.size=tsize P e':=by
   rcases Nat.decEq z0.cells.size (tsize P e') with hne | h
   ·exact absurd hne c1
   ·exact h
  obtain ⟨out,hf,rfl⟩:=Option.map_eq_some_iff.1 hv
  have hz0:RVs ι (rept n (z0.cells.toList.map .p)) ((Array.range (n*z0.cells.size)).map (z0.cells[· % z0.cells.size]!)).toList:=by
   rw [z42,← zb8];exact .plain _
  obtain ⟨us',k1,k2,k3⟩:=z7s hf hz0 (z8g hE parts)
  obtain ⟨hS',hle⟩:=hS.newFrozen hB us' e' (0,0)
  have hsz:us'.size=n*tsize P e':=by rw [k3,c1];simp
  have hlen:out.length=n*tsize P e':=by have:=k2.length;simp at this;omega
  refine ⟨_,w.alloc (.cells us' e' (0,0)),.slice (some ⟨w.heap.size,0,none⟩) n n,?_,?_,hS',hle,rfl,(Below.refl _ _).alloc hB _⟩
  ·simp only [Instr.buildSlice,Sem.run_bind,run_underlying hu,Result.andThen_ok,zk w hk]
   have hgt:¬ (n*tsize P e'>2^24):=by omega
   simp only [hgt,if_false,Sem.run_bind,Result.andThen_ok]
   by_cases hn:n*tsize P e'=0
   ·have hn0:n=0:=by
     rcases Nat.eq_zero_or_pos n with h | h
     ·exact h
     ·have:=Nat.mul_pos h (Nat.pos_of_ne_zero c2);omega
    subst hn0
    simp only [Nat.zero_mul] at k1 ⊢
    have e1:(Array.range 0).map (fun x=>z0.cells[x % z0.cells.size]!)=#[]:=by simp
    rw [e1] at k1
    simp only [if_true,Sem.run_bind,Sem.run_pure,Result.andThen_ok]
    have e2:(Array.range 0).map (fun x=>(#[]:Array Value)[x % (#[]:Array Value).size]!)=#[]:=by simp
    rw [e2,k1]
    simp [newRow]
   ·simp only [hn,if_false,Sem.run_bind,z1r hi h0,Result.andThen_ok,Sem.run_pure]
    rw [c1] at k1
    rw [c1,k1]
    simp [newRow]
  ·refine .fz (f:=us'.toList) (by simp [Inj.freezeN,Inj.freeze]) (Nat.le_refl _) (fun _=>⟨rfl,by simp [Inj.freezeN]⟩) hlen ?_
   simp only [List.drop_zero]
   rw [List.take_of_length_le (by simp;omega)]
   exact k2.mono hle
end
end Go.Ev
namespace Go.Ev
open Go.RowKit (Below)
set_option linter.unusedVariables false
set_option linter.unusedSimpArgs false

theorem z8f {ι:Inj} {cs:List V} {f:List Value} {o:Nat} (h:RVs ι cs ((f.drop o).take cs.length)) (k:Nat):RVs ι (cs.drop k) ((f.drop (o+k)).take (cs.drop k).length):=by
 have:=h.drop k
 rw [List.drop_take,List.drop_drop] at this
 simpa using this
theorem zbd {ι:Inj} {cs:List V} {f:List Value} {o:Nat} (h:RVs ι cs ((f.drop o).take cs.length)) (k n:Nat):RVs ι ((cs.drop k).take n) ((f.drop (o+k)).take ((cs.drop k).take n).length):=by
 have:=(z8f h k).take n
 rw [List.take_take] at this
 simpa using this
section
variable {P:Program} {ι:Inj} {B:Nat} {w:World} {h:H}

theorem zeb {t:TypeId} {x v:V} {u:Value} {f:Nat} (hx:RV ι x u) (hv:fldA P t x f=some v):∃ r,(Instr.fieldAt t u f).run P w=.ok r w∧RV ι v r:=by
 unfold fldA at hv
 obtain ⟨q,hq,hv⟩:=Option.bind_eq_some_iff.1 hv
 obtain ⟨fs,g,hu,hg,h1,h2,hk⟩:=z85 hq
 split at hv
 ·simp at hv
 ·rename_i hz
  have hk':known P g.type=true:=by rw [h2];exact hk
  have hz':¬ tsize P g.type=0:=by rw [h2];exact hz
  split at hv
  ·simp only [Option.some.injEq] at hv;subst hv
   cases hx with
   | ref hp =>
    rename_i l off p
    refine ⟨.pointer (some ⟨p.blk,p.off+off+q.1,none⟩),?_,?_⟩
    ·simp only [Instr.fieldAt,Sem.run_bind,run_underlying hu,Result.andThen_ok,hg,Instr.sureAddr,Sem.run_pure,fieldPlace,zk w hk',hz',if_false,Addr.add_lit,h1]
    ·rw [Nat.add_assoc];exact .ref hp
  ·rename_i cs
   split at hv
   ·simp only [Option.some.injEq] at hv;subst hv
    cases hx with
    | fzp hf hc =>
     rename_i b o f'
     refine ⟨.pointer (some ⟨b,o+q.1,none⟩),?_,.fzp hf (z8f hc q.1)⟩
     simp only [Instr.fieldAt,Sem.run_bind,run_underlying hu,Result.andThen_ok,hg,Instr.sureAddr,Sem.run_pure,fieldPlace,zk w hk',hz',if_false,Addr.add_lit,h1]
   ·simp at hv
  ·simp at hv
theorem zds {t:TypeId} {cs:Array Value} {o:Nat} {r:Value} (hk:known P t=true)
  (hl:o+(if tagg P t then tsize P t else 1)≤cs.size) (hr:if tagg P t then r=.agg ((cs.toList.drop o).take (tsize P t)).toArray else (cs.toList.drop o).take 1=[r]):(part t cs o).run P w=.ok r w:=by
 simp only [part,Sem.run_bind,zce w hk,Result.andThen_ok]
 cases ht:tagg P t with
 | true =>
  simp only [ht,if_true] at hl hr ⊢
  simp only [Sem.run_bind,zk w hk,Result.andThen_ok,Sem.run_pure,hr]
  congr 2
  apply Array.ext'
  simp [Array.toList_extract,List.extract_eq_take_drop,Nat.add_sub_cancel_left]
 | false =>
  simp only [ht,Bool.false_eq_true,if_false] at hl hr ⊢
  have:cs[o]?=some r:=by
   have h0:((cs.toList.drop o).take 1)[0]?=some r:=by rw [hr];rfl
   rw [List.getElem?_take_of_lt (by omega),List.getElem?_drop] at h0
   simpa using h0
  simp [this]
theorem zck {t:TypeId} {cs xs:List V} {a:Array Value} {o:Nat} {v:V} (hk:known P t=true) (hr:RVs ι cs a.toList) (h1:rng cs o (if tagg P t then tsize P t else 1)=some xs) (h2:mkV (tagg P t) xs=some v) :
  ∃ r,(part t a o).run P w=.ok r w∧RV ι v r:=by
 obtain ⟨k1,k2,k3⟩:=z3a h1
 subst k2
 have hx:=(hr.drop o).take (if tagg P t then tsize P t else 1)
 obtain ⟨r,r1,r2⟩:=mkV_ok h2 hx
 refine ⟨r,zds hk (by have:=hr.length;simp at this;omega) ?_,r1⟩
 cases ht:tagg P t<;>simp only [ht,if_true,Bool.false_eq_true,if_false] at r2 ⊢<;>exact r2
theorem zet {t:TypeId} {x v:V} {u:Value} {f:Nat} (hx:RV ι x u) (hv:fldV P t x f=some v):∃ r,(Instr.field t u f).run P w=.ok r w∧RV ι v r:=by
 unfold fldV at hv
 obtain ⟨q,hq,hv⟩:=Option.bind_eq_some_iff.1 hv
 obtain ⟨fs,g,hu,hg,h1,h2,hk⟩:=z85 hq
 split at hv
 ·obtain ⟨xs,k1,k2⟩:=Option.bind_eq_some_iff.1 hv
  cases hx with
  | agg hc =>
   obtain ⟨r,r1,r2⟩:=zck (P:=P) (w:=w) hk hc k1 k2
   refine ⟨r,?_,r2⟩
   simp only [Instr.field,Sem.run_bind,run_underlying hu,Result.andThen_ok,hg,asAgg,Sem.run_pure]
   rw [h2,h1];exact r1
 ·simp at hv
theorem zek {t:TypeId} {x i v:V} {u j:Value} (hx:RV ι x u) (hi:RV ι i j) (hv:idxA P t x i=some v):∃ r,(Instr.indexAt t u j).run P w=.ok r w∧RV ι v r:=by
 unfold idxA at hv
 obtain ⟨n,hn,hv1⟩:=Option.bind_eq_some_iff.1 hv
 clear hv
 obtain ⟨k,rfl⟩:=asI_ok hn hi
 split at hv1
 ·rename_i l off len av esz
  obtain ⟨e,he,hv⟩:=Option.bind_eq_some_iff.1 hv1
  obtain ⟨hu,hk⟩:=zq he
  split at hv
  ·rename_i hc
   obtain ⟨hc1,hc2,hc3⟩:=hc
   simp only [Option.some.injEq] at hv;subst hv
   cases hx with
   | sl hp k1 k2 k3 k4 =>
    rename_i cap o p
    have ho:=k3 (by omega)
    subst ho
    refine ⟨.pointer (some ⟨p.blk,p.off+off+n.toNat*esz,none⟩),?_,by rw [Nat.add_assoc];exact .ref hp⟩
    simp [Instr.indexAt,asIntOf,run_underlying hu,hc2,hc3,zk w hk,hc1,Addr.add_lit]
  ·simp at hv
 ·rename_i cs len esz tight
  obtain ⟨e,he,hv⟩:=Option.bind_eq_some_iff.1 hv1
  obtain ⟨hu,hk⟩:=zq he
  split at hv
  ·rename_i hc
   obtain ⟨hc1,hc2,hc3⟩:=hc
   simp only [Option.some.injEq] at hv;subst hv
   cases hx with
   | fz0 ht=>exfalso;omega
   | fz hf k1 ht hl hcs =>
    rename_i cap b o f
    refine ⟨.pointer (some ⟨b,o+n.toNat*esz,none⟩),?_,.fzp hf (z8f hcs _)⟩
    simp [Instr.indexAt,asIntOf,run_underlying hu,hc2,hc3,zk w hk,hc1,Addr.add_lit]
  ·simp at hv
 ·rename_i l off
  obtain ⟨q,hq,hv⟩:=Option.bind_eq_some_iff.1 hv1
  obtain ⟨hu,hk⟩:=z6z hq
  split at hv
  ·rename_i hc
   obtain ⟨hc2,hc3⟩:=hc
   simp only [Option.some.injEq] at hv;subst hv
   cases hx with
   | ref hp =>
    rename_i p
    refine ⟨.pointer (some ⟨p.blk,p.off+off+n.toNat*tsize P q.2,none⟩),?_,by rw [Nat.add_assoc];exact .ref hp⟩
    simp [Instr.indexAt,asIntOf,run_underlying hu,hc2,hc3,zk w hk,Addr.add_lit,Instr.sureAddr]
  ·simp at hv
 ·simp at hv1
theorem zef {t:TypeId} {x i v:V} {u j:Value} (hx:RV ι x u) (hi:RV ι i j) (hv:idxV P t x i=some v):∃ r,(Instr.index t u j).run P w=.ok r w∧RV ι v r:=by
 unfold idxV at hv
 obtain ⟨n,hn,hv1⟩:=Option.bind_eq_some_iff.1 hv
 clear hv
 obtain ⟨k,rfl⟩:=asI_ok hn hi
 split at hv1
 ·rename_i s
  split at hv1
  ·rename_i hu
   simp only [if_true] at hv1
   split at hv1
   ·rename_i h0
    obtain ⟨b,hb,rfl⟩:=Option.map_eq_some_iff.1 hv1
    cases hx
    exact ⟨_,by simp [Instr.index,asIntOf,run_underlying hu,h0,hb]<;>rfl,.p _⟩
   ·simp at hv1
  ·simp at hv1
 ·rename_i cs
  obtain ⟨q,hq,hv⟩:=Option.bind_eq_some_iff.1 hv1
  obtain ⟨hu,hk⟩:=z6z hq
  split at hv
  ·rename_i hc
   obtain ⟨hc2,hc3⟩:=hc
   obtain ⟨xs,k1,k2⟩:=Option.bind_eq_some_iff.1 hv
   cases hx with
   | agg hcs =>
    obtain ⟨r,r1,r2⟩:=zck (P:=P) (w:=w) hk hcs k1 k2
    refine ⟨r,?_,r2⟩
    simp only [Instr.index,Sem.run_bind,asIntOf,Sem.run_pure,run_underlying hu,Result.andThen_ok]
    rw [if_pos ⟨hc2,hc3⟩]
    simp only [Sem.run_bind,zk w hk,Result.andThen_ok]
    exact r1
  ·simp at hv
 ·simp at hv1
def RO (ι:Inj):Option V→Option Value→Prop
 | none,none=>True
 | some x,some u=>RV ι x u
 | _,_=>False
theorem RO.isSome {ι:Inj} {x:Option V} {u:Option Value} (h:RO ι x u):u.isSome=x.isSome:=by cases x<;>cases u<;>simp_all [RO]
theorem bnd_ok {x:Option V} {u:Option Value} {dflt lim n:Nat} (hx:RO ι x u) (hb:bnd x dflt lim=some n) :
  (u=none∧x=none∧n=dflt)∨(∃ k i,u=some (.int k i)∧x.isSome=true∧0≤i∧i≤lim∧n=i.toNat∧n≤lim):=by
 cases x with
 | none =>
  simp only [bnd,Option.some.injEq] at hb
  cases u with
  | none=>exact .inl ⟨rfl,rfl,hb.symm⟩
  | some u=>exact hx.elim
 | some x =>
  cases u with
  | none=>exact hx.elim
  | some u =>
   simp only [bnd] at hb
   obtain ⟨i,hi,hb⟩:=Option.bind_eq_some_iff.1 hb
   obtain ⟨k,rfl⟩:=asI_ok hi hx
   split at hb
   ·rename_i hc
    simp only [Option.some.injEq] at hb
    exact .inr ⟨k,i,rfl,rfl,hc.1,hc.2,hb.symm,by omega⟩
   ·simp at hb
theorem z3g {lo hi mx:Option V} {lo' hi' mx':Option Value} (hlo:RO ι lo lo') (hhi:RO ι hi hi') (hmx:RO ι mx mx') (sl:Bool) {len cap dm b a lm:Nat}
  (hg:(mx.isSome&&hi.isNone)=false) {m:Nat} (h1:bnd mx dm lm=some m) (h2:bnd hi len m=some b) (h3:bnd lo 0 b=some a) (hlm:lm≤cap) (hdm:dm≤cap) :
  ∃ m',(Instr.sliceBounds sl len cap lo' hi' mx').run P w=.ok (a,b,m') w∧(mx.isSome=true→m'=m)∧(mx.isSome=false→m'=cap)∧m≤m':=by
 have sb:∀ (k:IntKind) (i:Int) (y:Nat) (c:BoundsCode),0≤i→i≤y→(Instr.sliceBound (.int k i) y c).run P w=.ok i.toNat w:=fun k i y c p q=>by
  simp [Instr.sliceBound,asIntOf,p,q]
 rcases bnd_ok hmx h1 with ⟨rfl,rfl,rfl⟩ | ⟨km,im,rfl,sm,m0,m1,rfl,m2⟩
 ·refine ⟨cap,?_,by simp,by simp,hdm⟩
  rcases bnd_ok hhi h2 with ⟨rfl,rfl,rfl⟩ | ⟨kh,ih,rfl,sh,h0,hh,rfl,hh2⟩
  ·rcases bnd_ok hlo h3 with ⟨rfl,rfl,rfl⟩ | ⟨kl,il,rfl,sl',l0,l1,rfl,l2⟩
   ·simp [Instr.sliceBounds]
   ·simp [Instr.sliceBounds,sb _ _ _ _ l0 l1]
  ·have hh':ih≤(cap:Int):=by omega
   rcases bnd_ok hlo h3 with ⟨rfl,rfl,rfl⟩ | ⟨kl,il,rfl,sl',l0,l1,rfl,l2⟩
   ·simp [Instr.sliceBounds,sb _ _ _ _ h0 hh']
   ·simp [Instr.sliceBounds,sb _ _ _ _ h0 hh',sb _ _ _ _ l0 l1]
 ·have m1':im≤(cap:Int):=by omega
  refine ⟨im.toNat,?_,fun _=>rfl,by simp [sm],Nat.le_refl _⟩
  rcases bnd_ok hhi h2 with ⟨rfl,rfl,rfl⟩ | ⟨kh,ih,rfl,sh,h0,hh,rfl,hh2⟩
  ·simp [sm] at hg
  ·rcases bnd_ok hlo h3 with ⟨rfl,rfl,rfl⟩ | ⟨kl,il,rfl,sl',l0,l1,rfl,l2⟩
   ·simp [Instr.sliceBounds,sb _ _ _ _ m0 m1',sb _ _ _ _ h0 hh]
   ·simp [Instr.sliceBounds,sb _ _ _ _ m0 m1',sb _ _ _ _ h0 hh,sb _ _ _ _ l0 l1]
theorem bnd_le {x:Option V} {d lim n:Nat} (hb:bnd x d lim=some n) (hd:d≤lim):n≤lim:=by
 cases x with
 | none=>simp only [bnd,Option.some.injEq] at hb;omega
 | some x =>
  simp only [bnd] at hb
  obtain ⟨i,hi,hb⟩:=Option.bind_eq_some_iff.1 hb
  split at hb
  ·simp only [Option.some.injEq] at hb;omega
  ·simp at hb
theorem z2r {t e:TypeId} (hu:P.underlying t=some (.slice e)) (hk:known P e=true) {a:Option Addr} {len cap l h' m:Nat} {lo hi mx:Option Value}
  (hb:(Instr.sliceBounds true len cap lo hi mx).run P w=.ok (l,h',m) w) :
  (Instr.sliceAt t (.slice a len cap) lo hi mx).run P w=.ok (.slice (if m=l then a else a.map (·.add (l*tsize P e))) (h'-l) (m-l)) w:=by
 simp only [Instr.sliceAt,Sem.run_bind,run_underlying hu,Result.andThen_ok,Instr.slice,hb,zk w hk,Sem.run_pure]
theorem slc_ok (hS:SimN ι B w.heap (nodesH h)) {t:TypeId} {x v:V} {u:Value} {lo hi mx:Option V} {lo' hi' mx':Option Value} (hx:RV ι x u) (hlo:RO ι lo lo') (hhi:RO ι hi hi') (hmx:RO ι mx mx') (hv:slcV P h t x lo hi mx=some v) :
  ∃ r,(Instr.sliceAt t u lo' hi' mx').run P w=.ok r w∧RV ι v r:=by
 unfold slcV at hv
 split at hv
 ·simp at hv
 ·rename_i hg
  have hg:(mx.isSome&&hi.isNone)=false:=by cases h1:mx.isSome<;>cases h2:hi.isNone<;>simp_all
  split at hv
  ·rename_i s
   split at hv
   ·simp at hv
   ·rename_i hm
    have hm:mx=none:=by simpa using hm
    subst hm
    have hm':mx'=none:=by cases mx'<;>simp_all [RO]
    subst hm'
    split at hv
    ·rename_i hu
     obtain ⟨b,h2,hv⟩:=Option.bind_eq_some_iff.1 hv
     obtain ⟨a,h3,hv⟩:=Option.bind_eq_some_iff.1 hv
     simp only [Option.some.injEq] at hv;subst hv;cases hx
     obtain ⟨m',k1,_,_,_⟩:=z3g (P:=P) (w:=w) (ι:=ι) (mx:=none) (mx':=none) hlo hhi trivial false (len:=s.size) (cap:=s.size) (dm:=s.size) (lm:=s.size) (by simp) rfl h2 h3 (Nat.le_refl _) (Nat.le_refl _)
     refine ⟨.string (s.extract a b),?_,.p _⟩
     simp only [Instr.sliceAt,Sem.run_bind,run_underlying hu,Result.andThen_ok,Instr.slice,Option.isSome_none,Bool.false_eq_true,if_false,k1,Sem.run_pure]
    ·simp at hv
  ·obtain ⟨e,he,hv⟩:=Option.bind_eq_some_iff.1 hv
   obtain ⟨hu,hk⟩:=zq he
   obtain ⟨m,h1,hv⟩:=Option.bind_eq_some_iff.1 hv
   obtain ⟨b,h2,hv⟩:=Option.bind_eq_some_iff.1 hv
   obtain ⟨a,h3,hv⟩:=Option.bind_eq_some_iff.1 hv
   simp only [Option.some.injEq] at hv;subst hv;cases hx
   have m0:=bnd_le h1 (Nat.le_refl 0)
   have b0:=bnd_le h2 (Nat.zero_le _)
   have a0:=bnd_le h3 (Nat.zero_le _)
   have b0':b=0:=by omega
   have a0':a=0:=by omega
   subst b0';subst a0'
   have hm0:m=0:=by omega
   subst hm0
   obtain ⟨m',k1,k2,k3,_⟩:=z3g (P:=P) (w:=w) hlo hhi hmx true (len:=0) (cap:=0) hg h1 h2 h3 (Nat.le_refl _) (Nat.le_refl _)
   have hm':m'=0:=by
    cases hs:mx.isSome with
    | true=>exact k2 hs
    | false=>exact k3 hs
   subst hm'
   exact ⟨.slice none 0 0,by rw [z2r hu hk k1];simp,.p _⟩
  ·rename_i l off len av esz
   obtain ⟨e,he,hv⟩:=Option.bind_eq_some_iff.1 hv
   obtain ⟨hu,hk⟩:=zq he
   split at hv
   ·simp at hv
   ·rename_i hez
    have hez:esz=tsize P e:=by simpa using hez
    obtain ⟨m,h1,hv⟩:=Option.bind_eq_some_iff.1 hv
    obtain ⟨b,h2,hv⟩:=Option.bind_eq_some_iff.1 hv
    obtain ⟨a,h3,hv⟩:=Option.bind_eq_some_iff.1 hv
    cases hx with
    | sl hp p1 p2 p3 p4 =>
     rename_i cap o p
     obtain ⟨m',k1,k2,k3,k4⟩:=z3g (P:=P) (w:=w) hlo hhi hmx true hg h1 h2 h3 p2 p2
     have hm:=bnd_le h1 (Nat.le_refl av)
     have ha:=bnd_le h3 (Nat.zero_le _)
     have hb:b≤m:=by
      cases hmx':mx with
      | none =>
       rw [hmx'] at h1;simp only [bnd,Option.some.injEq] at h1;subst h1
       exact bnd_le h2 p1
      | some y =>
       cases hhi':hi with
       | none=>simp [hmx',hhi'] at hg
       | some z =>
        rw [hhi'] at h2
        simp only [bnd] at h2
        obtain ⟨i,hi2,h2⟩:=Option.bind_eq_some_iff.1 h2
        split at h2
        ·simp only [Option.some.injEq] at h2;omega
        ·simp at h2
     refine ⟨_,z2r hu hk k1,?_⟩
     split at hv
     ·rename_i hz
      simp only [Option.some.injEq] at hv;subst hv
      have:=k2 hz.1
      have hab:b-a=0:=by omega
      rw [if_pos (by omega),hab]
      exact .fz0 (fun _=>by omega)
     ·rename_i hz
      simp only [Option.some.injEq] at hv;subst hv
      by_cases hma:m'=a
      ·rw [if_pos hma]
       have hab:b-a=0:=by omega
       have:m-a=0:=by omega
       rw [hab,this]
       refine .sl hp (by omega) (by omega) (fun hne=>absurd (by omega) hne) (fun hne=>absurd (by omega) hne)
      ·rw [if_neg hma]
       simp only [Option.map_some,Addr.add_lit]
       have hcap:m'≤cap:=by
        cases hs:mx.isSome with
        | true=>rw [k2 hs];omega
        | false=>rw [k3 hs];omega
       have hc0:cap≠0:=by omega
       have ho:=p3 hc0
       have hbd:=p4 hc0
       refine .sl hp (by omega) (by omega) (fun _=>by rw [ho,hez];omega) (fun _=>?_)
       rw [← hez]
       have:a*esz+(m'-a)*esz=m'*esz:=by rw [← Nat.add_mul];congr 1;omega
       have h2:m'*esz≤cap*esz:=Nat.mul_le_mul_right _ hcap
       omega
  ·rename_i cs len esz tight
   obtain ⟨e,he,hv⟩:=Option.bind_eq_some_iff.1 hv
   obtain ⟨hu,hk⟩:=zq he
   split at hv
   ·simp at hv
   ·rename_i hez
    have hez:esz=tsize P e:=by simpa using hez
    obtain ⟨m,h1,hv⟩:=Option.bind_eq_some_iff.1 hv
    obtain ⟨b,h2,hv⟩:=Option.bind_eq_some_iff.1 hv
    obtain ⟨a,h3,hv⟩:=Option.bind_eq_some_iff.1 hv
    simp only [Option.some.injEq] at hv;subst hv
    have hm:=bnd_le h1 (Nat.le_refl len)
    have ha:=bnd_le h3 (Nat.zero_le _)
    have hb:b≤m:=by
     cases hmx':mx with
     | none =>
      rw [hmx'] at h1;simp only [bnd,Option.some.injEq] at h1;subst h1
      exact bnd_le h2 (Nat.le_refl _)
     | some y =>
      cases hhi':hi with
      | none=>simp [hmx',hhi'] at hg
      | some z =>
       rw [hhi'] at h2
       simp only [bnd] at h2
       obtain ⟨i,hi2,h2⟩:=Option.bind_eq_some_iff.1 h2
       split at h2
       ·simp only [Option.some.injEq] at h2;omega
       ·simp at h2
    have cap_of:∀ {cap m':Nat},(mx.isSome=true→m'=m)→(mx.isSome=false→m'=cap)→(tight=true→cap=len)→(tight&&b==m)=true→m'-a=b-a:=fun {cap m'} k2 k3 ht hh=>by
     simp only [Bool.and_eq_true,beq_iff_eq] at hh
     cases hs:mx.isSome with
     | true=>rw [k2 hs];omega
     | false =>
      have hmx0:mx=none:=by simpa using hs
      rw [hmx0] at h1;simp only [bnd,Option.some.injEq] at h1
      have:=ht hh.1
      rw [k3 hs];omega
    cases hx with
    | @fz0 _ cap _ ad ht =>
     obtain ⟨m',k1,k2,k3,k4⟩:=z3g (P:=P) (w:=w) hlo hhi hmx true (cap:=cap) hg h1 h2 h3 (Nat.zero_le _) (Nat.zero_le _)
     refine ⟨_,z2r hu hk k1,?_⟩
     have hab:b-a=0:=by omega
     have a0:a=0:=by omega
     have hc:=cap_of k2 k3 ht
     subst a0
     rw [hab]
     simp only [List.drop_nil,List.take_nil,Nat.zero_mul,Option.map_some,Addr.add_zero',ite_self]
     exact .fz0 (fun hh=>by rw [hc hh];omega)
    | fz hf k ht hl hcs =>
     rename_i cap bb o f
     obtain ⟨m',k1,k2,k3,k4⟩:=z3g (P:=P) (w:=w) hlo hhi hmx true (cap:=cap) hg h1 h2 h3 k k
     refine ⟨_,z2r hu hk k1,?_⟩
     have hc:=cap_of k2 k3 (fun x=>(ht x).1)
     by_cases hab:b=a
     ·subst hab
      simp only [Nat.sub_self,Nat.zero_mul,List.take_zero]
      split
      ·exact .fz0 (fun hh=>by rw [hc hh];omega)
      ·simp only [Option.map_some,Addr.add_lit]
       exact .fz0 (fun hh=>by rw [hc hh];omega)
     ·rw [if_neg (by omega)]
      simp only [Option.map_some,Addr.add_lit]
      rw [hez] at hl ⊢
      refine .fz hf (by omega) (fun hh=>⟨hc hh,(ht (by simp only [Bool.and_eq_true] at hh;exact hh.1)).2⟩) ?_ (zbd hcs _ _)
      simp only [List.length_take,List.length_drop]
      have:a*tsize P e+(b-a)*tsize P e=b*tsize P e:=by rw [← Nat.add_mul];congr 1;omega
      have h2:b*tsize P e≤len*tsize P e:=Nat.mul_le_mul_right _ (by omega)
      omega
  ·rename_i l off
   obtain ⟨q,hq,hv⟩:=Option.bind_eq_some_iff.1 hv
   obtain ⟨hu,hk⟩:=z6z hq
   obtain ⟨cs,hn,hv⟩:=Option.bind_eq_some_iff.1 hv
   split at hv
   ·simp at hv
   ·rename_i hlen
    obtain ⟨m,h1,hv⟩:=Option.bind_eq_some_iff.1 hv
    obtain ⟨b,h2,hv⟩:=Option.bind_eq_some_iff.1 hv
    obtain ⟨a,h3,hv⟩:=Option.bind_eq_some_iff.1 hv
    have hm:=bnd_le h1 (Nat.le_refl _)
    have ha:=bnd_le h3 (Nat.zero_le _)
    have hb:b≤m:=by
     cases hmx':mx with
     | none =>
      rw [hmx'] at h1;simp only [bnd,Option.some.injEq] at h1;subst h1
      exact bnd_le h2 (Nat.le_refl _)
     | some y =>
      cases hhi':hi with
      | none=>simp [hmx',hhi'] at hg
      | some z =>
       rw [hhi'] at h2
       simp only [bnd] at h2
       obtain ⟨i,hi2,h2⟩:=Option.bind_eq_some_iff.1 h2
       split at h2
       ·simp only [Option.some.injEq] at h2;omega
       ·simp at h2
    cases hx with
    | ref hp =>
     rename_i p
     obtain ⟨m',k1,k2,k3,k4⟩:=z3g (P:=P) (w:=w) hlo hhi hmx false (len:=q.1) (cap:=q.1) hg h1 h2 h3 (Nat.le_refl _) (Nat.le_refl _)
     have hmm:m'=m:=by
      cases hs:mx.isSome with
      | true=>exact k2 hs
      | false =>
       have hmx0:mx=none:=by simpa using hs
       rw [hmx0] at h1;simp only [bnd,Option.some.injEq] at h1
       rw [k3 hs];exact h1
     subst hmm
     obtain ⟨rest,hd,_⟩:=z2b hn
     obtain ⟨_,ca,ety,_,_,hle,_⟩:=hS.lie l.last (cs.map sh) (hd.symm.subset (List.mem_cons_self ..)) p hp
     simp only [List.length_map] at hle
     refine ⟨.slice (some (if m'=a then ⟨p.blk,p.off+off,none⟩ else (⟨p.blk,p.off+off,none⟩:Addr).add (a*tsize P q.2))) (b-a) (m'-a),?_,?_⟩
     ·simp only [Instr.sliceAt,Sem.run_bind,run_underlying hu,Result.andThen_ok,Instr.sureAddr,Sem.run_pure,k1,zk w hk]
     ·split at hv
      ·rename_i hma
       simp only [Option.some.injEq] at hv;subst hv
       have hab:b-a=0:=by omega
       rw [if_pos hma,hab]
       exact .fz0 (fun _=>by omega)
      ·rename_i hma
       simp only [Option.some.injEq] at hv;subst hv
       rw [if_neg hma,Addr.add_lit]
       refine .sl hp (by omega) (by omega) (fun _=>by omega) (fun _=>?_)
       have:a*tsize P q.2+(m'-a)*tsize P q.2=m'*tsize P q.2:=by rw [← Nat.add_mul];congr 1;omega
       have h2:m'*tsize P q.2≤q.1*tsize P q.2:=Nat.mul_le_mul_right _ hm
       omega
  ·simp at hv
end
end Go.Ev
namespace Go.Ev
open Go.RowKit (Below)
set_option linter.unusedVariables false
set_option linter.unusedSimpArgs false
section
variable {P:Program} {ι:Inj} {B:Nat} {w:World} {h:H}

theorem len_ok {t:TypeId} {x v:V} {u:Value} (hx:RV ι x u) (hv:lenV P t x=some v) (ts:Array TypeId) (ty:TypeId) (ht:ts[0]?=some t):∃ r,(Builtin.len_ ts ty #[u]).run P w=.ok r w∧RV ι v r:=by
 unfold lenV at hv
 split at hv
 ·rename_i s
  split at hv
  ·rename_i hu
   simp only [if_true,Option.some.injEq] at hv;subst hv;cases hx
   exact ⟨_,by simp [Builtin.len_,ht,run_underlying hu,goInt]<;>rfl,.p _⟩
  ·simp at hv
 ·rename_i hne
  obtain ⟨e,he,hv1⟩:=Option.bind_eq_some_iff.1 hv
  obtain ⟨hu,hk⟩:=zq he
  obtain ⟨n,hn,rfl⟩:=Option.map_eq_some_iff.1 hv1
  refine ⟨.int .i64 n,?_,.p _⟩
  rcases z4t hx hn with ⟨rfl,rfl⟩ | ⟨s,rfl,rfl⟩ | ⟨a,c,rfl⟩
  ·simp [Builtin.len_,ht,run_underlying hu,goInt]
  ·cases hx;exact absurd rfl (hne s)
  ·simp [Builtin.len_,ht,run_underlying hu,goInt]
theorem cap_ok {t:TypeId} {x v:V} {u:Value} (hx:RV ι x u) (hv:capV P t x=some v) (ts:Array TypeId) (ty:TypeId) (ht:ts[0]?=some t):∃ r,(Builtin.cap_ ts ty #[u]).run P w=.ok r w∧RV ι v r:=by
 unfold capV at hv
 split at hv
 ·obtain ⟨e,he,hv1⟩:=Option.bind_eq_some_iff.1 hv
  obtain ⟨hu,hk⟩:=zq he
  cases hv1
  cases hx
  exact ⟨_,by simp [Builtin.cap_,ht,run_underlying hu,goInt]<;>rfl,.p _⟩
 ·cases hv
theorem z9j {f:Int→Int→Int} {g:Value→Value→Sem Value} (hg:∀ (k k':IntKind) (a b:Int),(g (.int k a) (.int k' b)).run P w=.ok (.int k (f a b)) w) {k:IntKind}:∀ {xs:List V} {us:List Value} {a n:Int},foldI f a xs=some n→RVs ι xs us →
  (us.foldlM g (.int k a)).run P w=.ok (.int k n) w
 | [],_,a,n,h,.nil=>by simp only [foldI,Option.some.injEq] at h;subst h;simp
 | x::xs,_,a,n,h,.cons hx ht=>by
  unfold foldI at h
  split at h
  ·simp at *
  ·rename_i a' k' b xs' he
   simp only [List.cons.injEq] at he
   obtain ⟨rfl,rfl⟩:=he
   cases hx
   simp only [List.foldlM_cons,Sem.run_bind,hg,Result.andThen_ok]
   exact z9j hg h ht
  ·simp at h
theorem max_ok {xs:List V} {us:Array Value} {v:V} (hx:RVs ι xs us.toList) (hv:maxV xs=some v) (ts:Array TypeId) (ty:TypeId):∃ r,(Builtin.max_ ts ty us).run P w=.ok r w∧RV ι v r:=by
 unfold maxV at hv
 split at hv
 ·rename_i k a rest
  obtain ⟨n,hn,rfl⟩:=Option.map_eq_some_iff.1 hv
  cases hus:us.toList with
  | nil=>rw [hus] at hx;cases hx
  | cons u us' =>
   rw [hus] at hx
   cases hx with
   | cons h1 h2 =>
    cases h1
    refine ⟨.int k n,?_,.p _⟩
    simp only [Builtin.max_,hus]
    exact z9j (fun k k' a b=>by simp [Builtin.max2]) hn h2
 ·simp at hv
theorem min_ok {xs:List V} {us:Array Value} {v:V} (hx:RVs ι xs us.toList) (hv:minV xs=some v) (ts:Array TypeId) (ty:TypeId):∃ r,(Builtin.min_ ts ty us).run P w=.ok r w∧RV ι v r:=by
 unfold minV at hv
 split at hv
 ·rename_i k a rest
  obtain ⟨n,hn,rfl⟩:=Option.map_eq_some_iff.1 hv
  cases hus:us.toList with
  | nil=>rw [hus] at hx;cases hx
  | cons u us' =>
   rw [hus] at hx
   cases hx with
   | cons h1 h2 =>
    cases h1
    refine ⟨.int k n,?_,.p _⟩
    simp only [Builtin.min_,hus]
    exact z9j (fun k k' a b=>by simp [Builtin.min2]) hn h2
 ·simp at hv
theorem ext_ok {x v:V} {u:Value} {i:Nat} (hx:RV ι x u) (hv:extV x i=some v):∃ r,(Instr.extract u i).run P w=.ok r w∧RV ι v r:=by
 unfold extV at hv
 split at hv
 ·cases hx with
  | tup h =>
   obtain ⟨r,h1,h2⟩:=h.get hv
   refine ⟨r,?_,h2⟩
   rw [Array.getElem?_toList] at h1
   simp [Instr.extract,h1]
 ·simp at hv
theorem opt_ok {e:Env} {a:Act} (hE:RE ι e a) (x:Option Operand):RO ι (x.map (opd e)) (x.map a.eval):=by
 cases x with
 | none=>trivial
 | some x=>exact opd_ok hE x

def DidOp (P:Program) (B:Nat) (ι:Inj) (w:World) (ns:Nodes) (s:Sem Next) (v:V):Prop :=
 ∃ ι' w' u,s.run P w=.ok (.value u) w'∧RV ι' v u∧SimN ι' B w'.heap ns∧ι.Le ι'∧ι'.at_=ι.at_∧Below B w w'
theorem Did.op {ns:Nodes} {s:Sem Value} {v:V} (hd:Did P B ι w ns s v):DidOp P B ι w ns (do pure (.value (← s))) v:=by
 obtain ⟨ι',w',u,h1,h2⟩:=hd
 exact ⟨ι',w',u,by simp [h1],h2⟩
theorem zdu (hS:SimN ι B w.heap (nodesH h)) {e:Env} {a:Act} (hE:RE ι e a) {c:Call} {ty:TypeId} {v:V} (hv:callP P e c=some v) :
  DidOp P B ι w (nodesH h) (do let d ← resolve a.eval c ty;invoke d.target d.args) v:=by
 obtain ⟨callee,args,argTypes⟩:=c
 unfold callP at hv
 simp only at hv
 have fin:∀ {s:Sem Value} {b:Builtin},callee=.builtin b→(∀ cs,builtin b argTypes ty cs (args.map a.eval)=(do pure (.value (← s))))→(∃ r,s.run P w=.ok r w∧RV ι v r) →
   DidOp P B ι w (nodesH h) (do let d ← resolve a.eval { callee,args,argTypes } ty;invoke d.target d.args) v:=fun {s b} hc hb hr=>by
  obtain ⟨r,h1,h2⟩:=hr
  subst hc
  refine ⟨ι,w,r,?_,h2,hS,.refl _,rfl,.refl _ _⟩
  simp only [resolve,Sem.run_bind,Sem.run_pure,Result.andThen_ok,invoke,hb]
  simp [h1]
 split at hv
 ·split at hv
  ·rename_i x t rest h1 h2
   have e1:args=#[x]:=by apply Array.ext';simpa using h1
   have e2:argTypes[0]?=some t:=by rw [← Array.getElem?_toList,h2];rfl
   subst e1
   exact fin (s:=Builtin.len_ argTypes ty #[a.eval x]) rfl (fun cs=>by simp [builtin]) (len_ok (w:=w) (opd_ok hE x) hv argTypes ty e2)
  ·simp at hv
 ·split at hv
  ·rename_i x t rest h1 h2
   have e1:args=#[x]:=by apply Array.ext';simpa using h1
   have e2:argTypes[0]?=some t:=by rw [← Array.getElem?_toList,h2];rfl
   subst e1
   exact fin (s:=Builtin.cap_ argTypes ty #[a.eval x]) rfl (fun cs=>by simp [builtin]) (cap_ok (w:=w) (opd_ok hE x) hv argTypes ty e2)
  ·simp at hv
 ·exact fin rfl (fun cs=>rfl) (min_ok (by simpa using z7r hE args.toList) hv argTypes ty)
 ·exact fin rfl (fun cs=>rfl) (max_ok (by simpa using z7r hE args.toList) hv argTypes ty)
 ·simp at hv
theorem zer (hB:B≤w.heap.size) (hS:SimN ι B w.heap (nodesH h)) {e:Env} {a:Act} (hE:RE ι e a) {o:Oper} {v:V} (hv:pureV P e h o.op=some v) :
  DidOp P B ι w (nodesH h) (execOp a.eval o) v:=by
 unfold pureV at hv
 unfold execOp
 have one:∀ {s:Sem Value},(∃ r,s.run P w=.ok r w∧RV ι v r)→DidOp P B ι w (nodesH h) (do pure (.value (← s))) v:=fun hr=>(Did.same hS hr).op
 cases ho:o.op<;>simp only [ho] at hv ⊢<;>try (simp at hv;done)
 case move x=>simp only [Option.some.injEq] at hv;subst hv;exact ⟨ι,w,_,rfl,opd_ok hE x,hS,.refl _,rfl,.refl _ _⟩
 case assign x=>simp only [Option.some.injEq] at hv;subst hv;exact ⟨ι,w,_,rfl,opd_ok hE x,hS,.refl _,rfl,.refl _ _⟩
 case pick c x y =>
  unfold pickV at hv
  obtain ⟨b,hb,rfl⟩:=Option.map_eq_some_iff.1 hv
  have:=asB_ok hb (opd_ok hE c)
  refine ⟨ι,w,if b then a.eval x else a.eval y,?_,?_,hS,.refl _,rfl,.refl _ _⟩
  ·rw [this];simp [asBool]
  ·cases b<;>simp only [if_true,Bool.false_eq_true,if_false]<;>exact opd_ok hE _
 case build t parts=>exact one (zdp hE hv)
 case buildSlice t n parts=>exact (zam hB hS hE hv).op
 case load t x=>exact one (ld_ok hS (opd_ok hE x) hv)
 case nilCheck x =>
  obtain ⟨rfl,h2⟩:=nil_ok hv (opd_ok hE x)
  refine ⟨ι,w,a.eval x,?_,opd_ok hE x,hS,.refl _,rfl,.refl _ _⟩
  generalize a.eval x=u at *
  cases u<;>first
   | rfl
   | (rename_i p;cases p<;>first | rfl | exact h2.elim)
   | (rename_i fn f c;cases fn<;>first | rfl | exact h2.elim)
   | exact h2.elim
 case binOp op t x y yt=>exact one (bin_ok hS x y (opd_ok hE x) (opd_ok hE y) hv)
 case unOp op t x=>exact one (un_ok (opd_ok hE x) hv)
 case convert s d x=>exact (zes hB hS (opd_ok hE x) hv).op
 case makeFunc fn first caps =>
  cases fn<;>simp only at hv<;>try (simp at hv;done)
  split at hv
  ·rename_i f h0
   simp only [Option.some.injEq] at hv;subst hv
   obtain rfl:=Array.size_eq_zero_iff.1 h0
   refine one ⟨.func (.func f) #[] (caps.map a.eval),by simp [Instr.makeFunc],.clo (by simpa using z7r hE caps.toList)⟩
  ·simp at hv
 case slice t x lo hi mx=>exact one (slc_ok hS (opd_ok hE x) (opt_ok hE lo) (opt_ok hE hi) (opt_ok hE mx) hv)
 case fieldAddr t x f=>exact one (zeb (opd_ok hE x) hv)
 case field t x f=>exact one (zet (opd_ok hE x) hv)
 case indexAddr t x i=>exact one (zek (opd_ok hE x) (opd_ok hE i) hv)
 case index t x i=>exact one (zef (opd_ok hE x) (opd_ok hE i) hv)
 case extract t i=>exact one (ext_ok (opd_ok hE t) hv)
 case call c=>exact zdu hS hE hv
end
end Go.Ev
namespace Go.Ev
open Go.RowKit (Below)
open List (Perm)
set_option linter.unusedVariables false
set_option linter.unusedSimpArgs false

theorem swap3 (a b c:Nodes):(a++(b++c)).Perm (b++(a++c)):=by
 rw [← List.append_assoc,← List.append_assoc]
 exact List.perm_append_comm.append_right c
theorem z6q:∀ {cs:List C} {xs:List V},z20 cs=some xs→cs=xs.map .v
 | [],xs,h=>by simp only [z20,Option.some.injEq] at h;subst h;rfl
 | c::cs,xs,h=>by
  cases c<;>simp only [z20] at h<;>try (simp at h;done)
  obtain ⟨ys,hy,rfl⟩:=Option.map_eq_some_iff.1 h
  simp [z6q hy]
theorem RCs.vals {ι:Inj} {xs:List V} {us:List Value} (h:RCs ι (xs.map .v) us) (hl:xs.length≤us.length):RVs ι xs (us.take xs.length):=by
 refine RVs.of_get (by simp;omega) fun i x v hx hv=>?_
 have hi:i<xs.length:=(List.getElem?_eq_some_iff.1 hx).1
 rw [List.getElem?_take_of_lt hi] at hv
 obtain ⟨u,hu,r⟩:=h i (.v x) (by rw [List.getElem?_map,hx];rfl)
 rw [hu] at hv;obtain rfl:=Option.some.inj hv
 cases r;assumption
theorem z8l (xs:List V):(xs.map C.v).map sh=xs.map C.v:=by simp [Function.comp_def,sh]

theorem z4x {ι:Inj} {blk off tot:Nat} {f:List Value} {xs:List V} {o len esz cap a:Nat} (hf:ι.fz blk=some f) (hx:RVs ι xs ((f.drop off).take xs.length)) {ys:List V} (hy:rng xs o (len*esz)=some ys) (h1:len≤cap) (h3:cap≠0→a=off+o) :
  RV ι (.fz ys len esz false) (.slice (some ⟨blk,a,none⟩) len cap):=by
 obtain ⟨k1,k2,k3⟩:=z3a hy
 by_cases h0:cap=0
 ·have:len=0:=by omega
  subst this
  simp only [Nat.zero_mul,List.take_zero] at k2
  subst k2
  exact .fz0 (by simp)
 ·rw [h3 h0]
  refine .fz hf h1 (by simp) k3 ?_
  subst k2
  exact zbd hx _ _
section
variable {ι:Inj} {B:Nat} {w:World}
def Laid (ι:Inj) (B:Nat) (hp:Array Obj) (ex:Nodes) (h:H) (c:C) (h':H) (u:Value):Prop :=
 ∃ ι',ι.Le ι'∧ι'.at_=ι.at_∧RC ι' c u∧Leaf u∧SimN ι' B hp (ex++(nodesC c++nodesH h'))∧∀ s,s∈stamps (nodesC c++nodesH h')→s∈stamps (nodesH h)
theorem zb {a b:Nodes} (h:a.Perm b) {s:Stamp} (hs:s∈stamps a):s∈stamps b:=(h.map (·.1)).subset hs
theorem z16 {a b:Nodes} (h:Part a b) {s:Stamp} (hs:s∈stamps a):s∈stamps b:=by
 obtain ⟨r,hr⟩:=h
 exact zb hr.symm (by simp only [stamps,List.map_append,List.mem_append];exact .inl hs)
theorem Laid.keep {ex:Nodes} {h:H} {x:V} {u:Value} (hS:SimN ι B w.heap (ex++nodesH h)) (hx:RV ι x u) (hl:Leaf u):Laid ι B w.heap ex h (.v x) h u :=
 ⟨ι,.refl _,rfl,.v hx hl,hl,by simpa [nodesC] using hS,fun s hs=>by simpa [nodesC] using hs⟩
theorem zaz {l:Loc} (h:l.hops=[]):l.last=l.s:=by rw [Loc.last_eq,h];rfl
theorem zdf {ex:Nodes} {h:H} {r:Loc} {s:Stamp} {n e:Nat} {cs:List C} {xs ys:List V} {off len av:Nat} {u:Value} (hS:SimN ι B w.heap (ex++nodesH h)) (hu:RV ι (.sl r off len av e) u) (ha:at_ h r=some (.arr s n e cs)) (hs:s=r.last)
  (hn:cs.length=n*e) (hp:z20 cs=some xs) (hy:rng xs off (len*e)=some ys) :
  Laid ι B w.heap ex h (.v (.fz ys len e false)) (setAt h r (if r.hops=[] then .dead else .v (.fz xs n e false))) u:=by
 have hcs:=z6q hp
 cases hu with
 | sl hp' h1 h2 h3 h4 =>
  rename_i cap o p
  have hxl:xs.length=n*e:=by rw [hcs] at hn;simpa using hn
  -- the node stands among the nodes
  have hcell:(cs.map sh)=xs.map C.v:=by rw [hcs];exact z8l xs
  have hnc:z5 cs=[]:=by rw [hcs];exact z3f xs
  have hx0:rng xs 0 (n*e)=some xs:=by
   unfold rng;rw [if_pos (by omega)];simp [← hxl]
  rcases Loc.cases_hop r with hr | ⟨r',o',s',rfl⟩
  ·-- a root
   rw [if_pos hr]
   have hroot:rootC h r=some (.arr s n e cs):=by
    unfold at_ at ha
    cases hc:rootC h r with
    | none=>simp [hc] at ha
    | some c=>rw [hr] at ha;simp only [hc,Option.bind_some,find] at ha;split at ha<;>simp_all
   obtain ⟨rest,d1,d2⟩:=z4j hroot
   have hset:setAt h r .dead=z9 h r .dead:=by simp [setAt,hroot,hr,repl]
   rw [hset]
   have hS1:SimN ι B w.heap ((s,xs.map C.v)::(ex++rest)):=by
    refine hS.perm (((d1.append_left ex).trans ?_))
    simp only [nodesC,hcell,hnc,List.nil_append,List.cons_append]
    exact List.perm_middle
   rw [← hs] at hp'
   obtain ⟨_,ca,ety,hb,hsz,hle,hcv⟩:=hS1.lie s _ (List.mem_cons_self ..) p hp'
   obtain ⟨hS2,hle2⟩:=hS1.freeze hp' hb
   have hfz:(ι.freeze p.blk ca.toList).fz p.blk=some ca.toList:=by simp [Inj.freeze]
   have hvals:=hcv.vals (by simp at hle ⊢;omega)
   refine ⟨_,hle2,rfl,.v (z4x (off:=p.off) (tot:=p.tot) hfz (hvals.mono hle2) hy (by omega) h3) trivial,trivial,?_,fun s1 hs1=>?_⟩
   ·refine hS2.perm ?_
    have q:=((d2 .dead).append_left ex).symm
    simpa [nodesC] using q
   ·refine zb d1.symm ?_
    have:=zb (d2 .dead) (by simpa [nodesC] using hs1)
    simp only [stamps,List.map_append,List.mem_append]
    exact .inr (by simpa [nodesC] using this)
  ·-- a step inwards
   have hne:(r'.hop o' s').hops≠[]:=by simp [Loc.hop]
   rw [if_neg hne]
   rw [z4y] at hs hp'
   subst hs
   rw [at_hop] at ha
   obtain ⟨ds,hds,ha1⟩:=Option.bind_eq_some_iff.1 ha
   obtain ⟨c1,hc1,ha2⟩:=Option.bind_eq_some_iff.1 ha1
   split at ha2
   ·simp only [Option.some.injEq] at ha2;subst ha2
    rw [z79 hds hc1]
    obtain ⟨rest,d1,d2⟩:=z2b hds
    obtain ⟨rest2,q1,q2⟩:=z35 hc1
    have hS1:SimN ι B w.heap ((s,xs.map C.v)::((r'.last,ds.map sh)::(ex++(rest2++rest)))):=by
     refine hS.perm (((d1.append_left ex)).trans ?_)
     have:((r'.last,ds.map sh)::(z5 ds++rest)).Perm ((s,xs.map C.v)::((r'.last,ds.map sh)::(rest2++rest))):=by
      have a1:=(q1.append_right rest).cons (r'.last,ds.map sh)
      simp only [nodesC,hcell,hnc,List.nil_append,List.cons_append] at a1
      exact a1.trans (Perm.swap _ _ _)
     refine (this.append_left ex).trans ?_
     exact List.perm_middle.trans (List.Perm.cons _ List.perm_middle)
    obtain ⟨_,ca,ety,hb,hsz,hle,hcv⟩:=hS1.lie s _ (List.mem_cons_self ..) p hp'
    obtain ⟨hS2,hle2⟩:=hS1.freeze hp' hb
    have hfz:(ι.freeze p.blk ca.toList).fz p.blk=some ca.toList:=by simp [Inj.freeze]
    have hvals:=(hcv.vals (by simp at hle ⊢;omega)).mono hle2
    have hS3:SimN (ι.freeze p.blk ca.toList) B w.heap ((r'.last,(ds.set o' (.v (.fz xs n e false))).map sh)::(ex++(rest2++rest))):=by
     refine hS2.same (by simp) fun us hus i c hc=>?_
     rw [List.getElem?_map,List.getElem?_set] at hc
     split at hc
     ·rename_i e1;subst e1
      have hlt:=(List.getElem?_eq_some_iff.1 hc1).1
      simp only [hlt,if_true,Option.map_some,Option.some.injEq] at hc;subst hc
      obtain ⟨v,hv,rv⟩:=hus o' (sh (.arr s n e cs)) (by rw [List.getElem?_map,hc1];rfl)
      refine ⟨v,hv,?_⟩
      cases rv with
      | arr k k1 k3 k4 =>
       rename_i cap2 o2 p2
       have:(ι.freeze p.blk ca.toList).at_ s=some p:=hle2.at_ _ _ hp'
       rw [this] at k;obtain rfl:=Option.some.inj k
       exact .v (z4x (off:=p.off) (tot:=p.tot) hfz hvals hx0 k1 (by simpa using k3)) trivial
     ·exact hus i c (by rw [List.getElem?_map];exact hc)
    refine ⟨_,hle2,rfl,.v (z4x (off:=p.off) (tot:=p.tot) hfz hvals hy (by omega) h3) trivial,trivial,?_,fun s1 hs1=>?_⟩
    ·refine hS3.perm ?_
     simp only [nodesC,List.nil_append]
     refine Perm.symm (((d2 _).append_left ex).trans ?_)
     have q:=q2 (.v (.fz xs n e false))
     simp only [nodesC,List.nil_append] at q
     exact List.perm_middle.trans (List.Perm.cons _ ((q.append_right rest).append_left ex))
    ·have k:=zb (d2 (ds.set o' (.v (.fz xs n e false)))) (by simpa [nodesC] using hs1)
     refine zb d1.symm ?_
     simp only [stamps,List.map_cons,List.map_append,List.mem_cons,List.mem_append] at k ⊢
     rcases k with k | k | k
     ·exact .inl k
     ·refine .inr (.inl ?_)
      have k2:=zb (q2 (.v (.fz xs n e false))) k
      refine zb q1.symm ?_
      simp only [stamps,List.map_append,List.mem_append]
      exact .inr (by simpa [nodesC] using k2)
     ·exact .inr (.inr k)
   ·simp at ha2
theorem z7u {ex:Nodes} {h h':H} {own:Bool} {x:V} {u:Value} {c:C} (hS:SimN ι B w.heap (ex++nodesH h)) (hx:RV ι x u) (hv:layC own h x=some (c,h')):Laid ι B w.heap ex h c h' u:=by
 unfold layC at hv
 split at hv
 ·rename_i r
  split at hv
  ·rename_i hb
   split at hv
   ·rename_i s cs hroot
    split at hv
    ·rename_i hs
     simp only [Option.some.injEq,Prod.mk.injEq] at hv
     obtain ⟨rfl,rfl⟩:=hv
     obtain ⟨rest,d1,d2⟩:=z4j hroot
     cases hx with
     | ref hp =>
      rename_i p
      rw [zaz hb.1,← hs] at hp
      have hperm:(nodesH h).Perm (nodesC (.own s cs)++nodesH (z9 h r .dead)):=d1.trans (((d2 .dead).append_left (nodesC (.own s cs))).trans (by simp [nodesC])).symm
      refine ⟨ι,.refl _,rfl,.own hp,trivial,hS.perm (hperm.append_left ex),fun s1 hs1=>zb hperm.symm hs1⟩
    ·simp at hv
   ·simp at hv
  ·simp only [Option.some.injEq,Prod.mk.injEq] at hv
   obtain ⟨rfl,rfl⟩:=hv
   refine .keep hS hx ?_
   cases hx;trivial
 ·rename_i r off len av esz
  have hleaf:Leaf u:=by cases hx;trivial
  split at hv
  ·split at hv
   ·rename_i hb
    split at hv
    ·rename_i s n e cs hroot
     split at hv
     ·rename_i hs
      obtain ⟨hs,rfl,rfl,rfl⟩:=hs
      simp only [Option.some.injEq,Prod.mk.injEq] at hv
      obtain ⟨rfl,rfl⟩:=hv
      obtain ⟨rest,d1,d2⟩:=z4j hroot
      cases hx with
      | sl hp h1 h2 h3 h4 =>
       rename_i cap o p
       rw [zaz hb.1,← hs] at hp
       have hperm:(nodesH h).Perm (nodesC (.arr s n e cs)++nodesH (z9 h r .dead)):=d1.trans (((d2 .dead).append_left (nodesC (.arr s n e cs))).trans (by simp [nodesC])).symm
       refine ⟨ι,.refl _,rfl,.arr hp (by omega) (by simpa using h3) h4,trivial,hS.perm (hperm.append_left ex),fun s1 hs1=>zb hperm.symm hs1⟩
     ·simp at hv
    ·simp at hv
   ·simp only [Option.some.injEq,Prod.mk.injEq] at hv
    obtain ⟨rfl,rfl⟩:=hv
    exact .keep hS hx hleaf
  ·split at hv
   ·split at hv
    ·rename_i s n e cs ha
     split at hv
     ·rename_i hc
      obtain ⟨hs,rfl,hn⟩:=hc
      obtain ⟨xs,hp,hv1⟩:=Option.bind_eq_some_iff.1 hv
      obtain ⟨ys,hy,hv2⟩:=Option.bind_eq_some_iff.1 hv1
      simp only [Option.some.injEq,Prod.mk.injEq] at hv2
      obtain ⟨rfl,rfl⟩:=hv2
      exact zdf hS hx ha hs hn hp hy
     ·simp at hv
    ·simp at hv
   ·simp only [Option.some.injEq,Prod.mk.injEq] at hv
    obtain ⟨rfl,rfl⟩:=hv
    exact .keep hS hx hleaf
 ·simp at hv
 ·simp at hv
 ·simp at hv
 ·simp at hv
 ·rename_i k1 k2 k3 k4 k5 k6
  simp only [Option.some.injEq,Prod.mk.injEq] at hv
  obtain ⟨rfl,rfl⟩:=hv
  refine .keep hS hx ?_
  cases hx<;>try trivial
  ·cases u<;>first | trivial | exact (k5 _ rfl).elim | exact (k6 _ rfl).elim
  ·exact (k3 _ rfl).elim
  ·exact (k4 _ rfl).elim
def ze8 (ι:Inj) (B:Nat) (hp:Array Obj) (ex:Nodes) (h:H) (cs:List C) (h':H) (us:List Value):Prop :=
 ∃ ι',ι.Le ι'∧ι'.at_=ι.at_∧us.length=cs.length∧(∀ (i:Nat) c u,cs[i]?=some c→us[i]?=some u→RC ι' c u∧Leaf u)∧SimN ι' B hp (ex++(z5 cs++nodesH h'))∧∀ s,s∈stamps (z5 cs++nodesH h')→s∈stamps (nodesH h)
theorem z38 {own:Bool}:∀ {xs:List V} {ι:Inj} {ex:Nodes} {h h':H} {us:List Value} {cs:List C},SimN ι B w.heap (ex++nodesH h)→RVs ι xs us→layCs own h xs=some (cs,h')→ze8 ι B w.heap ex h cs h' us
 | [],ι,ex,h,h',us,cs,hS,hx,hv=>by
  simp only [layCs,Option.some.injEq,Prod.mk.injEq] at hv
  obtain ⟨rfl,rfl⟩:=hv
  cases hx
  exact ⟨ι,.refl _,rfl,rfl,fun i c u hc=>by simp at hc,by simpa [z5] using hS,fun s hs=>by simpa [z5] using hs⟩
 | x::xs,ι,ex,h,h',us,cs,hS,hx,hv=>by
  simp only [layCs] at hv
  obtain ⟨⟨c,h1⟩,hc,hv1⟩:=Option.bind_eq_some_iff.1 hv
  obtain ⟨⟨ds,h2⟩,hd,hv2⟩:=Option.bind_eq_some_iff.1 hv1
  simp only [Option.some.injEq,Prod.mk.injEq] at hv2
  obtain ⟨rfl,rfl⟩:=hv2
  cases hx with
  | cons hx ht =>
   obtain ⟨ι1,l1,a1,r1,f1,s1,t1⟩:=z7u hS hx hc
   rw [← List.append_assoc] at s1
   obtain ⟨ι2,l2,a2,n2,r2,s2,t2⟩:=z38 s1 (ht.mono l1) hd
   refine ⟨ι2,l1.trans l2,a2.trans a1,by simp [n2],fun i d u hi hu=>?_,?_,fun s hs=>?_⟩
   ·cases i with
    | zero=>simp only [List.getElem?_cons_zero,Option.some.injEq] at hi hu;subst hi;subst hu;exact ⟨r1.mono l2,f1⟩
    | succ i=>exact r2 i d u (by simpa using hi) (by simpa using hu)
   ·simpa [z5,List.append_assoc] using s2
   ·refine t1 s ?_
    simp only [z5,stamps,List.map_append,List.mem_append] at hs ⊢
    rcases hs with (hs | hs) | hs
    ·exact .inl hs
    ·exact .inr (t2 s (by simp only [stamps,List.map_append,List.mem_append];exact .inl hs))
    ·exact .inr (t2 s (by simp only [stamps,List.map_append,List.mem_append];exact .inr hs))
end
end Go.Ev
namespace Go.Ev
open Go.RowKit (Below)
open List (Perm)
set_option linter.unusedVariables false
set_option linter.unusedSimpArgs false

structure Grew (σ:Stamp) (ι ι':Inj) (ns ns':Nodes):Prop where
 at_:∀ s,¬ σ <:+ s→ι'.at_ s=ι.at_ s
 st:∀ s,s∈stamps ns'→s∈stamps ns∨σ <:+ s
def Fresh (σ:Stamp) (ι:Inj) (ns:Nodes):Prop:=∀ s,σ <:+ s→ι.at_ s=none∧s∉stamps ns
theorem Fresh.sub {σ τ:Stamp} {ι:Inj} {ns:Nodes} (h:Fresh σ ι ns) (ht:σ <:+ τ):Fresh τ ι ns:=fun s hs=>h s (ht.trans hs)
theorem Fresh.self {σ:Stamp} {ι:Inj} {ns:Nodes} (h:Fresh σ ι ns):ι.at_ σ=none∧σ∉stamps ns:=h σ (List.suffix_refl σ)
theorem Grew.of_eq {σ:Stamp} {ι ι':Inj} {ns ns':Nodes} (ha:ι'.at_=ι.at_) (hs:∀ s,s∈stamps ns'→s∈stamps ns):Grew σ ι ι' ns ns':=⟨fun s _=>by rw [ha],fun s h=>.inl (hs s h)⟩
theorem Grew.refl (σ:Stamp) (ι:Inj) (ns:Nodes):Grew σ ι ι ns ns:=.of_eq rfl fun _ h=>h
theorem Grew.put {σ:Stamp} {ι ι':Inj} {ns ns':Nodes} (ha:ι'.at_=ι.at_) {p:Pos} (hs:∀ s,s∈stamps ns'→s∈stamps ns∨s=σ):Grew σ ι (ι'.put σ p) ns ns':=by
 refine ⟨fun s h=>?_,fun s h=>(hs s h).imp id fun e=>by rw [e];exact List.suffix_refl _⟩
 have hne:s≠σ:=fun e=>h (by rw [e];exact List.suffix_refl _)
 rw [Inj.put_ne _ hne,ha]
theorem Grew.trans {σ:Stamp} {a b c:Inj} {x y z:Nodes} (h:Grew σ a b x y) (k:Grew σ b c y z):Grew σ a c x z :=
 ⟨fun s hs=>(k.at_ s hs).trans (h.at_ s hs),fun s hs=>(k.st s hs).elim (fun h'=>h.st s h') .inr⟩
theorem Grew.up {σ τ:Stamp} {a b:Inj} {x y:Nodes} (h:Grew τ a b x y) (ht:σ <:+ τ):Grew σ a b x y :=
 ⟨fun s hs=>h.at_ s fun h'=>hs (ht.trans h'),fun s hs=>(h.st s hs).imp id fun h'=>ht.trans h'⟩
theorem z48 {i j:Nat} {σ s:Stamp} (hij:i≠j) (h:(i::σ) <:+ s):¬ (j::σ) <:+ s:=by
 rintro ⟨b,hb⟩
 obtain ⟨a,ha⟩:=h
 have hl:a.length=b.length:=by
  have h1:=congrArg List.length ha
  have h2:=congrArg List.length hb
  simp at h1 h2;omega
 rw [← hb] at ha
 have:=(List.append_inj ha hl).2
 simp only [List.cons.injEq] at this
 exact hij this.1
theorem Fresh.other {σ:Stamp} {i j:Nat} {ι ι':Inj} {ns ns':Nodes} (hf:Fresh (j::σ) ι ns) (hij:i≠j) (hg:Grew (i::σ) ι ι' ns ns'):Fresh (j::σ) ι' ns':=fun s hs=>by
 have hn:¬ (i::σ) <:+ s:=fun h=>z48 hij h hs
 obtain ⟨h1,h2⟩:=hf s hs
 refine ⟨(hg.at_ s hn).trans h1,fun hm=>?_⟩
 rcases hg.st s hm with h | h
 ·exact h2 h
 ·exact hn h
theorem zd (i:Nat) (σ:Stamp):σ <:+ (i::σ):=⟨[i],rfl⟩

theorem zbv {v:Value} (h:Leaf v):v.oneCell'=true:=by cases v<;>first | rfl | exact h.elim
theorem z36 {P:Program} {ι:Inj} {B:Nat} {s:Stamp} {p:Pos} {ns:Nodes} (hp:ι.at_ s=some p) (o:Nat):∀ (us:List Value) (ds:List C) (i:Nat) {w:World} {cells:List C},SimN ι B w.heap ((s,cells)::ns) →
  us.length=ds.length→(∀ (j:Nat) c u,ds[j]?=some c→us[j]?=some u→RC ι c u∧Leaf u)→o+i+us.length≤cells.length →
  ∃ w',(storeCells ⟨p.blk,p.off+o,none⟩ us i).run P w=.ok () w'∧SimN ι B w'.heap ((s,cells.take (o+i)++ds.map sh++cells.drop (o+i+ds.length))::ns)∧Below B w w'∧w'.heap.size=w.heap.size
 | [],ds,i,w,cells,hS,hl,_,_=>by
  have:ds=[]:=List.length_eq_zero_iff.1 (by simpa using hl.symm)
  subst this
  exact ⟨w,rfl,by simpa using hS,.refl _ _,rfl⟩
 | u::us,ds,i,w,cells,hS,hl,hc,hb=>by
  cases ds with
  | nil=>simp at hl
  | cons d ds =>
   obtain ⟨hB,ca,ety,hblk,hsz,hle,_⟩:=hS.lie s cells (List.mem_cons_self ..) p hp
   simp only [List.length_cons] at hb hl
   obtain ⟨rc,lf⟩:=hc 0 d u rfl rfl
   have hcell:(w.cell? ⟨p.blk,p.off+(o+i),none⟩).isSome=true:=by
    rw [z4v hblk]
    have:p.off+(o+i)<ca.size:=by omega
    simp [this]
   obtain ⟨x,hx⟩:=Option.isSome_iff_exists.1 hcell
   have hfr:w.frozen? ⟨p.blk,p.off+(o+i),none⟩=false:=z25 hblk
   have h1:=hS.set hp (i:=o+i) (c:=d) (v:=u) (by omega) rc
   obtain ⟨w',k1,k2,k3,k4⟩:=z36 (P:=P) hp o us ds (i+1) h1 (by omega) (fun j c u a b=>hc (j+1) c u a b) (by simp;omega)
   refine ⟨w',?_,?_,(Below.refl _ _).setCell hB _ |>.trans k3,by rw [k4];simp⟩
   ·rw [storeCells,Sem.run_bind,Addr.add_lit,Nat.add_assoc,run_store P w _ u .plain (zbv lf),hx]
    simp only [hfr,Bool.false_eq_true,if_false,Result.andThen_ok]
    exact k1
   ·have e:(cells.set (o+i) (sh d)).take (o+(i+1))++ds.map sh++(cells.set (o+i) (sh d)).drop (o+(i+1)+ds.length)=cells.take (o+i)++(d::ds).map sh++cells.drop (o+i+(d::ds).length):=by
     apply List.ext_getElem?
     intro j
     simp only [List.getElem?_append,List.length_append,List.length_take,List.length_set,List.length_map,List.getElem?_take,List.getElem?_drop,List.getElem?_set,List.length_cons,List.map_cons]
     rw [show min (o+(i+1)) cells.length=o+i+1 by omega,show min (o+i) cells.length=o+i by omega]
     rcases Nat.lt_or_ge j (o+i) with q | q
     ·rw [if_pos (by omega),if_pos (by omega),if_pos (by omega),if_neg (by omega),if_pos (by omega),if_pos (by omega),if_pos (by omega)]
     ·rcases Nat.eq_or_lt_of_le q with q2 | q2
      ·subst q2
       rw [if_pos (by omega),if_pos (by omega),if_pos (by omega),if_pos rfl,if_pos (by omega),if_pos (by omega),if_neg (by omega)]
       simp
      ·rcases Nat.lt_or_ge j (o+i+1+ds.length) with q3 | q3
       ·rw [if_pos (by omega),if_neg (by omega),if_pos (by omega),if_neg (by omega)]
        rw [show j-(o+i)=(j-(o+i+1))+1 by omega,List.getElem?_cons_succ]
       ·rw [if_neg (by omega),if_neg (by omega),if_neg (by omega)]
        congr 1;omega
    rw [e] at k2;exact k2

section
variable {P:Program} {B:Nat}
def DidE (P:Program) (B:Nat) (σ:Stamp) (ι:Inj) (w:World) (h:H) (s:Sem Next) (v:V) (h':H):Prop :=
 ∃ ι' w' nx u,s.run P w=.ok nx w'∧(nx=.value u∨(nx=.skip∧u=undef))∧RV ι' v u∧SimN ι' B w'.heap (nodesH h')∧ι.Le ι'∧Grew σ ι ι' (nodesH h) (nodesH h')∧Below B w w'
theorem z9y {σ:Stamp} {ι ι':Inj} {h h':H} {cs:List C} (hf:Fresh σ ι (nodesH h)) (ha:ι'.at_=ι.at_) (hs:∀ s,s∈stamps (z5 cs++nodesH h')→s∈stamps (nodesH h)):ι'.at_ σ=none∧σ∉stamps (z5 cs++nodesH h') :=
 ⟨by rw [ha];exact hf.self.1,fun hm=>hf.self.2 (hs _ hm)⟩
theorem z7m {σ:Stamp} {ι ι':Inj} {h h':H} {cs ds:List C} {c:C} {d:Nat} (ha:ι'.at_=ι.at_) (p:Pos) (hc:nodesC c=(σ,ds)::z5 cs) (hs:∀ s,s∈stamps (z5 cs++nodesH h')→s∈stamps (nodesH h)) :
  Grew σ ι (ι'.put σ p) (nodesH h) (nodesH (zf h' d [c])):=by
 refine Grew.put ha fun s hm=>?_
 have:=z16 (z24 h' d [c]) hm
 simp only [z5,List.append_nil,hc,stamps,List.map_cons,List.cons_append,List.mem_cons] at this
 rcases this with rfl | k
 ·exact .inr rfl
 ·exact .inl (hs s (by simpa [stamps] using k))
theorem z81 {ι:Inj} {cs:List C} {us vs:List Value} (hl:us.length=cs.length) (h:∀ (i:Nat) c u,cs[i]?=some c→us[i]?=some u→RC ι c u):RCs ι (cs.map sh) (us++vs):=fun i c hc=>by
 rw [List.getElem?_map] at hc
 cases hd:cs[i]? with
 | none=>simp [hd] at hc
 | some d =>
  simp only [hd,Option.map_some,Option.some.injEq] at hc
  have hi:i<us.length:=by have:=(List.getElem?_eq_some_iff.1 hd).1;omega
  refine ⟨us[i],?_,hc▸(h i d us[i] hd (by simp [hi])).sh⟩
  rw [List.getElem?_append_left hi];simp [hi]
theorem za9 {σ:Stamp} {ι ι1:Inj} {w:World} {h h1:H} {cs:List C} {us:List Value} {t:TypeId} {d:Nat} (hB:B≤w.heap.size) (hf:Fresh σ ι (nodesH h)) (l1:ι.Le ι1) (a1:ι1.at_=ι.at_) (hl:us.length=cs.length)
  (hr:∀ (i:Nat) c u,cs[i]?=some c→us[i]?=some u→RC ι1 c u) (hS:SimN ι1 B w.heap (z5 cs++nodesH h1)) (hs:∀ s,s∈stamps (z5 cs++nodesH h1)→s∈stamps (nodesH h)) (u:Value) (hu:u.cells.toList=us) :
  DidE P B σ ι w h (do pure (.value (← (do pure (.pointer (some (← newVar t u))))))) (.ref (newLoc h1 d σ) 0) (zf h1 d [.own σ cs]):=by
 obtain ⟨k1,k2⟩:=z9y hf a1 hs
 have hsz:u.cells.size=cs.length:=by rw [← Array.length_toList,hu,hl]
 have hp:=Inj.Le.put k1 ⟨w.heap.size,0,u.cells.size⟩
 have hS2:=hS.new (s:=σ) (cells:=cs.map sh) (vals:=u.cells) (ety:=t) k1 k2 hB (by
  rw [hu]
  have:=z81 (vs:=[]) hl hr
  rw [List.append_nil] at this
  exact this.mono hp) (by simp [hsz])
 refine ⟨ι1.put σ ⟨w.heap.size,0,u.cells.size⟩,w.alloc (.cells u.cells t),_,.pointer (some ⟨w.heap.size,0,none⟩),by simp [newVar,newRow],.inl rfl,?_,?_,l1.trans hp,z7m a1 _ rfl hs,(Below.refl _ _).alloc hB _⟩
 ·have:=RV.ref (ι:=ι1.put σ ⟨w.heap.size,0,u.cells.size⟩) (l:=newLoc h1 d σ) (off:=0) (by show _=some _;exact Inj.put_same _ _ _)
  exact this
 ·refine hS2.part ?_
  refine (z24 h1 d [.own σ cs]).trans (.of_perm ?_)
  simp [z5,nodesC]
theorem ze6 {G:Cfg} {σ:Stamp} {ι:Inj} {w:World} {h h':H} {d:Nat} {t:TypeId} {v:V} (hB:B≤w.heap.size) (hS:SimN ι B w.heap (nodesH h)) (hf:Fresh σ ι (nodesH h)) (hv:allocV G σ d h t=some (v,h')) :
  DidE G.P B σ ι w h (do pure (.value (← Instr.alloc t true (.tuple #[])))) v h':=by
 unfold allocV at hv
 obtain ⟨z,hz,hv⟩:=Option.bind_eq_some_iff.1 hv
 obtain ⟨i,z0,hi,h0,rfl,hleaf⟩:=z1m hz
 split at hv
 ·simp only [Option.some.injEq,Prod.mk.injEq] at hv
  obtain ⟨rfl,rfl⟩:=hv
  have hn:z5 ((z0.cells.toList.map V.p).map C.v)=[]:=z3f _
  obtain ⟨ι',w',nx,u,e1,e2⟩:=za9 (P:=G.P) (B:=B) (t:=t) (d:=d) (h:=h) (h1:=h) (cs:=(z0.cells.toList.map V.p).map C.v) (us:=z0.cells.toList) hB hf (.refl ι) rfl (by simp) (fun j c u hc hu=>by
   simp only [List.getElem?_map,hu,Option.map_some,Option.some.injEq] at hc
   subst hc
   exact .v (.p _) (hleaf u (List.mem_of_getElem? hu))) (by rw [hn];simpa using hS) (fun s hs=>by rw [hn] at hs;simpa using hs) z0 rfl
  refine ⟨ι',w',nx,u,?_,e2⟩
  rw [← e1]
  simp [Instr.alloc,z1r (w:=w) hi h0]
 ·simp at hv
theorem box_ok {G:Cfg} {σ:Stamp} {ι:Inj} {w:World} {h h':H} {d:Nat} {t:TypeId} {x v:V} {u:Value} (hB:B≤w.heap.size) (hS:SimN ι B w.heap (nodesH h)) (hf:Fresh σ ι (nodesH h)) (hx:RV ι x u) (hv:boxV G σ d h t x=some (v,h')) :
  DidE G.P B σ ι w h (do pure (.value (← Instr.box t u))) v h':=by
 unfold boxV at hv
 obtain ⟨⟨cs,h1⟩,hc,hv⟩:=Option.bind_eq_some_iff.1 hv
 simp only [Option.some.injEq,Prod.mk.injEq] at hv
 obtain ⟨rfl,rfl⟩:=hv
 obtain ⟨ι1,l1,a1,n1,r1,s1,t1⟩:=z38 (ex:=[]) (by simpa using hS) (z6f hx) hc
 exact za9 hB hf l1 a1 n1 (fun i c u a b=>(r1 i c u a b).1) (by simpa using s1) t1 u rfl
theorem z67:∀ {xs ys:List V} {ι:Inj} {ex:Nodes} {h h':H} {us:List Value} {w:World},SimN ι B w.heap (ex++nodesH h)→RVs ι xs us→frzCs h xs=some (ys,h') →
  ∃ ι',ι.Le ι'∧ι'.at_=ι.at_∧RVs ι' ys us∧SimN ι' B w.heap (ex++nodesH h')∧∀ s,s∈stamps (nodesH h')→s∈stamps (nodesH h)
 | [],ys,ι,ex,h,h',us,w,hS,hx,hv=>by
  simp only [frzCs,Option.some.injEq,Prod.mk.injEq] at hv
  obtain ⟨rfl,rfl⟩:=hv
  exact ⟨ι,.refl _,rfl,hx,hS,fun s hs=>hs⟩
 | x::xs,ys,ι,ex,h,h',us,w,hS,hx,hv=>by
  simp only [frzCs] at hv
  obtain ⟨⟨c,h1⟩,hc,hv1⟩:=Option.bind_eq_some_iff.1 hv
  clear hv
  cases hx with
  | cons hx1 hx2 =>
   obtain ⟨ι1,l1,a1,r1,_,s1,t1⟩:=z7u hS hx1 hc
   simp only at hv1
   split at hv1
   ·rename_i y
    obtain ⟨⟨zs,h2⟩,hd,hv2⟩:=Option.map_eq_some_iff.1 hv1
    simp only [Prod.mk.injEq] at hv2
    obtain ⟨rfl,rfl⟩:=hv2
    simp only [nodesC,List.nil_append] at s1 t1
    obtain ⟨ι2,l2,a2,r2,s2,t2⟩:=z67 s1 (hx2.mono l1) hd
    cases r1 with
    | v r1 _=>exact ⟨ι2,l1.trans l2,a2.trans a1,.cons (r1.mono l2) r2,s2,fun s hs=>t1 s (t2 s hs)⟩
   ·simp at hv1
theorem zc9 {x y:V} {ι:Inj} {ex:Nodes} {h h':H} {u:Value} {w:World} (hS:SimN ι B w.heap (ex++nodesH h)) (hx:RV ι x u) (hv:frzA h x=some (y,h')) :
  ∃ ι',ι.Le ι'∧ι'.at_=ι.at_∧RV ι' y u∧SimN ι' B w.heap (ex++nodesH h')∧∀ s,s∈stamps (nodesH h')→s∈stamps (nodesH h):=by
 unfold frzA at hv
 split at hv
 ·simp only [Option.some.injEq,Prod.mk.injEq] at hv
  obtain ⟨rfl,rfl⟩:=hv
  exact ⟨ι,.refl _,rfl,hx,hS,fun s hs=>hs⟩
 ·obtain ⟨q,hq,hv⟩:=Option.map_eq_some_iff.1 hv
  simp only [Prod.mk.injEq] at hv
  obtain ⟨rfl,rfl⟩:=hv
  cases hx with
  | agg hc =>
   obtain ⟨ι1,l1,a1,r1,s1,t1⟩:=z67 hS hc hq
   exact ⟨ι1,l1,a1,.agg r1,s1,t1⟩
 ·obtain ⟨q,hq,hv⟩:=Option.map_eq_some_iff.1 hv
  simp only [Prod.mk.injEq] at hv
  obtain ⟨rfl,rfl⟩:=hv
  cases hx with
  | fz g1 g2 g3 g4 g5 =>
   obtain ⟨ι1,l1,a1,r1,s1,t1⟩:=z67 hS g5 hq
   have e1:=r1.length;have e2:=g5.length
   have e3:q.1.length=_:=e1.symm.trans e2
   exact ⟨ι1,l1,a1,.fz (l1.fz _ _ g1) g2 (fun x=>⟨(g3 x).1,l1.nw _ (g3 x).2⟩) (e3.trans g4) (by rw [e3];exact r1),s1,t1⟩
  | fz0 ht0 =>
   simp only [frzCs,Option.some.injEq] at hq
   subst hq
   exact ⟨ι,.refl _,rfl,.fz0 ht0,hS,fun s hs=>hs⟩
 ·obtain ⟨⟨c,h1⟩,hq,hv⟩:=Option.bind_eq_some_iff.1 hv
  simp only at hv
  split at hv
  ·simp only [Option.some.injEq,Prod.mk.injEq] at hv
   obtain ⟨rfl,rfl⟩:=hv
   obtain ⟨ι1,l1,a1,r1,_,s1,t1⟩:=z7u hS hx hq
   simp only [nodesC,List.nil_append] at s1 t1
   cases r1 with
   | v r1 _=>exact ⟨ι1,l1,a1,r1,s1,t1⟩
  ·simp at hv
theorem zbc:∀ {xs ys:List V} {ι:Inj} {ex:Nodes} {h h':H} {us:List Value} {w:World},SimN ι B w.heap (ex++nodesH h)→RVs ι xs us→frzAs h xs=some (ys,h') →
  ∃ ι',ι.Le ι'∧ι'.at_=ι.at_∧RVs ι' ys us∧SimN ι' B w.heap (ex++nodesH h')∧∀ s,s∈stamps (nodesH h')→s∈stamps (nodesH h)
 | [],ys,ι,ex,h,h',us,w,hS,hx,hv=>by
  simp only [frzAs,Option.some.injEq,Prod.mk.injEq] at hv
  obtain ⟨rfl,rfl⟩:=hv
  exact ⟨ι,.refl _,rfl,hx,hS,fun s hs=>hs⟩
 | x::xs,ys,ι,ex,h,h',us,w,hS,hx,hv=>by
  simp only [frzAs] at hv
  obtain ⟨q,hc,hv1⟩:=Option.bind_eq_some_iff.1 hv
  obtain ⟨r,hr,hv2⟩:=Option.map_eq_some_iff.1 hv1
  simp only [Prod.mk.injEq] at hv2
  obtain ⟨rfl,rfl⟩:=hv2
  cases hx with
  | cons hx1 hx2 =>
   obtain ⟨ι1,l1,a1,r1,s1,t1⟩:=zc9 hS hx1 hc
   obtain ⟨ι2,l2,a2,r2,s2,t2⟩:=zbc s1 (hx2.mono l1) hr
   exact ⟨ι2,l1.trans l2,a2.trans a1,.cons (r1.mono l2) r2,s2,fun s hs=>t1 s (t2 s hs)⟩
theorem ze5 {b:Bool} {xs ys:List V} {ι:Inj} {h h':H} {us:List Value} {w:World} (hS:SimN ι B w.heap (nodesH h)) (hx:RVs ι xs us) (hv:frzIf b h xs=some (ys,h')) :
  ∃ ι',ι.Le ι'∧ι'.at_=ι.at_∧RVs ι' ys us∧SimN ι' B w.heap (nodesH h')∧∀ s,s∈stamps (nodesH h')→s∈stamps (nodesH h):=by
 unfold frzIf at hv
 split at hv
 ·simpa using zbc (ex:=[]) (by simpa using hS) hx hv
 ·simp only [Option.some.injEq,Prod.mk.injEq] at hv
  obtain ⟨rfl,rfl⟩:=hv
  exact ⟨ι,.refl _,rfl,hx,hS,fun s hs=>hs⟩
theorem z6u {G:Cfg} {σ:Stamp} {ι:Inj} {w:World} {h h':H} {d:Nat} {t:TypeId} {n c v:V} {un uc:Value} (hB:B≤w.heap.size) (hS:SimN ι B w.heap (nodesH h)) (hf:Fresh σ ι (nodesH h)) (hn:RV ι n un) (hc:RV ι c uc) (hv:z46 G σ d h t n c=some (v,h')) :
  DidE G.P B σ ι w h (do pure (.value (← Instr.makeSlice t un uc))) v h':=by
 unfold z46 at hv
 obtain ⟨e,he,hv⟩:=Option.bind_eq_some_iff.1 hv
 obtain ⟨hu,hk⟩:=zq he
 obtain ⟨z,hz,hv⟩:=Option.bind_eq_some_iff.1 hv
 obtain ⟨i,z0,hi,h0,rfl,hleaf⟩:=z1m hz
 obtain ⟨n',hn',hv⟩:=Option.bind_eq_some_iff.1 hv
 obtain ⟨c',hc',hv⟩:=Option.bind_eq_some_iff.1 hv
 obtain ⟨kn,rfl⟩:=asI_ok hn' hn
 obtain ⟨kc,rfl⟩:=asI_ok hc' hc
 split at hv
 ·rename_i hcond
  obtain ⟨c0,c1,c2,c3,c4,c5⟩:=hcond
  simp only [Option.some.injEq,Prod.mk.injEq] at hv
  obtain ⟨rfl,rfl⟩:=hv
  simp only [List.length_map,Array.length_toList] at c4
  have hb:tbytes G.P e=i.bytes:=by simp [tbytes,hi]
  have hs':tsize G.P e=i.size:=by simp [tsize,hi]
  rw [hb] at c2
  have hnode:z5 ((rept n'.toNat (z0.cells.toList.map V.p)).map C.v)=[]:=z3f _
  have hcz:(Array.range (c'.toNat*tsize G.P e)).map (z0.cells[· % z0.cells.size]!)=(rept c'.toNat z0.cells.toList).toArray:=by
   apply Array.ext'
   rw [← c4,z42]
  have hlen:(rept c'.toNat z0.cells.toList).length=c'.toNat*tsize G.P e:=by rw [z15,← c4];simp
  have hlen2:(rept n'.toNat z0.cells.toList).length=n'.toNat*tsize G.P e:=by rw [z15,← c4];simp
  obtain ⟨k1,k2⟩:=hf.self
  have hp:=Inj.Le.put k1 ⟨w.heap.size,0,c'.toNat*tsize G.P e⟩
  have hnc:n'.toNat*tsize G.P e≤c'.toNat*tsize G.P e:=Nat.mul_le_mul_right _ (by omega)
  have hsz:((rept c'.toNat z0.cells.toList).toArray).size=c'.toNat*tsize G.P e:=by simp [hlen]
  have hS2:=hS.new (s:=σ) (cells:=((rept n'.toNat (z0.cells.toList.map V.p)).map C.v).map sh) (vals:=(rept c'.toNat z0.cells.toList).toArray) (ety:=e) k1 k2 hB (by
   rw [hsz]
   intro j c hj
   rw [z8l] at hj
   have hjl:j<n'.toNat*z0.cells.toList.length:=by
    have:=(List.getElem?_eq_some_iff.1 hj).1
    simp only [List.length_map,z15] at this
    simpa using this
   have hjc:j<c'.toNat*z0.cells.toList.length:=by
    have:=Nat.mul_le_mul_right z0.cells.toList.length (show n'.toNat≤c'.toNat by omega)
    omega
   rw [List.getElem?_map,z4w _ _ _ (by simpa using hjl)] at hj
   rw [z4w _ _ _ hjc]
   simp only [List.length_map] at hj
   cases hd:z0.cells.toList[j % z0.cells.toList.length]? with
   | none=>rw [List.getElem?_map,hd] at hj;simp at hj
   | some x =>
    rw [List.getElem?_map,hd] at hj
    simp only [Option.map_some,Option.some.injEq] at hj
    subst hj
    exact ⟨x,rfl,.v (.p _) (hleaf x (List.mem_of_getElem? hd))⟩) (by simp only [List.length_map,z15,hsz];rw [Array.length_toList,c4];exact hnc)
  rw [hsz] at hS2
  have hneg:∀ m:Int,0≤m→m≤c'→(decide (m<0)||decide ((i.bytes:Int)*m>2^48))=false:=fun m h1 h2=>by
   have h3:(i.bytes:Int)*m≤i.bytes*c':=Int.mul_le_mul_of_nonneg_left h2 (by omega)
   have h4:(i.bytes:Int)*c'≤2^47:=by rw [Int.mul_comm];exact c2
   have e1:decide (m<0)=false:=decide_eq_false (by omega)
   have e2:decide ((i.bytes:Int)*m>2^48)=false:=decide_eq_false (by omega)
   rw [e1,e2];rfl
  have w1:IntKind.i64.wrap n'=n':=by rw [IntKind.wrap_i64];omega
  have w2:IntKind.i64.wrap c'=c':=by rw [IntKind.wrap_i64];omega
  refine ⟨ι.put σ ⟨w.heap.size,0,c'.toNat*tsize G.P e⟩,w.alloc (.cells (rept c'.toNat z0.cells.toList).toArray e),_,.slice (some ⟨w.heap.size,0,none⟩) n'.toNat c'.toNat,?_,.inl rfl,?_,?_,hp,?_,(Below.refl _ _).alloc hB _⟩
  ·have ht:((((decide (c'<0)||decide ((i.bytes:Int)*c'>2^48))||decide (n'<0))||decide (n'>c'))=true)=False:=by
    rw [hneg c' (by omega) (Int.le_refl _),decide_eq_false (by omega:¬ n'<0),decide_eq_false (by omega:¬ n'>c')];simp
   simp only [Instr.makeSlice,Sem.run_bind,run_underlying hu,Result.andThen_ok,asInt,asIntOf,Sem.run_pure,z11 w hi,w1,w2,ht,if_false,run_askRoom,zk w hk]
   by_cases hz0:c'.toNat*tsize G.P e=0
   ·have hc0:c'.toNat=0:=by
     rcases Nat.eq_zero_or_pos c'.toNat with h | h
     ·exact h
     ·have:=Nat.mul_pos h (Nat.pos_of_ne_zero c5);omega
    simp [hz0,newRow,hc0,rept,Array.range_zero']
   ·simp only [hz0,if_false,Sem.run_bind,z1r (w:=w) hi h0,Result.andThen_ok,Sem.run_pure]
    rw [hcz]
    simp [newRow]
  ·refine .sl (p:=⟨w.heap.size,0,c'.toNat*tsize G.P e⟩) (by show _=some _;exact Inj.put_same _ _ _) (by omega) (Nat.le_refl _) (fun _=>rfl) (fun _=>by simp)
  ·refine hS2.part ?_
   refine (z24 h d _).trans (.of_perm ?_)
   simp [z5,nodesC,hnode]
  ·refine z7m (cs:=((rept n'.toNat (z0.cells.toList.map V.p)).map C.v)) rfl _ rfl fun s hs=>?_
   rw [hnode] at hs;simpa using hs
 ·simp at hv
theorem zax {G:Cfg} {σ:Stamp} {ι:Inj} {w:World} {h h':H} {d:Nat} {t:TypeId} {n c v:V} {un uc:Value} (hB:B≤w.heap.size) (hS:SimN ι B w.heap (nodesH h)) (hf:Fresh σ ι (nodesH h)) (hn:RV ι n un) (hc:RV ι c uc) (hv:z6o G σ d h t n c=some (v,h')) :
  DidE G.P B σ ι w h (do pure (.value (← Instr.makeSlice t un uc))) v h':=by
 unfold z6o at hv
 split at hv
 ·exact z6u hB hS hf hn hc hv
 ·obtain ⟨⟨v0,h0⟩,hq,hv⟩:=Option.bind_eq_some_iff.1 hv
  obtain ⟨ι1,w1,nx,u,g1,g2,g3,g4,g5,g6,g7⟩:=z6u hB hS hf hn hc hq
  obtain ⟨ι2,l2,a2,r2,s2,t2⟩:=zc9 (ex:=[]) (by simpa using g4) g3 hv
  exact ⟨ι2,w1,nx,u,g1,g2,r2,by simpa using s2,g5.trans l2,g6.trans (.of_eq a2 t2),g7⟩
end
end Go.Ev
namespace Go.Ev
open Go.RowKit (Below)
open List (Perm)
set_option linter.unusedVariables false
set_option linter.unusedSimpArgs false

theorem zby (cs ds:List C) (a b:Nat) (hab:a≤b):Part (z5 (cs.take a++ds++cs.drop b)) (z5 ds++z5 cs):=by
 rw [zr,zr]
 have e:z5 cs=z5 (cs.take a)++(z5 ((cs.drop a).take (b-a))++z5 (cs.drop b)):=by
  rw [← zr,← zr]
  congr 1
  have h1:cs.drop b=(cs.drop a).drop (b-a):=by rw [List.drop_drop];congr 1;omega
  rw [h1,List.take_append_drop,List.take_append_drop]
 rw [e]
 have p1:Part (z5 (cs.take a)++z5 (cs.drop b)) (z5 (cs.take a)++(z5 ((cs.drop a).take (b-a))++z5 (cs.drop b))):=Part.append_left _ (Part.right _ _)
 refine (Part.of_perm ?_).trans (Part.append_left (z5 ds) p1)
 rw [List.append_assoc]
 exact swap3 _ _ _
theorem z4d (ds:List C) (o k:Nat):Part (z5 ((ds.drop o).take k)) (z5 ds):=by
 have e:z5 ds=z5 (ds.take o)++(z5 ((ds.drop o).take k)++z5 ((ds.drop o).drop k)):=by
  rw [← zr,← zr,List.take_append_drop,List.take_append_drop]
 rw [e]
 exact (Part.left _ _).trans (Part.right _ _)
theorem z58 {ds:List C} {o k i:Nat} {c:C} (h:(((ds.drop o).take k).map sh)[i]?=some c):(ds.map sh)[o+i]?=some c:=by
 rw [List.getElem?_map] at h ⊢
 cases hd:((ds.drop o).take k)[i]? with
 | none=>simp [hd] at h
 | some d =>
  have hi:i<k:=by have:=(List.getElem?_eq_some_iff.1 hd).1;simp at this;omega
  rw [List.getElem?_take_of_lt hi,List.getElem?_drop] at h
  exact h
theorem zb4 {l:Loc} {off:Nat} {c:Option C} {x:V} (h:z3e l off c x=true):∃ s n e ds r o len av esz,c=some (.arr s n e ds)∧x=.sl r o len av esz∧r.last=s:=by
 unfold z3e at h
 split at h
 ·rename_i s n e ds r o len av esz
  exact ⟨s,n,e,ds,r,o,len,av,esz,rfl,rfl,by rw [of_decide_eq_true h,z4y]⟩
 ·simp at h
theorem zbu {σ s:Stamp} {n e:Nat} {ds:List C} {r:Loc} {o len av esz:Nat} {c':C} (h:cutArr σ (some (.arr s n e ds)) (.sl r o len av esz)=some c') :
  e=esz∧∃ ds',rng ds o (len*esz)=some ds'∧c'=.arr (if o=0 then s else σ) len esz ds':=by
 simp only [cutArr] at h
 split at h
 ·rename_i he
  obtain ⟨ds',h1,rfl⟩:=Option.map_eq_some_iff.1 h
  exact ⟨he,ds',h1,rfl⟩
 ·simp at h
section
variable {P:Program} {B:Nat} {ι:Inj} {w:World}

theorem z4k {h:H} {l:Loc} {cs ds:List C} {us:List Value} {p:Pos} {off:Nat} (hS:SimN ι B w.heap (z5 ds++nodesH h)) (hn:nd h l=some cs) (hp:ι.at_ l.last=some p) (hl:us.length=ds.length)
  (hr:∀ (i:Nat) c u,ds[i]?=some c→us[i]?=some u→RC ι c u∧Leaf u) (hb:off+ds.length≤cs.length) :
  ∃ w',(storeCells ⟨p.blk,p.off+off,none⟩ us).run P w=.ok () w'∧SimN ι B w'.heap (nodesH (setNd h l (cs.take off++ds++cs.drop (off+ds.length))))∧Below B w w' ∧
   ∀ s,s∈stamps (nodesH (setNd h l (cs.take off++ds++cs.drop (off+ds.length))))→s∈stamps (z5 ds++nodesH h):=by
 obtain ⟨rest,d1,d2⟩:=z2b hn
 have hS1:SimN ι B w.heap ((l.last,cs.map sh)::(z5 ds++(z5 cs++rest))):=hS.perm ((d1.append_left _).trans List.perm_middle)
 obtain ⟨w',k1,k2,k3,_⟩:=z36 (P:=P) hp off us ds 0 hS1 hl hr (by simp;omega)
 have pt:Part (nodesH (setNd h l (cs.take off++ds++cs.drop (off+ds.length)))) ((l.last,(cs.map sh).take (off+0)++ds.map sh++(cs.map sh).drop (off+0+ds.length))::(z5 ds++(z5 cs++rest))):=by
  refine (Part.of_perm (d2 _)).trans ?_
  have e:(cs.take off++ds++cs.drop (off+ds.length)).map sh=(cs.map sh).take (off+0)++ds.map sh++(cs.map sh).drop (off+0+ds.length):=by simp [List.map_take,List.map_drop]
  rw [e]
  refine Part.cons _ ?_
  have:=Part.append_right (zby cs ds off (off+ds.length) (by omega)) rest
  simpa only [List.append_assoc] using this
 refine ⟨w',k1,k2.part pt,k3,fun s hs=>?_⟩
 have a1:=z16 pt hs
 have a2:stamps ((l.last,(cs.map sh).take (off+0)++ds.map sh++(cs.map sh).drop (off+0+ds.length))::(z5 ds++(z5 cs++rest)))=stamps ((l.last,cs.map sh)::(z5 ds++(z5 cs++rest))):=rfl
 rw [a2] at a1
 exact zb ((d1.append_left _).trans List.perm_middle).symm a1

theorem z7x {ex:Nodes} {h:H} {l:Loc} {c:C} (hS:SimN ι B w.heap (ex++nodesH h)) (ha:at_ h l=some c) :
  SimN ι B w.heap (ex++(nodesC c++nodesH (setAt h l .dead)))∧∀ s,s∈stamps (nodesC c++nodesH (setAt h l .dead))→s∈stamps (nodesH h):=by
 rcases Loc.cases_hop l with hr | ⟨r',o',s',rfl⟩
 ·have hroot:rootC h l=some c:=by
   unfold at_ at ha
   cases hc:rootC h l with
   | none=>simp [hc] at ha
   | some c=>rw [hr] at ha;simp only [hc,Option.bind_some,find] at ha;split at ha<;>simp_all
  obtain ⟨rest,d1,d2⟩:=z4j hroot
  have hset:setAt h l .dead=z9 h l .dead:=by simp [setAt,hroot,hr,repl]
  rw [hset]
  have hperm:(nodesH h).Perm (nodesC c++nodesH (z9 h l .dead)):=d1.trans (((d2 .dead).append_left (nodesC c)).trans (by simp [nodesC])).symm
  exact ⟨hS.perm (hperm.append_left ex),fun s hs=>zb hperm.symm hs⟩
 ·have ha0:=ha
  rw [at_hop] at ha
  obtain ⟨ds,hds,ha1⟩:=Option.bind_eq_some_iff.1 ha
  obtain ⟨c1,hc1,ha2⟩:=Option.bind_eq_some_iff.1 ha1
  split at ha2
  ·simp only [Option.some.injEq] at ha2;subst ha2
   rw [z79 hds hc1]
   obtain ⟨rest,d1,d2⟩:=z2b hds
   obtain ⟨r2,q1,q2⟩:=z35 hc1
   have hq:(z5 (ds.set o' .dead)).Perm r2:=by have:=q2 .dead;simpa [nodesC] using this
   have hS1:SimN ι B w.heap ((r'.last,ds.map sh)::(ex++(nodesC c1++(r2++rest)))):=by
    refine hS.perm ?_
    refine (d1.append_left ex).trans (List.perm_middle.trans (List.Perm.cons _ ?_))
    have:=(q1.append_right rest).append_left ex
    simpa [List.append_assoc] using this
   have hS2:SimN ι B w.heap ((r'.last,(ds.set o' .dead).map sh)::(ex++(nodesC c1++(r2++rest)))):=by
    refine hS1.same (by simp) fun us hus i c hc=>?_
    rw [List.getElem?_map,List.getElem?_set] at hc
    split at hc
    ·rename_i e1;subst e1
     have hlt:=(List.getElem?_eq_some_iff.1 hc1).1
     simp only [hlt,if_true,Option.map_some,Option.some.injEq] at hc;subst hc
     obtain ⟨v,hv,rv⟩:=hus o' (sh c1) (by rw [List.getElem?_map,hc1];rfl)
     exact ⟨v,hv,.dead⟩
    ·exact hus i c (by rw [List.getElem?_map];exact hc)
   have hperm:(nodesH (setNd h r' (ds.set o' .dead))).Perm ((r'.last,(ds.set o' .dead).map sh)::(r2++rest)):=(d2 _).trans ((hq.append_right rest).cons _)
   refine ⟨hS2.perm ?_,fun s hs=>?_⟩
   ·refine Perm.symm ?_
    have a1:=(hperm.append_left (nodesC c1)).append_left ex
    refine a1.trans ?_
    rw [← List.append_assoc,← List.append_assoc]
    exact List.perm_middle
   ·have a1:=zb (hperm.append_left (nodesC c1)) hs
    refine zb d1.symm ?_
    simp only [stamps,List.map_append,List.map_cons,List.mem_append,List.mem_cons] at a1 ⊢
    rcases a1 with k | k | k | k
    ·exact .inr (.inl (zb q1.symm (by simp only [stamps,List.map_append,List.mem_append];exact .inl k)))
    ·exact .inl k
    ·exact .inr (.inl (zb q1.symm (by simp only [stamps,List.map_append,List.mem_append];exact .inr k)))
    ·exact .inr (.inr k)
  ·simp at ha2
theorem zar {t:TypeId} {u:Value} (hk:known P t=true) (hl:u.cells.size=tsize P t) (ad:Addr):(storeVar t ad u).run P w=(storeCells ad u.cells.toList).run P w:=by
 simp [storeVar,zk (w:=w) hk,hl]
theorem ze3 {G:Cfg} {σ:Stamp} {h h':H} {t:TypeId} {x y:V} {ux uy:Value} (hS:SimN ι B w.heap (nodesH h)) (hf:Fresh σ ι (nodesH h)) (hx:RV ι x ux) (hy:RV ι y uy) (hv:stV G σ h t x y=some h') :
  DidE G.P B σ ι w h (do Instr.storeAt t ux uy;pure .skip) udf h':=by
 unfold stV at hv
 split at hv
 ·rename_i l off
  split at hv
  ·simp at hv
  ·rename_i hc
   simp only [Bool.or_eq_true,Bool.not_eq_true',bne_iff_ne,not_or,Bool.not_eq_false,ne_eq,Classical.not_not] at hc
   obtain ⟨hk,hlen⟩:=hc
   obtain ⟨cs,hn,hv⟩:=Option.bind_eq_some_iff.1 hv
   have hcy:=z6f hy
   have hcl:uy.cells.size=tsize G.P t:=by rw [← Array.length_toList,hcy.length,hlen]
   cases hx with
   | ref hp =>
    rename_i p
    have fin:∀ {w':World} {ι':Inj},(storeCells ⟨p.blk,p.off+off,none⟩ uy.cells.toList).run G.P w=.ok () w'→SimN ι' B w'.heap (nodesH h')→ι.Le ι'→Grew σ ι ι' (nodesH h) (nodesH h')→Below B w w' →
      DidE G.P B σ ι w h (do Instr.storeAt t (.pointer (some ⟨p.blk,p.off+off,none⟩)) uy;pure .skip) udf h':=fun {w' ι'} h1 h2 h3 h4 h5 =>
     ⟨ι',w',.skip,undef,by simp [Instr.storeAt,Instr.sureAddr,zar hk hcl,h1],.inr ⟨rfl,rfl⟩,.tup .nil,h2,h3,h4,h5⟩
    split at hv
    ·-- cut in its place
     rename_i hsame
     obtain ⟨c',hcut,rfl⟩:=Option.map_eq_some_iff.1 hv
     obtain ⟨s,n,e,ds,r,o,len,av,esz,hcs,rfl,hlast⟩:=zb4 hsame
     rw [hcs] at hcut
     ·obtain ⟨he,ds',hds,rfl⟩:=zbu hcut
      subst he
      ·skip
       obtain ⟨b1,b2,b3⟩:=z3a hds
       cases hy with
       | sl hp' m1 m2 m3 m4 =>
        rename_i cap o2 p'
        rw [hlast] at hp'
        obtain ⟨rest,d1,d2⟩:=z2b hn
        obtain ⟨r2,q1,q2⟩:=z35 hcs
        have hS1:SimN ι B w.heap ((s,ds.map sh)::((l.last,cs.map sh)::(z5 ds++(r2++rest)))):=by
         refine hS.perm (d1.trans ?_)
         have a1:=(q1.append_right rest).cons (l.last,cs.map sh)
         simp only [nodesC,List.cons_append,List.append_assoc] at a1
         exact a1.trans (Perm.swap _ _ _)
        have hpart:Part (z5 ds') (z5 ds):=by
         subst b2
         exact z4d ds o _
        have hnodes:∀ s',Part (nodesH (setNd h l (cs.set off (.arr s' len e ds')))) ((l.last,(cs.set off (.arr s' len e ds')).map sh)::((s',ds'.map sh)::(z5 ds++(r2++rest)))):=fun s'=>by
         refine (Part.of_perm (d2 _)).trans (Part.cons _ ?_)
         refine (Part.of_perm ((q2 _).append_right rest)).trans ?_
         simp only [nodesC,List.cons_append,List.append_assoc]
         exact Part.cons _ (Part.append_right hpart _)
        have hset:∀ s',(cs.map sh).take (off+0)++[C.arr s' len e ds'].map sh++(cs.map sh).drop (off+0+1)=(cs.set off (.arr s' len e ds')).map sh:=fun s'=>by
         have hlt:=(List.getElem?_eq_some_iff.1 hcs).1
         rw [List.map_set,List.set_eq_take_append_cons_drop]
         simp [hlt]
        by_cases ho:o=0
        ·subst ho
         simp only [if_true] at *
         have hS2:=hS1.same (cells':=ds'.map sh) (by simp;omega) fun us hus i c hc=>by
          subst b2
          have:=z58 hc
          rw [Nat.zero_add] at this
          exact hus i c this
         have hS3:=hS2.perm (Perm.swap _ _ _)
         obtain ⟨w',k1,k2,k3,_⟩:=z36 (P:=G.P) hp off [.slice (some ⟨p'.blk,o2,none⟩) len cap] [.arr s len e ds'] 0 hS3 rfl (fun j c u a b=>by
          cases j with
          | zero=>simp only [List.getElem?_cons_zero,Option.some.injEq] at a b;subst a;subst b;exact ⟨.arr hp' (by omega) (by simpa using m3) m4,trivial⟩
          | succ j=>simp at a) (by have:=(List.getElem?_eq_some_iff.1 hcs).1;simp;omega)
         simp only [List.length_cons,List.length_nil,Nat.zero_add] at k2
         rw [hset] at k2
         refine fin k1 (k2.part (hnodes s)) (.refl _) (.of_eq rfl fun s1 hs1=>?_) k3
         have a1:=z16 (hnodes s) hs1
         refine zb d1.symm ?_
         simp only [stamps,List.map_cons,List.map_append,List.mem_cons,List.mem_append] at a1 ⊢
         rcases a1 with k | k | k | k | k
         ·exact .inl k
         ·exact .inr (.inl (zb q1.symm (by simp only [nodesC,stamps,List.map_cons,List.cons_append,List.mem_cons];exact .inl k)))
         ·exact .inr (.inl (zb q1.symm (by simp only [nodesC,stamps,List.map_cons,List.map_append,List.cons_append,List.mem_cons,List.mem_append];exact .inr (.inl k))))
         ·exact .inr (.inl (zb q1.symm (by simp only [nodesC,stamps,List.map_cons,List.map_append,List.cons_append,List.mem_cons,List.mem_append];exact .inr (.inr k))))
         ·exact .inr (.inr k)
        ·simp only [if_neg ho] at *
         obtain ⟨f1,f2⟩:=hf.self
         have hle:=Inj.Le.put f1 ⟨p'.blk,p'.off+o,p'.tot⟩
         have hst:σ∉stamps ((l.last,cs.map sh)::(z5 ds++(r2++rest))):=fun hm=>f2 (by
          refine zb d1.symm ?_
          simp only [stamps,List.map_cons,List.map_append,List.mem_cons,List.mem_append] at hm ⊢
          rcases hm with k | k | k | k
          ·exact .inl k
          ·exact .inr (.inl (zb q1.symm (by simp only [nodesC,stamps,List.map_cons,List.map_append,List.cons_append,List.mem_cons,List.mem_append];exact .inr (.inl k))))
          ·exact .inr (.inl (zb q1.symm (by simp only [nodesC,stamps,List.map_cons,List.map_append,List.cons_append,List.mem_cons,List.mem_append];exact .inr (.inr k))))
          ·exact .inr (.inr k))
         have hS2:=hS1.restamp (cells':=ds'.map sh) (o:=o) hp' f1 hst (fun i c hc=>by
          subst b2
          exact z58 hc) (by simp;omega)
         have hS3:=hS2.perm (Perm.swap _ _ _)
         obtain ⟨w',k1,k2,k3,_⟩:=z36 (P:=G.P) (hle.at_ _ _ hp) off [.slice (some ⟨p'.blk,o2,none⟩) len cap] [.arr σ len e ds'] 0 hS3 rfl (fun j c u a b=>by
          cases j with
          | zero=>simp only [List.getElem?_cons_zero,Option.some.injEq] at a b;subst a;subst b;exact ⟨.arr (p:=⟨p'.blk,p'.off+o,p'.tot⟩) (Inj.put_same _ _ _) (by omega) m3 m4,trivial⟩
          | succ j=>simp at a) (by have:=(List.getElem?_eq_some_iff.1 hcs).1;simp;omega)
         simp only [List.length_cons,List.length_nil,Nat.zero_add] at k2
         rw [hset] at k2
         refine fin k1 (k2.part (hnodes σ)) hle (.put rfl fun s1 hs1=>?_) k3
         have a1:=z16 (hnodes σ) hs1
         simp only [stamps,List.map_cons,List.map_append,List.mem_cons,List.mem_append] at a1
         rcases a1 with k | k | k | k | k
         ·exact .inl (zb d1.symm (by simp only [stamps,List.map_cons,List.mem_cons];exact .inl k))
         ·exact .inr k
         ·exact .inl (zb d1.symm (by simp only [stamps,List.map_cons,List.map_append,List.mem_cons,List.mem_append];exact .inr (.inl (zb q1.symm (by simp only [nodesC,stamps,List.map_cons,List.map_append,List.cons_append,List.mem_cons,List.mem_append];exact .inr (.inl k))))))
         ·exact .inl (zb d1.symm (by simp only [stamps,List.map_cons,List.map_append,List.mem_cons,List.mem_append];exact .inr (.inl (zb q1.symm (by simp only [nodesC,stamps,List.map_cons,List.map_append,List.cons_append,List.mem_cons,List.mem_append];exact .inr (.inr k))))))
         ·exact .inl (zb d1.symm (by simp only [stamps,List.map_cons,List.map_append,List.mem_cons,List.mem_append];exact .inr (.inr k)))
    ·-- laid anew
     obtain ⟨⟨ds,h1⟩,hlay,hv⟩:=Option.bind_eq_some_iff.1 hv
     simp only at hv
     obtain ⟨cs1,hn1,hv⟩:=Option.bind_eq_some_iff.1 hv
     split at hv
     ·rename_i hb
      simp only [Option.some.injEq] at hv;subst hv
      obtain ⟨ι1,l1,a1,n1,r1,s1,t1⟩:=z38 (ex:=[]) (by simpa using hS) hcy hlay
      obtain ⟨w',k1,k2,k3,k4⟩:=z4k (P:=G.P) (off:=off) (by simpa using s1) hn1 (l1.at_ _ _ hp) n1 r1 hb
      exact fin k1 k2 l1 (.of_eq a1 fun s hs=>t1 s (k4 s hs)) k3
     ·simp at hv
 ·simp at hv
end
end Go.Ev
namespace Go.Ev
open Go.RowKit (Below)
open List (Perm)
set_option linter.unusedVariables false
set_option linter.unusedSimpArgs false

section
variable {P:Program} {B:Nat} {ι:Inj} {w:World} {h:H}

theorem z7e {y:V} {u:Value} {n:Nat} (hy:RV ι y u) (hn:lenOf y=some n):(Builtin.lenOf u).run P w=.ok n w:=by
 rcases z4t hy hn with ⟨rfl,rfl⟩ | ⟨s,rfl,rfl⟩ | ⟨a,c,rfl⟩<;>rfl
theorem za7 {ys:List V} {y:V} {us:List Value} {b o:Nat} (hc:z5w w b o us) (hl:us.length=ys.length) (m:Nat) (hm:m≤us.length):(loadCells ⟨b,o,none⟩ m).run P w=.ok (us.take m).toArray w:=by
 have:=run_loadCells_list (P:=P) w ⟨b,o,none⟩ (us.take m) (fun j v hj=>by
  rw [Addr.add_lit]
  have hjm:j<m:=by have:=(List.getElem?_eq_some_iff.1 hj).1;simp at this;omega
  rw [List.getElem?_take_of_lt hjm] at hj
  exact hc j v hj)
 rwa [List.length_take,Nat.min_eq_left hm] at this
theorem z1z (hS:SimN ι B w.heap (nodesH h)) {y:V} {u:Value} {ys:List V} {n size:Nat} (hy:RV ι y u) (hn:lenOf y=some n) (hc:cellsOf h y=some ys) (hl:ys.length=n*size) {m:Nat} (hm:m≤n) :
  ∃ us:List Value,(Builtin.firstCells size m u).run P w=.ok us.toArray w∧RVs ι (ys.take (m*size)) us:=by
 have hmn:m*size≤n*size:=Nat.mul_le_mul_right _ hm
 rcases z90 hS hy hc with ⟨rfl,rfl⟩ | ⟨s,rfl,rfl⟩ | ⟨b,o,len,cap,us,rfl,hlen,hcs,hr⟩ | ⟨a,cap,rfl,hlen,rfl⟩
 ·exact ⟨[],rfl,by simp;exact .nil⟩
 ·have hn':n=s.size:=by
   rcases z4t hy hn with ⟨h1,_⟩ | ⟨s',h1,h2⟩ | ⟨a,c,h1⟩
   ·simp at h1
   ·simp only [Value.string.injEq] at h1;subst h1;exact h2
   ·simp at h1
  have hsz:s.data.toList.length=s.size:=by simp
  simp only [List.length_map,hsz] at hl
  have hms:m*size=m:=by
   rcases Nat.eq_zero_or_pos n with h0 | h0
   ·have:m=0:=by omega
    subst this;simp
   ·have:size=1:=by
     rw [hn'] at hl h0
     have:s.size*1=s.size*size:=by omega
     exact (Nat.eq_of_mul_eq_mul_left h0 this).symm
    rw [this,Nat.mul_one]
  refine ⟨(s.data.toList.map fun b=>Value.int .u8 b.toNat).take m,?_,?_⟩
  ·simp only [Builtin.firstCells,Sem.run_pure]
   congr 1
   apply Array.ext'
   simp [List.map_take,List.extract_eq_take_drop]
  ·rw [hms]
   refine RVs.take (RVs.of_get (by simp) fun i x v hx hv=>?_) m
   simp only [List.getElem?_map] at hx hv
   cases hb:s.data.toList[i]? with
   | none=>simp [hb] at hx
   | some b=>simp only [hb,Option.map_some,Option.some.injEq] at hx hv;subst hx;subst hv;exact .p _
 ·have hus:us.length=ys.length:=hr.length
  refine ⟨us.take (m*size),?_,hr.take _⟩
  simp only [Builtin.firstCells]
  exact za7 (ys:=ys) (y:=y) hcs hus _ (by omega)
 ·rw [hn] at hlen
  obtain rfl:=Option.some.inj hlen
  have:m=0:=by omega
  subst this
  refine ⟨[],?_,by simp;exact .nil⟩
  simp only [Builtin.firstCells,Nat.zero_mul]
  exact run_loadCells_list (P:=P) w a [] (fun j v hj=>by simp at hj)

theorem zcw (need old:Nat) (hlt:old<need):Builtin.nextslicecap need old≤2*need:=by
 unfold Builtin.nextslicecap
 split
 ·omega
 ·split
  ·omega
  ·rename_i h1 h2
   have grow:∀ r c,256≤c→c≤2*need→Builtin.growBy need r c≤2*need:=by
    intro r
    induction r with
    | zero=>intro c _ h;exact h
    | succ r ih =>
     intro c hc h
     simp only [Builtin.growBy]
     split
     ·exact h
     ·exact ih _ (by omega) (by omega)
   exact grow 4 old (by omega) (by omega)
theorem z64 {t:TypeId} (h:isInt P t=false):(∃ e,P.underlying t=some (.slice e))∨P.underlying t=some .string:=by
 unfold isInt at h
 split at h
 ·exact .inl ⟨_,‹_›⟩
 ·exact .inr ‹_›
 ·simp at h
theorem z6s {t t' e ty:TypeId} (hu:P.underlying t=some (.slice e)) (hk:known P e=true) (hi:isInt P t'=false) {a:Addr} {sLen sCap n:Nat} {uy:Value} {us:List Value}
  (hl:(Builtin.lenOf uy).run P w=.ok n w) (hf:(Builtin.firstCells (tsize P e) n uy).run P w=.ok us.toArray w) (hle:sLen+n≤sCap) {w':World} (hs:(storeCells (a.add (sLen*tsize P e)) us).run P w=.ok () w') :
  (Builtin.append_ #[t,t'] ty #[.slice (some a) sLen sCap,uy]).run P w=.ok (.slice (some a) (sLen+n) sCap) w':=by
 rcases z64 hi with ⟨e',hk'⟩ | hk'<;>simp [Builtin.append_,run_underlying hu,run_underlying hk',zk w hk,hl,hle,hf,hs]
theorem z8w {t t' e ty:TypeId} (hu:P.underlying t=some (.slice e)) (hk:known P e=true) (hi:isInt P t'=false) {base:Option Addr} {sLen sCap:Nat} {uy:Value}
  (hl:(Builtin.lenOf uy).run P w=.ok 0 w) (hf:(Builtin.firstCells (tsize P e) 0 uy).run P w=.ok #[] w) (hle:sLen≤sCap) :
  (Builtin.append_ #[t,t'] ty #[.slice base sLen sCap,uy]).run P w=.ok (.slice base sLen sCap) w:=by
 rcases z64 hi with ⟨e',hk'⟩ | hk'<;>cases base<;>simp [Builtin.append_,run_underlying hu,run_underlying hk',zk w hk,hl,hle,hf,storeCells]
theorem z8x {t t' e ty:TypeId} (hu:P.underlying t=some (.slice e)) (hk:known P e=true) (hi:isInt P t'=false) {i:TypeInfo} {z0:Value} (hinf:P.info? e=some i) (hz0:i.zero=some z0)
  {base:Option Addr} {sLen sCap n:Nat} {uy:Value} {us uo:List Value} (hl:(Builtin.lenOf uy).run P w=.ok n w) (hf:(Builtin.firstCells (tsize P e) n uy).run P w.drew=.ok us.toArray w.drew)
  (ho:(Builtin.firstCells (tsize P e) sLen (.slice base sLen sCap)).run P w.drew=.ok uo.toArray w.drew) (hgt:sCap<sLen+n) (hb:(sLen+n)*i.bytes≤2^47) (h61:sLen+n<2^61) :
  ∃ c,sLen+n≤c∧(Builtin.append_ #[t,t'] ty #[.slice base sLen sCap,uy]).run P w =
   .ok (.slice (some ⟨w.heap.size,0,none⟩) (sLen+n) c) (w.drew.alloc (.cells (uo++us++rept (c-(sLen+n)) z0.cells.toList).toArray e)):=by
 refine ⟨grownCap w (sLen+n) sCap e,by simp [grownCap,Question.cut],?_⟩
 have hn:¬ sLen+n≤sCap:=by omega
 have hcap:=zcw (sLen+n) sCap hgt
 have h48':¬ (281474976710656<Builtin.nextslicecap (sLen+n) sCap*i.bytes):=by
  have:=Nat.mul_le_mul_right i.bytes hcap
  rw [Nat.mul_assoc] at this
  omega
 have h63':¬ (9223372036854775807<((sLen:Int)+(n:Int))):=by omega
 have hbz:∀ c,Builtin.zeroCells z0.cells c=(rept c z0.cells.toList).toArray:=fun c=>by
  apply Array.ext';simp only [Builtin.zeroCells];rw [z42]
 have hs:i.size=tsize P e:=by simp [tsize,hinf]
 rcases z64 hi with ⟨e',hk'⟩ | hk' <;>
  (simp [Builtin.append_,run_underlying hu,run_underlying hk',sizeOf,typeInfo,zeroValue,hinf,hz0,hl,hn,h63',h48',Question.forced,hs,hf,ho,newRow,grownCap,hbz];try (congr 2;apply Array.ext';simp [List.append_assoc]))
end
end Go.Ev
namespace Go.Ev
open Go.RowKit (Below)
open List (Perm)
set_option linter.unusedVariables false
set_option linter.unusedSimpArgs false

theorem ze2 {ι:Inj} {x:V} {u:Value} (h:leafV x=true) (hr:RV ι x u):Leaf u:=by
 cases hr with
 | p=>cases u<;>first | trivial | simp [leafV] at h
 | _=>first | trivial | simp [leafV] at h
theorem zb7 (h:H) (l:Loc) (c:C):(setAt h l c).length=h.length:=by
 unfold setAt
 split
 ·exact z1a _ _ _
 ·rfl
theorem zav (h:H) (l:Loc) (c:C) (d:Nat) (σ:Stamp):newLoc (setAt h l c) d σ=newLoc h d σ:=by
 simp [newLoc,top,zb7]
theorem z7y {ι:Inj} {x:V} {u:Value} (h:isSl x=true) (hr:RV ι x u):∃ base len cap,u=.slice base len cap∧len≤cap:=by
 unfold isSl at h
 split at h
 ·cases hr;exact ⟨none,0,0,rfl,Nat.le_refl _⟩
 ·cases hr with
  | sl h1 h2 h3 h4 h5=>exact ⟨_,_,_,rfl,by omega⟩
 ·cases hr with
  | fz0=>exact ⟨_,_,_,rfl,Nat.zero_le _⟩
  | fz _ h1=>exact ⟨_,_,_,rfl,h1⟩
 ·simp at h
theorem z84 {B:Nat} {a w:World} (h:Below B a w):Below B a w.drew:=⟨h.os,h.tape,h.output,h.size,h.block⟩
section
variable {P:Program} {B:Nat} {ι:Inj} {w:World} {h:H}

theorem zda {σ:Stamp} {ι1:Inj} {h1:H} {es:List C} {vals:List Value} {d n esz c:Nat} {e:TypeId} (hB:B≤w.heap.size) (hf:ι1.at_ σ=none∧σ∉stamps (z5 es++nodesH h1))
  (hS:SimN ι1 B w.heap (z5 es++nodesH h1)) (hr:RCs ι1 (es.map sh) vals) (hl:es.length≤vals.length) (hn:n≤c) (hv:vals.length=c*esz) :
  SimN (ι1.put σ ⟨w.heap.size,0,c*esz⟩) B (w.drew.alloc (.cells vals.toArray e)).heap (nodesH (zf h1 d [.arr σ n esz es])) ∧
  RV (ι1.put σ ⟨w.heap.size,0,c*esz⟩) (.sl (newLoc h1 d σ) 0 n n esz) (.slice (some ⟨w.heap.size,0,none⟩) n c)∧ι1.Le (ι1.put σ ⟨w.heap.size,0,c*esz⟩)∧Below B w (w.drew.alloc (.cells vals.toArray e)):=by
 have hsz:vals.toArray.size=c*esz:=by simpa using hv
 have hp:=Inj.Le.put hf.1 ⟨w.heap.size,0,c*esz⟩
 have hS2:=hS.new (w:=w) (s:=σ) (cells:=es.map sh) (vals:=vals.toArray) (ety:=e) hf.1 hf.2 hB (by rw [hsz];exact hr.mono hp) (by simpa using hl)
 rw [hsz] at hS2
 refine ⟨?_,?_,hp,((z84 (Below.refl _ _)).alloc hB _)⟩
 ·refine SimN.part (ns':=(σ,es.map sh)::(z5 es++nodesH h1)) hS2 ?_
  refine (z24 h1 d [.arr σ n esz es]).trans (.of_perm ?_)
  simp [z5,nodesC]
 ·exact .sl (p:=⟨w.heap.size,0,c*esz⟩) (by show _=some _;exact Inj.put_same _ _ _) (Nat.le_refl _) hn (fun _=>rfl) (fun _=>by simp)
theorem zdx {σ:Stamp} {ι1:Inj} {h1:H} {es:List C} {d n esz:Nat} {p:Pos} (ha:ι1.at_=ι.at_) (hs:∀ s,s∈stamps (z5 es++nodesH h1)→s∈stamps (nodesH h)) :
  Grew σ ι (ι1.put σ p) (nodesH h) (nodesH (zf h1 d [.arr σ n esz es])):=z7m (cs:=es) ha p rfl hs

theorem zc1 {G:Cfg} {σ:Stamp} {d n:Nat} {h1 h':H} {e t t' ty:TypeId} {ds:List C} {ys:List V} {x y v:V} {ux uy:Value} {z:List V} (hB:B≤w.heap.size) (hS:SimN ι B w.heap (nodesH h)) (hf:Fresh σ ι (nodesH h))
  (hx:RV ι x ux) (hy:RV ι y uy) (hi:isInt G.P t'=false) (he:telem G.P t=some e) (hz:tzero G.P e=some z) (hn:lenOf y=some n) (hc:cellsOf h y=some ys) (hzl:z.length=tsize G.P e)
  (hyl:ys.length=n*tsize G.P e) (hsz:tsize G.P e≠0) (hn0:n≠0) (hlay:layCs (ownsE G e) h ys=some (ds,h1)) (hv:z66 G σ d h1 e n ds x=some (v,h')) :
  DidE G.P B σ ι w h (do pure (.value (← Builtin.append_ #[t,t'] ty #[ux,uy]))) v h':=by
 obtain ⟨hu,hk⟩:=zq he
 obtain ⟨i,z0,hinf,hz0,rfl,hleaf⟩:=z1m hz
 simp only [List.length_map] at hzl
 have hbytes:tbytes G.P e=i.bytes:=by simp [tbytes,hinf]
 have hl:=z7e (P:=G.P) (w:=w) hy hn
 have hyt:ys.take (n*tsize G.P e)=ys:=List.take_of_length_le (by omega)
 -- the new cells,read with the draw behind
 obtain ⟨us,hus,hru⟩:=z1z (P:=G.P) (w:=w.drew) (m:=n) hS hy hn hc hyl (Nat.le_refl _)
 rw [hyt] at hru
 obtain ⟨ι1,l1,a1,n1,r1,s1,t1⟩:=z38 (ex:=[]) (w:=w) (by simpa using hS) hru hlay
 simp only [List.nil_append] at s1
 have hds:ds.length=n*tsize G.P e:=by have:=hru.length;omega
 have fr:=z9y hf a1 t1
 have hrds:∀ (j:Nat) c u,ds[j]?=some c→us[j]?=some u→RC ι1 c u:=fun j c u a b=>(r1 j c u a b).1
 have close:∀ {uo:List Value} {es:List C} {h2:H} {base:Option Addr} {sLen sCap:Nat},ux=.slice base sLen sCap→(Builtin.firstCells (tsize G.P e) sLen (.slice base sLen sCap)).run G.P w.drew=.ok uo.toArray w.drew→sCap<sLen+n→(sLen+n)*tbytes G.P e≤2^47→sLen+n<2^61 →
   uo.length=sLen*tsize G.P e→es.length=(sLen+n)*tsize G.P e→(∀ (j:Nat) c u,es[j]?=some c→(uo++us)[j]?=some u→RC ι1 c u)→SimN ι1 B w.heap (z5 es++nodesH h2)→(∀ s,s∈stamps (z5 es++nodesH h2)→s∈stamps (nodesH h)) →
   v=.sl (newLoc h2 d σ) 0 (sLen+n) (sLen+n) (tsize G.P e)→h'=zf h2 d [.arr σ (sLen+n) (tsize G.P e) es] →
   DidE G.P B σ ι w h (do pure (.value (← Builtin.append_ #[t,t'] ty #[ux,uy]))) v h':=by
  intro uo es h2 base sLen sCap hux ho hgt hb h61 huo hes hre hS2 ht2 hv1 hv2
  subst hux;subst hv1;subst hv2
  rw [hbytes] at hb
  obtain ⟨c,hc1,hrun⟩:=z8x (P:=G.P) (w:=w) (ty:=ty) hu hk hi hinf hz0 hl hus ho hgt hb h61
  have husl:us.length=n*tsize G.P e:=by have:=hru.length;omega
  have hzl':z0.cells.toList.length=tsize G.P e:=by simpa using hzl
  have hvl:(uo++us++rept (c-(sLen+n)) z0.cells.toList).length=c*tsize G.P e:=by
   rw [List.length_append,List.length_append,z15,huo,husl,hzl',← Nat.add_mul,← Nat.add_mul];congr 1;omega
  have hl2:(uo++us).length=es.length:=by rw [List.length_append,huo,husl,hes,Nat.add_mul]
  obtain ⟨k1,k2,k3,k4⟩:=zda (d:=d) (n:=sLen+n) (esz:=tsize G.P e) (c:=c) (e:=e) (vals:=uo++us++rept (c-(sLen+n)) z0.cells.toList) hB ⟨fr.1,fun hm=>hf.self.2 (ht2 _ hm)⟩ hS2
   (z81 hl2 hre) (by rw [hvl,hes];exact Nat.mul_le_mul_right _ hc1) hc1 hvl
  exact ⟨_,_,.value (.slice (some ⟨w.heap.size,0,none⟩) (sLen+n) c),.slice (some ⟨w.heap.size,0,none⟩) (sLen+n) c,by simp [hrun],.inl rfl,k2,k1,l1.trans k3,zdx a1 ht2,k4⟩
 unfold z66 at hv
 split at hv
 ·-- nil
  split at hv
  ·rename_i hc2
   simp only [Option.some.injEq,Prod.mk.injEq] at hv
   obtain ⟨rfl,rfl⟩:=hv
   have hux:ux=.slice none 0 0:=by cases hx;rfl
   refine close (uo:=[]) (es:=ds) (h2:=h1) hux rfl (by omega) (by simpa using hc2.1) (by omega) (by simp) (by simpa using hds) (by simpa using hrds) s1 t1 (by simp) (by simp)
  ·simp at hv
 ·-- frozen
  rename_i cs len esz tight
  split at hv
  ·rename_i hc2
   obtain ⟨ht,rfl,hcl,hb,h61,hlf⟩:=hc2
   subst ht
   simp only [Option.some.injEq,Prod.mk.injEq] at hv
   obtain ⟨rfl,rfl⟩:=hv
   obtain ⟨uo,ho,hro⟩:=z1z (P:=G.P) (w:=w.drew) (y:=.fz cs len (tsize G.P e) true) (n:=len) (m:=len) hS hx rfl rfl hcl (Nat.le_refl _)
   rw [List.take_of_length_le (by omega)] at hro
   have hux:∃ base sCap,ux=.slice base len sCap∧sCap=len:=by
    cases hx with
    | fz0 ht=>exact ⟨_,_,rfl,ht rfl⟩
    | fz _ _ ht=>exact ⟨_,_,rfl,(ht rfl).1⟩
   obtain ⟨base,sCap,hux,hcap⟩:=hux
   rw [hux] at ho
   have hnv:z5 (cs.map C.v++ds)=z5 ds:=by rw [zr,z3f,List.nil_append]
   refine close (uo:=uo) (es:=cs.map .v++ds) (h2:=h1) hux ho (by omega) hb h61 (by have:=hro.length;omega) (by rw [List.length_append,List.length_map,hcl,hds,Nat.add_mul]) (fun j c u ha hb2=>?_) (by rw [hnv];exact s1) (by rw [hnv];exact t1) rfl rfl
   have hol:=hro.length
   rw [List.getElem?_append] at ha hb2
   rw [List.length_map] at ha
   rw [hol] at hb2
   split at ha
   ·rename_i hj
    rw [if_pos hj] at hb2
    rw [List.getElem?_map] at ha
    cases hcj:cs[j]? with
    | none=>simp [hcj] at ha
    | some xj =>
     simp only [hcj,Option.map_some,Option.some.injEq] at ha;subst ha
     obtain ⟨u',hu',ru⟩:=hro.get hcj
     rw [hu'] at hb2;obtain rfl:=Option.some.inj hb2
     exact .v (ru.mono l1) (ze2 (List.all_eq_true.1 hlf _ (List.mem_of_getElem? hcj)) ru)
   ·rename_i hj
    rw [if_neg hj] at hb2
    exact hrds _ c u ha hb2
  ·simp at hv
 ·-- a node's
  rename_i l off len av esz
  split at hv
  ·simp at hv
  ·rename_i hez
   have hez:esz=tsize G.P e:=by simpa using hez
   subst hez
   obtain ⟨cs,hnd,hv2⟩:=Option.bind_eq_some_iff.1 hv
   clear hv
   have hv:=hv2
   clear hv2
   cases hx with
   | sl hp m1 m2 m3 m4 =>
    rename_i cap o p
    have hp1:=l1.at_ _ _ hp
    split at hv
    ·rename_i hin
     simp only [Option.some.injEq,Prod.mk.injEq] at hv
     obtain ⟨rfl,rfl⟩:=hv
     have ho:=m3 (by omega)
     subst ho
     -- read again,without the draw
     obtain ⟨us2,hus2,hru2⟩:=z1z (P:=G.P) (w:=w) (m:=n) hS hy hn hc hyl (Nat.le_refl _)
     rw [hyt] at hru2
     obtain ⟨ι2,l2,a2,n2,r2,s2,t2⟩:=z38 (ex:=[]) (w:=w) (by simpa using hS) hru2 hlay
     simp only [List.nil_append] at s2
     obtain ⟨w',k1,k2,k3,k4⟩:=z4k (P:=G.P) (off:=off+len*tsize G.P e) s2 hnd (l2.at_ _ _ hp) n2 r2 hin.2
     have hrun:=z6s (P:=G.P) (w:=w) (ty:=ty) (t':=t') (a:=⟨p.blk,p.off+off,none⟩) (sLen:=len) (sCap:=cap) hu hk hi hl hus2 (by omega) (by rw [Addr.add_lit,Nat.add_assoc];exact k1)
     exact ⟨ι2,w',_,_,by simp [hrun],.inl rfl,.sl (l2.at_ _ _ hp) (by omega) m2 (fun _=>rfl) m4,k2,l2,.of_eq a2 fun s hs=>t2 s (k4 s hs),k3⟩
    ·split at hv
     ·rename_i hnot hgrow
      obtain ⟨rfl,hcl,hb,h61⟩:=hgrow
      simp only [Option.some.injEq,Prod.mk.injEq] at hv
      obtain ⟨rfl,rfl⟩:=hv
      obtain ⟨c0,hat,hnode⟩:=nd_at hnd
      obtain ⟨s3,t3⟩:=z7x (ex:=z5 ds) s1 hat
      rw [z2l hnode] at s3 t3
      have hfr3:∀ s,s∈stamps (z5 ds++((l.last,cs.map sh)::z5 cs++nodesH (setAt h1 l .dead)))→s∈stamps (nodesH h):=fun s hs=>by
       refine t1 s ?_
       simp only [stamps,List.map_append,List.mem_append] at hs ⊢
       rcases hs with k | k
       ·exact .inl k
       ·exact .inr (t3 s (by simpa only [stamps,List.map_append,List.mem_append] using k))
      by_cases hroom:len+n≤cap
      ·-- the room behind it serves
       have ho:=m3 (by omega)
       simp only [Nat.add_zero] at ho
       subst ho
       have hbd:=m4 (by omega)
       obtain ⟨us2,hus2,hru2⟩:=z1z (P:=G.P) (w:=w) (m:=n) hS hy hn hc hyl (Nat.le_refl _)
       rw [hyt] at hru2
       obtain ⟨ι2,l2,a2,n2,r2,s2,t2⟩:=z38 (ex:=[]) (w:=w) (by simpa using hS) hru2 hlay
       simp only [List.nil_append] at s2
       obtain ⟨s4,_⟩:=z7x (ex:=z5 ds) s2 hat
       rw [z2l hnode] at s4
       have hp2:=l2.at_ _ _ hp
       have s5:SimN ι2 B w.heap ((l.last,cs.map sh)::(z5 ds++(z5 cs++nodesH (setAt h1 l .dead)))):=by
        refine s4.perm ?_
        simp only [List.cons_append]
        exact List.perm_middle
       have hmul:(len+n)*tsize G.P e≤cap*tsize G.P e:=Nat.mul_le_mul_right _ hroom
       have s6:=s5.extend hp2 ds.length (by simp only [List.length_map];rw [Nat.add_mul] at hmul;omega)
       obtain ⟨w',k1,k2,k3,_⟩:=z36 (P:=G.P) hp2 (len*tsize G.P e) us2 ds 0 s6 n2 r2 (by simp;omega)
       have hcells:(cs.map sh++List.replicate ds.length C.dead).take (len*tsize G.P e+0)++ds.map sh++(cs.map sh++List.replicate ds.length C.dead).drop (len*tsize G.P e+0+ds.length)=(cs++ds).map sh:=by
        have q1:(cs.map sh++List.replicate ds.length C.dead).take (len*tsize G.P e+0)=cs.map sh:=by
         rw [Nat.add_zero,List.take_append_of_le_length (by simp;omega),List.take_of_length_le (by simp;omega)]
        have q2:(cs.map sh++List.replicate ds.length C.dead).drop (len*tsize G.P e+0+ds.length)=[]:=List.drop_eq_nil_iff.2 (by simp;omega)
        rw [q1,q2,List.append_nil,List.map_append]
       rw [hcells] at k2
       have hst:σ∉stamps (z5 ds++(z5 cs++nodesH (setAt h1 l .dead))):=fun hm=>hf.self.2 (hfr3 σ (by
        simp only [stamps,List.map_append,List.map_cons,List.cons_append,List.mem_append,List.mem_cons] at hm ⊢
        rcases hm with k | k | k
        ·exact .inl k
        ·exact .inr (.inr (.inl k))
        ·exact .inr (.inr (.inr k))))
       have hs2:ι2.at_ σ=none:=by rw [a2];exact hf.self.1
       have k5:=k2.restamp (s':=σ) (cells':=(cs++ds).map sh) (o:=0) hp2 hs2 hst (fun j c hj=>by rwa [Nat.zero_add]) (by simp)
       have hle:=Inj.Le.put hs2 ⟨p.blk,p.off+0,p.tot⟩
       have hrun:=z6s (P:=G.P) (w:=w) (ty:=ty) (t':=t') (a:=⟨p.blk,p.off,none⟩) (sLen:=len) (sCap:=cap) hu hk hi hl hus2 hroom (by rw [Addr.add_lit];exact k1)
       have pt:Part (nodesH (zf (setAt h1 l .dead) d [.arr σ (len+n) (tsize G.P e) (cs++ds)])) ((σ,(cs++ds).map sh)::(z5 ds++(z5 cs++nodesH (setAt h1 l .dead)))):=by
        refine (z24 _ d _).trans (.of_perm ?_)
        simp only [z5,nodesC,List.append_nil,List.cons_append]
        refine List.Perm.cons _ ?_
        rw [zr,List.append_assoc]
        exact swap3 _ _ _
       refine ⟨_,w',.value (.slice (some ⟨p.blk,p.off,none⟩) (len+n) cap),.slice (some ⟨p.blk,p.off,none⟩) (len+n) cap,by simp [hrun],.inl rfl,?_,k5.part pt,l2.trans hle,.put a2 fun s hs=>?_,k3⟩
       ·exact .sl (p:=⟨p.blk,p.off+0,p.tot⟩) (by show _=some _;exact Inj.put_same _ _ _) (Nat.le_refl _) hroom (fun _=>by simp) (fun _=>by simpa using hbd)
       ·have q:=z16 pt hs
        simp only [stamps,List.map_cons,List.mem_cons] at q
        rcases q with q | q
        ·exact .inr q
        ·refine .inl (hfr3 s ?_)
         simp only [stamps,List.map_append,List.map_cons,List.cons_append,List.mem_append,List.mem_cons] at q ⊢
         rcases q with k | k | k
         ·exact .inl k
         ·exact .inr (.inr (.inl k))
         ·exact .inr (.inr (.inr k))
      ·-- a new array
       obtain ⟨uo,q1,q2,q3⟩:=z6h (s1.part (Part.right _ _)) hnd hp1 (off:=0) (n:=len*tsize G.P e) (by omega)
       simp only [Nat.add_zero,List.drop_zero] at q2 q3
       rw [List.take_of_length_le (by omega)] at q3
       have ho:(Builtin.firstCells (tsize G.P e) len (.slice (some ⟨p.blk,o,none⟩) len cap)).run G.P w.drew=.ok uo.toArray w.drew:=by
        simp only [Builtin.firstCells]
        by_cases hcap:cap=0
        ·have hl0:len=0:=by omega
         subst hl0
         have:uo=[]:=List.length_eq_zero_iff.1 (by simpa using q1)
         subst this
         simp [loadCells,loadCellsFrom]
        ·have ho:=m3 hcap
         simp only [Nat.add_zero] at ho
         subst ho
         have:=za7 (P:=G.P) (w:=w.drew) (ys:=[]) (y:=.tup []) (us:=uo) (b:=p.blk) (o:=p.off) q2
         have k:=run_loadCells_list (P:=G.P) w.drew ⟨p.blk,p.off,none⟩ uo (fun j v hj=>by rw [Addr.add_lit];exact q2 j v hj)
         rw [q1] at k
         exact k
       have hS2:SimN ι1 B w.heap (z5 (cs++ds)++nodesH (setAt h1 l .dead)):=by
        refine s3.part ?_
        rw [zr,List.append_assoc]
        refine (Part.of_perm (swap3 _ _ _)).trans (Part.append_left _ ?_)
        exact Part.right [(l.last,cs.map sh)] _
       refine close (uo:=uo) (es:=cs++ds) (h2:=setAt h1 l .dead) rfl ho (by omega) hb h61 q1 (by rw [List.length_append,hcl,hds,Nat.add_mul]) (fun j c u ha hb2=>?_) hS2 (fun s hs=>hfr3 s ?_) (by rw [zav]) rfl
       ·rw [List.getElem?_append] at ha hb2
        rw [q1,← hcl] at hb2
        split at ha
        ·rename_i hj;rw [if_pos hj] at hb2;exact q3 j c u ha hb2
        ·rename_i hj;rw [if_neg hj] at hb2;exact hrds _ c u ha hb2
       ·rw [zr] at hs
        simp only [stamps,List.map_append,List.map_cons,List.cons_append,List.mem_append,List.mem_cons] at hs ⊢
        rcases hs with (k | k) | k
        ·exact .inr (.inr (.inl k))
        ·exact .inl k
        ·exact .inr (.inr (.inr k))
     ·simp at hv
 ·simp at hv
theorem z9e {G:Cfg} {σ:Stamp} {d:Nat} {h':H} {t t' ty:TypeId} {x y v:V} {ux uy:Value} (hB:B≤w.heap.size) (hS:SimN ι B w.heap (nodesH h)) (hf:Fresh σ ι (nodesH h)) (hx:RV ι x ux) (hy:RV ι y uy)
  (hv:z4l G σ d h t t' x y=some (v,h')):DidE G.P B σ ι w h (do pure (.value (← Builtin.append_ #[t,t'] ty #[ux,uy]))) v h':=by
 unfold z4l at hv
 split at hv
 ·simp at hv
 ·rename_i hi
  have hi:isInt G.P t'=false:=by simpa using hi
  obtain ⟨e,he,hv1⟩:=Option.bind_eq_some_iff.1 hv
  clear hv
  obtain ⟨z,hz,hv2⟩:=Option.bind_eq_some_iff.1 hv1
  clear hv1
  obtain ⟨n,hn,hv3⟩:=Option.bind_eq_some_iff.1 hv2
  clear hv2
  obtain ⟨ys,hc,hv4⟩:=Option.bind_eq_some_iff.1 hv3
  clear hv3
  have hv:=hv4
  clear hv4
  split at hv
  ·simp at hv
  ·rename_i hcond
   simp only [not_or,ne_eq,Classical.not_not] at hcond
   obtain ⟨hzl,hyl,hsz⟩:=hcond
   split at hv
   ·rename_i hn0
    subst hn0
    split at hv
    ·rename_i hsl
     simp only [Option.some.injEq,Prod.mk.injEq] at hv
     obtain ⟨rfl,rfl⟩:=hv
     obtain ⟨hu,hk⟩:=zq he
     obtain ⟨base,len,cap,rfl,hle⟩:=z7y hsl hx
     obtain ⟨us,hus,hru⟩:=z1z (P:=G.P) (w:=w) (m:=0) hS hy hn hc hyl (Nat.le_refl _)
     have:us=[]:=by have:=hru.length;simp at this;exact this
     subst this
     have hrun:=z8w (P:=G.P) (w:=w) (ty:=ty) (base:=base) hu hk hi (z7e hy hn) hus hle
     exact ⟨ι,w,_,_,by simp [hrun],.inl rfl,hx,hS,.refl _,.refl _ _ _,.refl _ _⟩
    ·simp at hv
   ·rename_i hn0
    obtain ⟨⟨ds,h1⟩,hlay,hv⟩:=Option.bind_eq_some_iff.1 hv
    exact zc1 hB hS hf hx hy hi he hz hn hc hzl hyl hsz hn0 hlay hv
theorem z7z (n:Nat):(zerosB n).size=n:=by
 show (Array.replicate n (0:UInt8)).size=n
 simp
theorem z8k {t t' e ty:TypeId} {i:TypeInfo} {z0:Value} {k:IntKind} (hu:P.underlying t=some (.slice e)) (hk:known P e=true) (ht':P.underlying t'=some (.int k)) (hinf:P.info? e=some i) (hz0:i.zero=some z0)
  (hz:z0.cells.toList=[.int .u8 0]) (hs1:tsize P e=1) (hb1:i.bytes=1) {n:Int} {kx:IntKind} (h0:0≤n) (h1:n<2^40) {base:Option Addr} {sLen sCap:Nat} (hl:sLen<2^60) {r:Value} {w':World}
  (h:(Builtin.append_ #[t,t] ty #[.slice base sLen sCap,.string (zerosB n.toNat)]).run P w=.ok r w') :
  (Builtin.append_ #[t,t'] ty #[.slice base sLen sCap,.int kx n]).run P w=.ok r w':=by
 have hn:(Builtin.lenOf (.string (zerosB n.toNat)))=pure n.toNat:=by
  simp [Builtin.lenOf,z7z]
 have hw:IntKind.i64.wrap n=n:=by rw [IntKind.wrap_i64];omega
 have hneg:¬ n<0:=by omega
 have hbig:¬ (281474976710656<n):=by omega
 have hza:z0.cells=#[.int .u8 0]:=by apply Array.ext';simpa using hz
 have hzc:Builtin.zeroCells #[.int .u8 0] n.toNat=(List.replicate n.toNat (Value.int .u8 0)).toArray:=by
  apply Array.ext'
  have:=z42 #[.int .u8 0] n.toNat
  refine this.trans ?_
  generalize n.toNat=m
  induction m with
  | zero=>rfl
  | succ m ih=>simp only [rept,List.replicate_succ] at ih ⊢;rw [ih];rfl
 have hfc:Builtin.firstCells 1 n.toNat (.string (zerosB n.toNat))=pure (List.replicate n.toNat (Value.int .u8 0)).toArray:=by
  have:(zerosB n.toNat).extract 0 n.toNat=zerosB n.toNat:=by
   have:=ByteArray.extract_zero_size (b:=zerosB n.toNat)
   rwa [z7z] at this
  simp only [Builtin.firstCells,this]
  congr 1
  apply Array.ext'
  simp [zerosB]
 have hmax:¬ (9223372036854775807<((sLen:Int)+n)):=by omega
 have hfc0:n≤0→Builtin.firstCells 1 n.toNat (.string (zerosB n.toNat))=pure #[]:=fun hnz=>by
  rw [hfc,show List.replicate n.toNat (Value.int .u8 0)=[] by rw [show n.toNat=0 by omega];rfl]
 have hmax2:¬ (9223372036854775807<((sLen:Int)+max n 0)):=by omega
 by_cases hroom:sLen+n.toNat≤sCap
 ·by_cases hnz:n≤0
  ·have hfc':=hfc0 hnz
   cases base<;>simp [Builtin.append_,run_underlying hu,run_underlying ht',zk w hk,hn,hs1,hroom,hfc',hw,hneg,hbig,fun w=>z11 w hinf,hb1,asInt,asIntOf,fun w=>z1r (w:=w) hinf hz0,hza,hzc,hnz] at h ⊢<;>exact h
  ·cases base<;>simp [Builtin.append_,run_underlying hu,run_underlying ht',zk w hk,hn,hs1,hroom,hfc,hw,hneg,hbig,fun w=>z11 w hinf,hb1,asInt,asIntOf,fun w=>z1r (w:=w) hinf hz0,hza,hzc,hnz] at h ⊢<;>exact h
 ·by_cases hcap:281474976710656<Builtin.nextslicecap (sLen+n.toNat) sCap
  ·exfalso
   simp [Builtin.append_,run_underlying hu,zk w hk,hn,hs1,hroom,hfc,fun w=>z11 w hinf,hb1,hcap] at h
   cases hms:(Builtin.mayShare 1 sLen n.toNat base (.string (zerosB n.toNat))).run P w<;>simp [hms,Result.andThen] at h
  ·by_cases hnz:n≤0
   ·have hfc':=hfc0 hnz
    simp [Builtin.append_,run_underlying hu,run_underlying ht',zk w hk,hn,hs1,hroom,hfc',hw,hneg,hbig,fun w=>z11 w hinf,hb1,asInt,asIntOf,fun w=>z1r (w:=w) hinf hz0,hza,hzc,hcap,hnz,hmax2] at h ⊢
    exact h
   ·simp [Builtin.append_,run_underlying hu,run_underlying ht',zk w hk,hn,hs1,hroom,hfc,hw,hneg,hbig,fun w=>z11 w hinf,hb1,asInt,asIntOf,fun w=>z1r (w:=w) hinf hz0,hza,hzc,hcap,hnz,hmax2] at h ⊢
    exact h
theorem zdm {G:Cfg} {σ:Stamp} {d:Nat} {h':H} {t t' ty:TypeId} {x y v:V} {ux uy:Value} (hB:B≤w.heap.size) (hS:SimN ι B w.heap (nodesH h)) (hf:Fresh σ ι (nodesH h)) (hx:RV ι x ux) (hy:RV ι y uy)
  (hv:z7p G σ d h t t' x y=some (v,h')):DidE G.P B σ ι w h (do pure (.value (← Builtin.append_ #[t,t'] ty #[ux,uy]))) v h':=by
 unfold z7p at hv
 split at hv
 ·exact z9e hB hS hf hx hy hv
 ·rename_i hti
  split at hv
  ·rename_i hu8
   obtain ⟨n,hn,hv⟩:=Option.bind_eq_some_iff.1 hv
   obtain ⟨kx,rfl⟩:=asI_ok hn hy
   split at hv
   ·rename_i hc
    obtain ⟨c0,c1,c2⟩:=hc
    obtain ⟨ι1,w1,nx,u,g1,g2,g3⟩:=z9e (uy:=.string (zerosB n.toNat)) (ty:=ty) hB hS hf hx (.p _) hv
    refine ⟨ι1,w1,nx,u,?_,g2,g3⟩
    unfold u8Sl at hu8
    split at hu8
    ·rename_i e he
     obtain ⟨hu,hk⟩:=zq he
     split at hu8
     ·rename_i hz
      obtain ⟨i,z0,hinf,hz0,hzz,_⟩:=z1m hz
      simp only [Bool.and_eq_true,beq_iff_eq] at hu8
      have hb1:i.bytes=1:=by have:=hu8.2;simpa [tbytes,hinf] using this
      have hzc:z0.cells.toList=[.int .u8 0]:=by
       cases hl:z0.cells.toList with
       | nil=>rw [hl] at hzz;cases hzz
       | cons a as_ =>
        rw [hl] at hzz
        simp only [List.map_cons,List.cons.injEq,V.p.injEq] at hzz
        obtain ⟨q1,q2⟩:=hzz
        cases as_ with
        | nil=>rw [← q1]
        | cons b bs=>simp at q2
      have ht2:∃ k,G.P.underlying t'=some (.int k):=by
       unfold isIntT at hti
       split at hti
       ·rename_i k hk';exact ⟨k,hk'⟩
       ·cases hti
      obtain ⟨k,ht2⟩:=ht2
      have hsl:isSl x=true:=by
       unfold z4l at hv
       split at hv
       ·cases hv
       ·obtain ⟨e2,he2,hv⟩:=Option.bind_eq_some_iff.1 hv
        obtain ⟨z2,hz2,hv⟩:=Option.bind_eq_some_iff.1 hv
        obtain ⟨n2,hn2,hv⟩:=Option.bind_eq_some_iff.1 hv
        obtain ⟨ys,hys,hv⟩:=Option.bind_eq_some_iff.1 hv
        split at hv
        ·cases hv
        ·split at hv
         ·split at hv
          ·assumption
          ·cases hv
         ·obtain ⟨q,hq,hv⟩:=Option.bind_eq_some_iff.1 hv
          unfold z66 at hv
          split at hv
          ·rfl
          ·rfl
          ·rfl
          ·cases hv
      have hux:∃ base sLen sCap,ux=.slice base sLen sCap∧sLen<2^60:=by
       obtain ⟨base,sLen,sCap,rfl,hle⟩:=z7y hsl hx
       refine ⟨base,sLen,sCap,rfl,?_⟩
       cases hl:lenOf x with
       | none=>exfalso;unfold isSl at hsl;split at hsl<;>first | (cases hl) | (cases hsl)
       | some m =>
        rw [hl] at c2
        rcases z4t hx hl with ⟨h1,h2⟩ | ⟨s,h1,h2⟩ | ⟨a,c,h1⟩
        ·cases h1;exact Nat.two_pow_pos 60
        ·cases h1
        ·cases h1;exact c2
      obtain ⟨base,sLen,sCap,rfl,hl⟩:=hux
      cases hrun:(Builtin.append_ #[t,t] ty #[.slice base sLen sCap,.string (zerosB n.toNat)]).run G.P w with
      | ok r w2 =>
       have:=z8k hu hk ht2 hinf hz0 hzc hu8.1 hb1 c0 c1 hl hrun (kx:=kx)
       simp only [Sem.run_bind,hrun,this] at g1 ⊢
       exact g1
      | _=>simp [hrun,Result.andThen] at g1
     ·cases hu8
    ·cases hu8
   ·simp at hv
  ·simp at hv
end
end Go.Ev
namespace Go.Ev
open Go.RowKit (Below)
open List (Perm)
set_option linter.unusedVariables false
set_option linter.unusedSimpArgs false

theorem z8y {P:Program} {e:TypeId} (hk:known P e=true) (w:World):(sizeOf e).run P w=.ok (tsize P e) w:=by
 unfold known at hk
 cases hi:P.info? e with
 | none=>simp [hi] at hk
 | some i=>simp [sizeOf,typeInfo,hi,tsize]
section
variable {P:Program} {B:Nat} {ι:Inj} {w:World} {h:H}
theorem zca {G:Cfg} {h':H} {x:V} {base:Option Addr} {len cap n:Nat} {ys:List V} {us:List Value} (hS:SimN ι B w.heap (nodesH h)) (hx:RV ι x (.slice base len cap)) (hr:RVs ι ys us) (hv:overV G h x n ys=some h') :
  ∃ ι' a w',base=some a∧n≤len∧n≠0∧(storeCells a us).run P w=.ok () w'∧SimN ι' B w'.heap (nodesH h')∧ι.Le ι'∧ι'.at_=ι.at_∧Below B w w'∧∀ s,s∈stamps (nodesH h')→s∈stamps (nodesH h):=by
 unfold overV at hv
 split at hv
 ·split at hv
  ·simp at hv
  ·rename_i hc
   simp only [not_or,ne_eq,Classical.not_not] at hc
   obtain ⟨c1,c2,c3⟩:=hc
   obtain ⟨⟨ds,h1⟩,hlay,hv1⟩:=Option.bind_eq_some_iff.1 hv
   clear hv
   obtain ⟨cs,hnd,hv2⟩:=Option.bind_eq_some_iff.1 hv1
   clear hv1
   split at hv2
   ·rename_i hin
    simp only [Option.some.injEq] at hv2
    subst hv2
    cases hx with
    | sl hp m1 m2 m3 m4 =>
     have ho:=m3 (by omega)
     subst ho
     obtain ⟨ι2,l2,a2,n2,r2,s2,t2⟩:=z38 (ex:=[]) (w:=w) (by simpa using hS) hr hlay
     simp only [List.nil_append] at s2
     obtain ⟨w',k1,k2,k3,k4⟩:=z4k (P:=P) s2 hnd (l2.at_ _ _ hp) n2 r2 hin
     exact ⟨ι2,_,w',rfl,by omega,c3,k1,k2,l2,a2,k3,fun s hs=>t2 s (k4 s hs)⟩
   ·simp at hv2
 ·simp at hv
theorem asLen {x:V} {base:Option Addr} {len cap n:Nat} (hx:RV ι x (.slice base len cap)) (hn:lenOf x=some n):n=len:=by
 rcases z4t hx hn with ⟨h1,h2⟩ | ⟨s,h1,h2⟩ | ⟨a,c,h1⟩
 ·simp only [Value.slice.injEq] at h1;rw [h2];exact h1.2.1.symm
 ·simp at h1
 ·simp only [Value.slice.injEq] at h1;exact h1.2.1.symm
theorem ze9 {G:Cfg} {σ:Stamp} {h':H} {t ty:TypeId} {ts:List TypeId} {x y v:V} {ux uy:Value} (hS:SimN ι B w.heap (nodesH h)) (hx:RV ι x ux) (hy:RV ι y uy)
  (hv:copyV G h t x y=some (v,h')):DidE G.P B σ ι w h (do pure (.value (← Builtin.copy_ (t::ts).toArray ty #[ux,uy]))) v h':=by
 unfold copyV at hv
 obtain ⟨e,he,hv1⟩:=Option.bind_eq_some_iff.1 hv
 clear hv
 obtain ⟨n,hn,hv2⟩:=Option.bind_eq_some_iff.1 hv1
 clear hv1
 obtain ⟨m,hm,hv3⟩:=Option.bind_eq_some_iff.1 hv2
 clear hv2
 obtain ⟨ys,hc,hv4⟩:=Option.bind_eq_some_iff.1 hv3
 clear hv3
 obtain ⟨hu,hk⟩:=zq he
 split at hv4
 ·simp at hv4
 ·rename_i hl
  have hl:ys.length=m*tsize G.P e:=by simpa using hl
  split at hv4
  ·simp at hv4
  ·rename_i hsl
   have hsl:isSl x=true:=by simpa using hsl
   obtain ⟨base,len,cap,rfl,hle⟩:=z7y hsl hx
   have hnl:=asLen hx hn
   subst hnl
   obtain ⟨us,hus,hru⟩:=z1z (P:=G.P) (w:=w) (m:=min m n) hS hy hm hc hl (Nat.min_le_left _ _)
   have hus':Sem.run G.P (Builtin.firstCells (tsize G.P e) (Nat.min m n) uy) w=.ok us.toArray w:=hus
   have hlen:=z7e (P:=G.P) (w:=w) hy hm
   split at hv4
   ·rename_i h0
    simp only [Option.some.injEq,Prod.mk.injEq] at hv4
    obtain ⟨rfl,rfl⟩:=hv4
    have:us=[]:=by have:=hru.length;rw [h0] at this;simpa using this
    subst this
    have h0':Nat.min m n=0:=h0
    have hrun:(Builtin.copy_ (t::ts).toArray ty #[.slice base n cap,uy]).run G.P w=.ok (.int .i64 0) w:=by
     cases base<;>simp [Builtin.copy_,run_underlying hu,z8y hk,hlen,hus',h0',storeCells,goInt]
     all_goals (rw [h0'] at hus';simp [hus',storeCells])
    exact ⟨ι,w,.value (.int .i64 0),_,by simp [hrun],.inl rfl,.p _,hS,.refl _,.refl _ _ _,.refl _ _⟩
   ·split at hv4
    ·obtain ⟨h2,hov,hv5⟩:=Option.map_eq_some_iff.1 hv4
     simp only [Prod.mk.injEq] at hv5
     obtain ⟨rfl,rfl⟩:=hv5
     obtain ⟨ι2,a,w',rfl,k0,k00,k1,k2,k3,k4,k5,k6⟩:=zca (P:=G.P) hS hx hru hov
     have hrun:(Builtin.copy_ (t::ts).toArray ty #[.slice (some a) n cap,uy]).run G.P w=.ok (.int .i64 ((min m n:Nat):Int)) w':=by
      simp [Builtin.copy_,run_underlying hu,z8y hk,hlen,hus',k1,goInt]
      try rfl
     exact ⟨ι2,w',.value (.int .i64 ((min m n:Nat):Int)),_,by simp [hrun],.inl rfl,.p _,k2,k3,.of_eq k4 k6,k5⟩
    ·simp at hv4
theorem zdz {G:Cfg} {σ:Stamp} {h':H} {t ty:TypeId} {ts:List TypeId} {x v:V} {ux:Value} (hS:SimN ι B w.heap (nodesH h)) (hx:RV ι x ux)
  (hv:clearV G h t x=some (v,h')):DidE G.P B σ ι w h (do pure (.value (← Builtin.clear_ (t::ts).toArray ty #[ux]))) v h':=by
 unfold clearV at hv
 obtain ⟨e,he,hv1⟩:=Option.bind_eq_some_iff.1 hv
 clear hv
 obtain ⟨z,hz,hv2⟩:=Option.bind_eq_some_iff.1 hv1
 clear hv1
 obtain ⟨n,hn,hv4⟩:=Option.bind_eq_some_iff.1 hv2
 clear hv2
 obtain ⟨hu,hk⟩:=zq he
 obtain ⟨i,z0,hi,h0,rfl,hleaf⟩:=z1m hz
 split at hv4
 ·simp at hv4
 ·rename_i hsl
  have hsl:isSl x=true:=by simpa using hsl
  obtain ⟨base,len,cap,rfl,hle⟩:=z7y hsl hx
  have hnl:=asLen hx hn
  subst hnl
  split at hv4
  ·rename_i h0
   subst h0
   simp only [Option.some.injEq,Prod.mk.injEq] at hv4
   obtain ⟨rfl,rfl⟩:=hv4
   have hrun:(Builtin.clear_ (t::ts).toArray ty #[.slice base 0 cap]).run G.P w=.ok (.tuple #[]) w:=by
    cases base<;>simp [Builtin.clear_,run_underlying hu]
   exact ⟨ι,w,.value (.tuple #[]),_,by simp [hrun],.inl rfl,.tup .nil,hS,.refl _,.refl _ _ _,.refl _ _⟩
  ·split at hv4
   ·simp at hv4
   ·split at hv4
    ·obtain ⟨h2,hov,hv5⟩:=Option.map_eq_some_iff.1 hv4
     simp only [Prod.mk.injEq] at hv5
     obtain ⟨rfl,rfl⟩:=hv5
     have hru:RVs ι (rept n (z0.cells.toList.map V.p)) (rept n z0.cells.toList):=by rw [← zb8];exact .plain _
     obtain ⟨ι2,a,w',rfl,k0,k00,k1,k2,k3,k4,k5,k6⟩:=zca (P:=G.P) hS hx hru hov
     have hz2:(Builtin.zeroCells z0.cells n).toList=rept n z0.cells.toList:=z42 _ _
     obtain ⟨n',rfl⟩:∃ k,n=k+1:=⟨n-1,by omega⟩
     have hrun:(Builtin.clear_ (t::ts).toArray ty #[.slice (some a) (n'+1) cap]).run G.P w=.ok (.tuple #[]) w':=by
      simp [Builtin.clear_,run_underlying hu,zeroValue,typeInfo,hi,h0,hz2,k1]
     exact ⟨ι2,w',.value (.tuple #[]),_,by simp [hrun],.inl rfl,.tup .nil,k2,k3,.of_eq k4 k6,k5⟩
    ·simp at hv4
end
end Go.Ev
namespace Go.Ev
open Go.RowKit (Below)
set_option linter.unusedVariables false
set_option linter.unusedSimpArgs false

structure St (B n:Nat) (ι:Inj) (e:Env) (h:H) (a:Act) (w:World):Prop where
 sim:SimN ι B w.heap (nodesH h)
 env:RE ι e a
 size:a.tmps.size=n
 defers:a.defers=[]
 big:B≤w.heap.size
structure Went (σ:Stamp) (B:Nat) (ι:Inj) (w:World) (ns:Nodes) (ι':Inj) (w':World) (ns':Nodes):Prop where
 le:ι.Le ι'
 grew:Grew σ ι ι' ns ns'
 below:Below B w w'
theorem Went.refl (σ:Stamp) (B:Nat) (ι:Inj) (w:World) (ns:Nodes):Went σ B ι w ns ι w ns:=⟨.refl _,.refl _ _ _,.refl _ _⟩
theorem Went.trans {σ:Stamp} {B:Nat} {a b c:Inj} {x y z:World} {l m n:Nodes} (h:Went σ B a x l b y m) (k:Went σ B b y m c z n):Went σ B a x l c z n :=
 ⟨h.le.trans k.le,h.grew.trans k.grew,h.below.trans k.below⟩
theorem Went.up {σ τ:Stamp} {B:Nat} {a b:Inj} {x y:World} {l m:Nodes} (h:Went τ B a x l b y m) (ht:σ <:+ τ):Went σ B a x l b y m:=⟨h.le,h.grew.up ht,h.below⟩

structure RetOk (ι:Inj) (cs:List C) (v:Value):Prop where
 rv:∀ h d,RV ι (tupV (resVs h d 0 cs)) v
def CallOk (G:Cfg) (B:Nat) (rec:CallF):Prop :=
 ∀ f σ args h cs h',rec f σ args h=some (cs,h')→∀ (ι:Inj) (w:World) (us:Array Value),SimN ι B w.heap (nodesH h)→RVs ι args us.toList→Fresh σ ι (nodesH h)→B≤w.heap.size →
  (∃ fn, G.P.funcs[f]? = some fn ∧ (fn.name == "runtime.NumGoroutine") = false ∧ fn.body.isNone = false) ∧
  Calls G.P f us w fun e w'=>∃ v ι',e=.returned v∧SimN ι' B w'.heap (z5 cs++nodesH h')∧RetOk ι' cs v∧Went σ B ι w (nodesH h) ι' w' (z5 cs++nodesH h')
def LoopOk (G:Cfg) (B m:Nat) (loop:LoopF):Prop :=
 ∀ n c σ e h x e' h',loop c σ e h=some (x,e',h')→fits n c=true→∀ (ι:Inj) (a:Act) (w:World),St B n ι e h a w→Fresh σ ι (nodesH h) →
  ∀ Q:Exit→Act→World→Prop,(∀ a' w' ι',St B n ι' e' h' a' w'→Went σ B ι w (nodesH h) ι' w' (nodesH h')→Q x a' w')→Code.rounds G.P c Q m a w

section
variable {G:Cfg} {B n:Nat} {rec:CallF} {loop:LoopF} {ι:Inj} {e:Env} {h:H} {a:Act} {w:World}

theorem zbb (a:Act) (d:Option Nat) (u:Value):(a.put d u).tmps.size=a.tmps.size:=by cases d<;>simp [Act.put]
theorem z9p (a:Act) (d:Option Nat) (u:Value):(a.put d u).defers=a.defers:=by cases d<;>rfl
theorem St.put (hs:St B n ι e h a w) {ι':Inj} {h':H} {w':World} {v:V} {u:Value} {d:Option Nat} (hd:∀ i,d=some i→i<n) (hl:ι.Le ι') (hS:SimN ι' B w'.heap (nodesH h')) (hv:RV ι' v u) (hb:Below B w w') :
  St B n ι' (put e d v) h' (a.put d u) w' :=
 ⟨hS,put_ok (hs.env.mono hl) hv d (fun i hi=>by rw [hs.size];exact hd i hi),by rw [zbb,hs.size],by rw [z9p,hs.defers],Nat.le_trans hs.big hb.size⟩
theorem St.mono (hs:St B n ι e h a w) {ι':Inj} {h':H} {w':World} (hl:ι.Le ι') (hS:SimN ι' B w'.heap (nodesH h')) (hb:Below B w w'):St B n ι' e h' a w' :=
 ⟨hS,hs.env.mono hl,hs.size,hs.defers,Nat.le_trans hs.big hb.size⟩

theorem z5s {σ:Stamp} {o:Oper} {v:V} {h':H} (hs:St B n ι e h a w) (hd:∀ i,o.dst=some i→i<n) (hx:DidE G.P B σ ι w h (execOp a.eval o) v h') {next:Act→World→Prop} {Q:Exit→Act→World→Prop}
  (hk:∀ u w' ι',St B n ι' (put e o.dst v) h' (a.put o.dst u) w'→Went σ B ι w (nodesH h) ι' w' (nodesH h')→next (a.put o.dst u) w'):o.wp G.P a w next Q:=by
 obtain ⟨ι',w',nx,u,k1,k2,k3,k4,k5,k6,k7⟩:=hx
 simp only [Oper.wp,k1]
 have fin:=hk u w' ι' (hs.put hd k5 k4 k3 k7) ⟨k5,k6,k7⟩
 rcases k2 with rfl | ⟨rfl,rfl⟩
 ·exact fin
 ·exact fin
theorem z7o {o:Oper} {v:V} (σ:Stamp) (hs:St B n ι e h a w) (hd:∀ i,o.dst=some i→i<n) (hx:pureV G.P e h o.op=some v) {next:Act→World→Prop} {Q:Exit→Act→World→Prop}
  (hk:∀ u w' ι',St B n ι' (put e o.dst v) h (a.put o.dst u) w'→Went σ B ι w (nodesH h) ι' w' (nodesH h)→next (a.put o.dst u) w'):o.wp G.P a w next Q:=by
 obtain ⟨ι',w',u,k1,k2,k3,k4,k5,k6⟩:=zer (o:=o) hs.big hs.sim hs.env hx
 simp only [Oper.wp,k1]
 exact hk u w' ι' (hs.put hd k4 k3 k2 k6) ⟨k4,.of_eq k5 fun _ h=>h,k6⟩

theorem zcv (h:H) (d:Option Nat) (cs:List C):Part (nodesH (land h d cs).2) (z5 cs++nodesH h):=by
 cases d with
 | none=>exact Part.right _ _
 | some d =>
  simp only [land]
  cases z3z cs with
  | true=>exact Part.right _ _
  | false=>exact z24 h d cs
theorem zeu (hrec:CallOk G B rec) {σ:Stamp} {o:Oper} {c:Call} {v:V} {h':H} (hs:St B n ι e h a w) (hf:Fresh σ ι (nodesH h)) (hd:∀ i,o.dst=some i→i<n) (ho:o.op=.call c) (hx:callE G rec σ e h c o.dst=some (v,h'))
  {next:Act→World→Prop} {Q:Exit→Act→World→Prop} (hk:∀ u w' ι',St B n ι' (put e o.dst v) h' (a.put o.dst u) w'→Went σ B ι w (nodesH h) ι' w' (nodesH h')→next (a.put o.dst u) w'):o.wp G.P a w next Q:=by
 obtain ⟨callee,args,argTypes⟩:=c
 unfold callE at hx
 simp only at hx
 have fin:∀ {s:Sem Value} {b:Builtin},callee=.builtin b→(∀ cs,builtin b argTypes o.type cs (args.map a.eval)=(do pure (.value (← s))))→DidE G.P B σ ι w h (do pure (.value (← s))) v h'→o.wp G.P a w next Q:=fun {s b} hc hb hr=>by
  refine z5s hs hd ?_ hk
  subst hc
  obtain ⟨ι',w',nx,u,k1,k2⟩:=hr
  refine ⟨ι',w',nx,u,?_,k2⟩
  simp only [execOp,ho,resolve,Sem.run_bind,Sem.run_pure,Result.andThen_ok,invoke,hb]
  simpa using k1
 split at hx
 ·-- append
  split at hx
  ·rename_i x y t t' d h1 h2 h3
   have e1:args=#[x,y]:=by apply Array.ext';simpa using h1
   have e2:argTypes=#[t,t']:=by apply Array.ext';simpa using h2
   subst e1;subst e2
   exact fin (s:=Builtin.append_ #[t,t'] o.type #[a.eval x,a.eval y]) rfl (fun cs=>by simp [builtin]) (zdm hs.big hs.sim hf (opd_ok hs.env x) (opd_ok hs.env y) hx)
  ·simp at hx
 ·split at hx
  ·rename_i x y t ts h1 h2
   have e1:args=#[x,y]:=by apply Array.ext';simpa using h1
   have e2:argTypes=(t::ts).toArray:=by apply Array.ext';simpa using h2
   subst e1;subst e2
   exact fin (s:=Builtin.copy_ (t::ts).toArray o.type #[a.eval x,a.eval y]) rfl (fun cs=>by simp [builtin]) (ze9 hs.sim (opd_ok hs.env x) (opd_ok hs.env y) hx)
  ·simp at hx
 ·split at hx
  ·rename_i x t ts h1 h2
   have e1:args=#[x]:=by apply Array.ext';simpa using h1
   have e2:argTypes=(t::ts).toArray:=by apply Array.ext';simpa using h2
   subst e1;subst e2
   exact fin (s:=Builtin.clear_ (t::ts).toArray o.type #[a.eval x]) rfl (fun cs=>by simp [builtin]) (zdz hs.sim (opd_ok hs.env x) hx)
  ·simp at hx
 ·rename_i f
  split at hx
  ·rename_i g caps hfn
   obtain ⟨⟨xs,h1⟩,hq,hx⟩:=Option.bind_eq_some_iff.1 hx
   obtain ⟨⟨cs,h2⟩,hr,hl⟩:=Option.map_eq_some_iff.1 hx
   simp only at hr
   obtain ⟨rfl,rfl⟩:v=(land h2 o.dst cs).1∧h'=(land h2 o.dst cs).2:=by simp only [] at hl;rw [hl];exact ⟨rfl,rfl⟩
   have hg:=opd_ok hs.env f
   rw [hfn] at hg
   generalize hgv:a.eval f=gv at hg
   cases hg with
   | clo hcaps =>
    rename_i vs
    have hall:RVs ι (args.toList.map (opd e)++caps) (args.map a.eval++vs).toList:=by
     rw [Array.toList_append,Array.toList_map]
     exact RVs.append (z7r hs.env _) hcaps
    obtain ⟨ι1,l1,a1,r1,s1,t1⟩:=ze5 hs.sim hall hq
    obtain ⟨⟨fn,q1,q2,q3⟩,q4⟩:=hrec g σ _ h1 cs h2 hr ι1 w (args.map a.eval++vs) s1 r1 (fun s hm=>⟨by rw [a1];exact (hf s hm).1,fun hx=>(hf s hm).2 (t1 s hx)⟩) hs.big
    have g1:Grew σ ι ι1 (nodesH h) (nodesH h1):=.of_eq a1 t1
    have q2' : ¬ fn.name = "runtime.NumGoroutine" := by simpa using q2
    have q3':¬ fn.body=none:=fun hx=>by rw [hx] at q3;simp at q3
    have hrun:(execOp a.eval o).run G.P w=.ok (.enter g (args.map a.eval++vs)) w:=by
     simp [execOp,ho,resolve,hgv,Deferred.ofValue,invoke,callFunc,q1,q2',q3']
    simp only [Oper.wp,hrun,Oper.upon]
    refine q4.mono fun en w' hen=>?_
    obtain ⟨u,ι',rfl,k1,k2,k3⟩:=hen
    simp only
    have pt:=zcv h2 o.dst cs
    have hS':SimN ι' B w'.heap (nodesH (land h2 o.dst cs).2):=k1.part pt
    have k3g:=g1.trans k3.grew
    refine hk u w' ι' ?_ ⟨l1.trans k3.le,⟨k3g.at_,fun s hm=>k3g.st s (z16 pt hm)⟩,k3.below⟩
    cases hdst:o.dst with
    | none=>rw [hdst] at hS';exact hs.mono (l1.trans k3.le) hS' k3.below
    | some d =>
     rw [hdst] at hS'
     have:=hs.put (v:=(land h2 (some d) cs).1) (u:=u) (d:=some d) (fun i hi=>hd i (by rw [hdst,hi])) (l1.trans k3.le) hS' (k2.rv h2 d) k3.below
     exact this
  ·simp at hx
 ·simp at hx

theorem eff_ok (hrec:CallOk G B rec) {σ:Stamp} {o:Oper} {v:V} {h':H} (hs:St B n ι e h a w) (hf:Fresh σ ι (nodesH h)) (hd:∀ i,o.dst=some i→i<n) (hx:effV G rec σ e h o=some (v,h'))
  {next:Act→World→Prop} {Q:Exit→Act→World→Prop} (hk:∀ u w' ι',St B n ι' (put e o.dst v) h' (a.put o.dst u) w'→Went σ B ι w (nodesH h) ι' w' (nodesH h')→next (a.put o.dst u) w'):o.wp G.P a w next Q:=by
 unfold effV at hx
 split at hx
 ·rename_i t d h1 h2
  exact z5s hs hd (by simp only [execOp,h1];exact ze6 hs.big hs.sim hf hx) hk
 ·rename_i t x d h1 h2
  exact z5s hs hd (by simp only [execOp,h1];exact box_ok hs.big hs.sim hf (opd_ok hs.env x) hx) hk
 ·rename_i t m c d h1 h2
  exact z5s hs hd (by simp only [execOp,h1];exact zax hs.big hs.sim hf (opd_ok hs.env m) (opd_ok hs.env c) hx) hk
 ·rename_i t x y h1
  obtain ⟨h2,hst,hv⟩:=Option.map_eq_some_iff.1 hx
  simp only [Prod.mk.injEq] at hv
  obtain ⟨rfl,rfl⟩:=hv
  exact z5s hs hd (by simp only [execOp,h1];exact ze3 hs.sim hf (opd_ok hs.env x) (opd_ok hs.env y) hst) hk
 ·rename_i c d h1
  exact zeu hrec hs hf hd h1 hx hk
 ·simp at hx

theorem z6m (hs:St B n ι e h a w) {ops:Array Oper} {o:Oper} {d:Nat} {want b:Bool} (hg:zi ops o=some (some (d,want))) (hb:gdB (e d) want=some b) (hd:d<n):Region.wanted o (yielded ops a.tmps)=b:=by
 unfold zi at hg
 split at hg
 ·simp at hg
 ·rename_i j wt hgo
  split at hg
  ·rename_i d' hd'
   simp only [Option.some.injEq,Prod.mk.injEq] at hg
   obtain ⟨rfl,rfl⟩:=hg
   have hr:=hs.env d'
   have hget:a.tmps[d']?=some (a.tmps.getD d' undef):=by rw [Array.getD_eq_getD_getElem?];rw [Array.getElem?_eq_getElem (by rw [hs.size];exact hd)];rfl
   simp only [Region.wanted,hgo,yielded,hd',Option.bind_some,hget]
   unfold gdB at hb
   split at hb
   ·rename_i b' hv
    rw [hv] at hr
    generalize a.tmps.getD d' undef=u at hr ⊢
    cases hr
    simp only [Option.some.injEq] at hb
    subst hb
    cases b'<;>cases wt<;>rfl
   ·rename_i hv
    rw [hv] at hr
    generalize a.tmps.getD d' undef=u at hr ⊢
    cases hr
    simp only [Option.some.injEq] at hb
    subst hb
    rfl
   ·simp at hb
  ·simp at hg
theorem z3r {ops:Array Oper} {o:Oper} (hg:zi ops o=some none) (y:Nat→Option Bool):Region.wanted o y=true:=by
 unfold zi at hg
 split at hg
 ·rename_i h1;simp [Region.wanted,h1]
 ·split at hg<;>simp at hg
theorem z56 {ops:Array Oper} {o:Oper} {d:Nat} {want:Bool} (hg:zi ops o=some (some (d,want))):∃ (j:Nat) (o':Oper),ops[j]?=some o'∧o'.dst=some d:=by
 unfold zi at hg
 split at hg
 ·simp at hg
 ·rename_i j wt hgo
  split at hg
  ·rename_i d' hd'
   simp only [Option.some.injEq,Prod.mk.injEq] at hg
   obtain ⟨rfl,rfl⟩:=hg
   obtain ⟨o',h1,h2⟩:=Option.bind_eq_some_iff.1 hd'
   exact ⟨j,o',h1,h2⟩
  ·simp at hg
theorem z40 {id:Nat} {ops:Array Oper} {dr:Bool} (hf:fits n (.region id ops dr)=true) {j d:Nat} {o:Oper} (ho:ops[j]?=some o) (hd:o.dst=some d):d<n:=by
 have:=List.all_eq_true.1 hf o (Array.mem_toList_iff.2 (Array.mem_of_getElem? ho))
 rw [hd] at this
 simpa using this
theorem zcd (hs:St B n ι e h a w) {d:Option Nat} (hd:∀ i,d=some i→i<n):St B n ι (put e d udf) h (a.put d undef) w :=
 hs.put hd (.refl _) hs.sim (.tup .nil) (.refl _ _)

theorem zb0 {α:Type} (hrec:CallOk G B rec) {id:Nat} {ops:Array Oper} {dr:Bool} (hfit:fits n (.region id ops dr)=true) {σ:Stamp} {k:Env→H→Option α} {r:α} {Q:Exit→Act→World→Prop} :
  ∀ (os:List Oper) (i:Nat) (e:Env) (h:H) (a:Act) (w:World) (ι:Inj),ops.toList.drop i=os→evOps G rec ops σ k i os e h=some r→St B n ι e h a w→(∀ j,i≤j→Fresh (j::σ) ι (nodesH h)) →
  (∀ e' h' a' w' ι',k e' h'=some r→St B n ι' e' h' a' w'→Went σ B ι w (nodesH h) ι' w' (nodesH h')→Q .normal a' w') →
  wpOps G.P ops Q ((List.range (os.length)).map (·+i)) a w
 | [],i,e,h,a,w,ι,hdr,hev,hs,hf,hk=>by
  simp only [evOps] at hev
  exact hk e h a w ι hev hs (.refl _ _ _ _ _)
 | o::os,i,e,h,a,w,ι,hdr,hev,hs,hf,hk=>by
  have hoi:ops[i]?=some o:=by
   have:=congrArg (·[0]?) hdr
   simpa using this
  have hdr2:ops.toList.drop (i+1)=os:=by
   have:=congrArg (List.drop 1) hdr
   simpa [Nat.add_comm] using this
  have hlist:(List.range (o::os).length).map (·+i)=i::(List.range os.length).map (·+(i+1)):=by
   simp only [List.length_cons,List.range_succ_eq_map,List.map_cons,Nat.zero_add,List.map_map]
   congr 1
   apply List.map_congr_left
   intro x _
   simp only [Function.comp,Nat.succ_eq_add_one];omega
  have hd:∀ j,o.dst=some j→j<n:=fun j hj=>z40 hfit hoi hj
  rw [hlist]
  simp only [wpOps,hoi]
  -- what follows
  have go:∀ (v:V) (h':H) (u:Value) (w':World) (ι':Inj),evOps G rec ops σ k (i+1) os (put e o.dst v) h'=some r→St B n ι' (put e o.dst v) h' (a.put o.dst u) w'→Went (i::σ) B ι w (nodesH h) ι' w' (nodesH h') →
    wpOps G.P ops Q ((List.range os.length).map (·+(i+1))) (a.put o.dst u) w':=fun v h' u w' ι' hev' hs' hw' =>
   zb0 hrec hfit os (i+1) _ _ _ _ ι' hdr2 hev' hs' (fun j hj=>(hf j (by omega)).other (by omega) hw'.grew) fun e2 h2 a2 w2 ι2 q1 q2 q3 =>
    hk e2 h2 a2 w2 ι2 q1 q2 ((hw'.up (zd i σ)).trans q3)
  have skip:Region.wanted o (yielded ops a.tmps)=false→evOps G rec ops σ k (i+1) os (put e o.dst udf) h=some r →
    (if Region.wanted o (yielded ops a.tmps) then o.wp G.P a w (wpOps G.P ops Q ((List.range os.length).map (·+(i+1)))) Q∨(o.asks G.P a w∧LetsOut Q) else wpOps G.P ops Q ((List.range os.length).map (·+(i+1))) (a.put o.dst undef) w):=fun hw hev'=>by
   simp only [hw,if_false,Bool.false_eq_true]
   exact go udf h undef w ι hev' (zcd hs hd) (.refl _ _ _ _ _)
  simp only [evOps] at hev
  split at hev
  ·-- pure
   obtain ⟨v,hv,hev'⟩:=Option.bind_eq_some_iff.1 hev
   clear hev
   unfold pureG at hv
   split at hv
   ·rename_i hg
    simp only [z3r hg,if_true]
    exact .inl (z7o (i::σ) hs hd hv fun u w' ι' q1 q2=>go v h u w' ι' hev' q1 q2)
   ·rename_i d want hg
    obtain ⟨j,o',hj,hod⟩:=z56 hg
    obtain ⟨b,hb,hv'⟩:=Option.bind_eq_some_iff.1 hv
    have hw:=z6m hs hg hb (z40 hfit hj hod)
    cases b with
    | true =>
     simp only [if_true] at hv'
     simp only [hw,if_true]
     exact .inl (z7o (i::σ) hs hd hv' fun u w' ι' q1 q2=>go v h u w' ι' hev' q1 q2)
    | false =>
     simp only [Bool.false_eq_true,if_false,Option.some.injEq] at hv'
     subst hv'
     exact skip hw hev'
   ·simp at hv
  ·-- effect
   obtain ⟨⟨v,h'⟩,hv,hev'⟩:=Option.bind_eq_some_iff.1 hev
   clear hev
   unfold effG at hv
   split at hv
   ·rename_i hg
    simp only [z3r hg,if_true]
    exact .inl (eff_ok hrec hs (hf i (Nat.le_refl _)) hd hv fun u w' ι' q1 q2=>go v h' u w' ι' hev' q1 q2)
   ·rename_i d want hg
    obtain ⟨j,o',hj,hod⟩:=z56 hg
    obtain ⟨b,hb,hv'⟩:=Option.bind_eq_some_iff.1 hv
    have hw:=z6m hs hg hb (z40 hfit hj hod)
    cases b with
    | true =>
     simp only [if_true] at hv'
     simp only [hw,if_true]
     exact .inl (eff_ok hrec hs (hf i (Nat.le_refl _)) hd hv' fun u w' ι' q1 q2=>go v h' u w' ι' hev' q1 q2)
    | false =>
     simp only [Bool.false_eq_true,if_false,Option.some.injEq,Prod.mk.injEq] at hv'
     obtain ⟨rfl,rfl⟩:=hv'
     exact skip hw hev'
   ·simp at hv
end
end Go.Ev
namespace Go.Ev
set_option linter.unusedVariables false
set_option linter.unusedSimpArgs false

theorem z59 {e e':Env} {x:Operand} (h:∀ t,x=.tmp t→e t=e' t):opd e x=opd e' x:=by
 cases x with
 | tmp t=>exact h t rfl
 | _=>rfl
def Alike (e e':Env) (o:Op):Prop:=∀ t,.tmp t∈o.operands→e t=e' t
theorem z3w {α β:Type} {f g:α→β} {l:List α} (h:∀ x∈l,f x=g x):l.map f=l.map g:=List.map_congr_left h
theorem z7h {e e':Env} {x:Option Operand} (h:∀ y,x=some y→opd e y=opd e' y):x.map (opd e)=x.map (opd e'):=by
 cases x with
 | none=>rfl
 | some y=>simp [h y rfl]

theorem z43 {P:Program} {e e':Env} {h:H} {op:Op} (hx0:Alike e e' op):pureV P e h op=pureV P e' h op:=by
 have hx:∀ x∈op.operands,opd e x=opd e' x:=fun x hm=>z59 fun t ht=>hx0 t (by rw [← ht];exact hm)
 clear hx0
 cases op<;>simp only [pureV]<;>simp only [Op.operands] at hx<;>try rfl
 case move x=>rw [hx x (by simp)]
 case assign x=>rw [hx x (by simp)]
 case pick c a b=>rw [hx c (by simp),hx a (by simp),hx b (by simp)]
 case build t parts =>
  rw [z3w (l:=parts.toList) (f:=fun q=>(q.1,opd e q.2)) (g:=fun q=>(q.1,opd e' q.2)) fun q hq=>by rw [hx q.2 (by simp;exact ⟨q.1,Array.mem_toList_iff.1 hq⟩)]]
 case buildSlice t n parts =>
  rw [z3w (l:=parts.toList) (f:=fun q=>(q.1,opd e q.2)) (g:=fun q=>(q.1,opd e' q.2)) fun q hq=>by rw [hx q.2 (by simp;exact ⟨q.1,Array.mem_toList_iff.1 hq⟩)]]
 case load t a=>rw [hx a (by simp)]
 case nilCheck x=>rw [hx x (by simp)]
 case binOp op t x y yt=>rw [hx x (by simp),hx y (by simp)]
 case unOp op t x=>rw [hx x (by simp)]
 case convert a b x=>rw [hx x (by simp)]
 case fieldAddr t x f=>rw [hx x (by simp)]
 case field t x f=>rw [hx x (by simp)]
 case indexAddr t x i=>rw [hx x (by simp),hx i (by simp)]
 case index t x i=>rw [hx x (by simp),hx i (by simp)]
 case slice t x lo hi mx =>
  rw [hx x (by simp),z7h (x:=lo) fun y hy=>hx y (by simp [hy]),z7h (x:=hi) fun y hy=>hx y (by simp [hy]),z7h (x:=mx) fun y hy=>hx y (by simp [hy])]
 case extract t i=>rw [hx t (by simp)]
 case makeFunc fn first caps =>
  cases fn<;>try rfl
  rename_i f
  show (if first.size=0 then some (V.clo f (caps.toList.map (opd e))) else none)=(if first.size=0 then some (V.clo f (caps.toList.map (opd e'))) else none)
  rw [z3w (l:=caps.toList) fun x hm=>hx x (by simp [Array.mem_toList_iff.1 hm])]
 case call c =>
  obtain ⟨callee,args,argTypes⟩:=c
  have hargs:args.toList.map (opd e)=args.toList.map (opd e'):=z3w fun x hm=>hx x (by simp [Call.operands,Array.mem_toList_iff.1 hm])
  cases callee with
  | builtin b =>
   cases b<;>simp only [callP]<;>try rfl
   all_goals first
    | rw [hargs]
    | (
     split
     ·rename_i x t rest h1 h2
      rw [h1] at hargs
      simp only [List.map_cons,List.map_nil,List.cons.injEq,and_true] at hargs
      rw [hargs]
     ·rfl)
  | _=>simp only [callP]

theorem z6l {G:Cfg} {rec:CallF} {σ:Stamp} {e e':Env} {h:H} {o:Oper} (hx0:Alike e e' o.op):effV G rec σ e h o=effV G rec σ e' h o:=by
 obtain ⟨dst,op,type,pos,after,guard⟩:=o
 have hx:∀ x∈op.operands,opd e x=opd e' x:=fun x hm=>z59 fun t ht=>hx0 t (by simp only;rw [← ht];exact hm)
 clear hx0
 have hcall:∀ c,op=.call c→callE G rec σ e h c dst=callE G rec σ e' h c dst:=by
  intro c hc
  subst hc
  simp only [Op.operands] at hx
  obtain ⟨callee,args,argTypes⟩:=c
  have hargs:args.toList.map (opd e)=args.toList.map (opd e'):=z3w fun x hm=>hx x (by simp [Call.operands,Array.mem_toList_iff.1 hm])
  cases callee with
  | builtin b =>
   cases b<;>simp only [callE]<;>try rfl
   ·split
    ·rename_i x y t t' d h1 h2
     rw [h1] at hargs
     simp only [List.map_cons,List.map_nil,List.cons.injEq,and_true] at hargs
     rw [hargs.1,hargs.2]
    ·rfl
   ·split
    ·rename_i x t rest h1 h2
     rw [h1] at hargs
     simp only [List.map_cons,List.map_nil,List.cons.injEq,and_true] at hargs
     rw [hargs]
    ·rfl
   ·split
    ·rename_i x y t rest h1 h2
     rw [h1] at hargs
     simp only [List.map_cons,List.map_nil,List.cons.injEq,and_true] at hargs
     rw [hargs.1,hargs.2]
    ·rfl
  | value f =>
   simp only [callE]
   rw [hx f (by simp [Call.operands]),hargs]
  | invoke r m=>simp only [callE]
 cases dst<;>cases op<;>first | rfl | exact hcall _ rfl | (simp only [effV];simp only [Op.operands] at hx)
 case some.box d t x=>rw [hx x (by simp)]
 case some.makeSlice d t n c=>rw [hx n (by simp),hx c (by simp)]
 case none.store t x y=>rw [hx x (by simp),hx y (by simp)]
 case some.store d t x y=>rw [hx x (by simp),hx y (by simp)]

theorem zbg {P:Program} {e:Env} {h h':H} {op:Op} (hu:usesH op=false):pureV P e h op=pureV P e h' op:=by
 cases op<;>simp only [pureV]<;>try rfl
 case load t a=>simp [usesH] at hu
 case makeFunc fn first caps=>cases fn<;>rfl
 case convert a b x=>simp [usesH] at hu
 case slice t x lo hi mx=>simp [usesH] at hu
 case binOp op t x y yt =>
  cases op<;>first | (simp [usesH] at hu;done) | rfl

theorem z44 {ops:Array Oper} {e e':Env} {o:Oper} (hx:∀ t,t∈o.looksAt ops→e t=e' t) {d:Nat} {want:Bool} (hg:zi ops o=some (some (d,want))):e d=e' d:=by
 refine hx d ?_
 unfold zi at hg
 unfold Oper.looksAt
 split at hg
 ·simp at hg
 ·rename_i j wt hgo
  split at hg
  ·rename_i d' hd'
   simp only [Option.some.injEq,Prod.mk.injEq] at hg
   obtain ⟨rfl,rfl⟩:=hg
   refine List.mem_append_right _ ?_
   simp [hgo,hd']
  ·simp at hg
theorem z37 {ops:Array Oper} {e e':Env} {o:Oper} (hx:∀ t,t∈o.looksAt ops→e t=e' t):Alike e e' o.op:=fun t ht=>hx t (by
 unfold Oper.looksAt
 refine List.mem_append_left _ (List.mem_filterMap.2 ⟨.tmp t,?_,rfl⟩)
 simpa using ht)
theorem zc0 {P:Program} {ops:Array Oper} {e e':Env} {h:H} {o:Oper} (hx:∀ t,t∈o.looksAt ops→e t=e' t):pureG P ops e h o=pureG P ops e' h o:=by
 unfold pureG
 have h1:=z43 (P:=P) (h:=h) (z37 hx)
 split
 ·exact h1
 ·rename_i d want hg
  rw [z44 hx hg,h1]
 ·rfl
theorem zcs {G:Cfg} {rec:CallF} {σ:Stamp} {ops:Array Oper} {e e':Env} {h:H} {o:Oper} (hx:∀ t,t∈o.looksAt ops→e t=e' t):effG G rec ops σ e h o=effG G rec ops σ e' h o:=by
 unfold effG
 have h1:=z6l (G:=G) (rec:=rec) (σ:=σ) (h:=h) (z37 hx)
 split
 ·exact h1
 ·rename_i d want hg
  rw [z44 hx hg,h1]
 ·rfl
theorem zbf {P:Program} {ops:Array Oper} {e:Env} {h h':H} {o:Oper} (hu:usesH o.op=false):pureG P ops e h o=pureG P ops e h' o:=by
 unfold pureG
 rw [zbg (P:=P) (e:=e) (h:=h) (h':=h') hu]
end Go.Ev
namespace Go.Ev
open Go.RowKit (Below)
set_option linter.unusedVariables false
set_option linter.unusedSimpArgs false
variable {b:Bool} {mk:Mk}

structure Rec where
 i:Nat
 e:Env
 h:H
 v:V
 h':H
abbrev oAt (ops:Array Oper) (i:Nat):Oper:=ops.getD i default
theorem z9z {ops:Array Oper} {o:Oper} (h:isPure o.op=true):effB b ops o=false:=by simp [effB,h]
theorem z4g {ops:Array Oper} {o:Oper} (h1:isPure o.op=false) (h2:isMk b ops o=true):effB b ops o=false:=by unfold effB;rw [h1,h2];rfl
theorem zb2 {ops:Array Oper} {o:Oper} (h1:isPure o.op=false) (h2:isMk b ops o=false):effB b ops o=true:=by unfold effB;rw [h1,h2];rfl
def Valid (b:Bool) (mk:Mk) (G:Cfg) (rec:CallF) (ops:Array Oper) (σ:Stamp) (r:Rec):Prop :=
 match isPure (oAt ops r.i).op,isMk b ops (oAt ops r.i) with
 | true,_=>pureG G.P ops r.e r.h (oAt ops r.i)=some r.v∧r.h'=r.h
 | false,true=>(match z2j (oAt ops r.i).op with
  | true=>r.v=(match (oAt ops r.i).dst with | some d=>V.ref (newLoc r.h d (r.i::σ)) 0 | none=>udf)
  | false=>∃ m,mk r.i=some m∧mkOf G (oAt ops r.i).op (opd r.e)=some m∧r.v=(match (oAt ops r.i).dst with | some d=>mkV' (newLoc r.h d (r.i::σ)) m | none=>udf))∧r.h'=r.h
 | false,false=>effG G rec ops (r.i::σ) r.e r.h (oAt ops r.i)=some (r.v,r.h')
def Chain (b:Bool) (mk:Mk) (G:Cfg) (rec:CallF) (ops:Array Oper) (σ:Stamp):List Rec→Env→H→Env→H→Prop
 | [],e,h,e',h'=>e'=e∧h'=h
 | r::rs,e,h,e',h'=>r.e=e∧r.h=h∧Valid b mk G rec ops σ r∧Chain b mk G rec ops σ rs (put e (oAt ops r.i).dst r.v) r.h' e' h'
def Watch (b:Bool) (G:Cfg) (ops:Array Oper):List (Nat×(H→Prop))→List Rec→Prop
 | _,[]=>True
 | ws,r::rs=>(effB b ops (oAt ops r.i)=true→∀ q∈ws,(anc ops r.i).testBit q.1=true∨q.2 r.h') ∧
  Watch b G ops (if isPure (oAt ops r.i).op&&usesH (oAt ops r.i).op then (r.i,fun h'=>pureG G.P ops r.e h' (oAt ops r.i)=some r.v)::ws else ws) rs

theorem z7b {α:Type} {p:Prop} {x:Option α} {r:α} (h:need p x=some r):p∧x=some r:=by
 unfold need at h
 split at h
 ·exact ⟨‹_›,h⟩
 ·simp at h
theorem z2e {α:Type} {anc:Nat} {r:α} {h:H} {x:Option α}:∀ {ws:List (Nat×(H→Prop))},needs anc ws h x=some r→(∀ q∈ws,anc.testBit q.1=true∨q.2 h)∧x=some r
 | [],hx=>⟨fun q hq=>by simp at hq,hx⟩
 | q::ws,hx=>by
  unfold needs at hx
  split at hx
  ·rename_i ht
   obtain ⟨h1,h2⟩:=z2e hx
   exact ⟨fun q' hq=>by
    rcases List.mem_cons.1 hq with rfl | hq
    ·exact .inl ht
    ·exact h1 q' hq,h2⟩
  ·obtain ⟨h0,hx⟩:=z7b hx
   obtain ⟨h1,h2⟩:=z2e hx
   exact ⟨fun q' hq=>by
    rcases List.mem_cons.1 hq with rfl | hq
    ·exact .inr h0
    ·exact h1 q' hq,h2⟩

theorem z3s {α:Type} {G:Cfg} {rec:CallF} {ops:Array Oper} {σ:Stamp} {k:Env→H→Option α} {r:α}:∀ (ord:List Nat) (ws:List (Nat×(H→Prop))) (e:Env) (h:H),evDraw b mk G rec ops σ k ord ws e h=some r →
  ∃ recs eF hF,recs.map Rec.i=ord∧Chain b mk G rec ops σ recs e h eF hF∧k eF hF=some r∧Watch b G ops ws recs
 | [],ws,e,h,hx=>⟨[],e,h,rfl,⟨rfl,rfl⟩,hx,trivial⟩
 | i::rest,ws,e,h,hx=>by
  simp only [evDraw] at hx
  split at hx
  ·rename_i b h1
   obtain ⟨v,hv,hx2⟩:=Option.bind_eq_some_iff.1 hx
   clear hx
   obtain ⟨recs,eF,hF,k1,k2,k3,k4⟩:=z3s rest _ _ _ hx2
   refine ⟨⟨i,e,h,v,h⟩::recs,eF,hF,by simp [k1],⟨rfl,rfl,?_,k2⟩,k3,⟨fun he=>?_,?_⟩⟩
   ·unfold Valid;simp only [h1];exact ⟨hv,trivial⟩
   ·rw [z9z h1] at he;exact absurd he (by simp)
   ·simp only [h1,Bool.true_and]
    cases hu:usesH (oAt ops i).op
    ·simp only [hu] at k4;simpa using k4
    ·simp only [hu] at k4;simpa using k4
  ·rename_i h1 h2
   split at hx
   ·rename_i hal
    obtain ⟨recs,eF,hF,k1,k2,k3,k4⟩:=z3s rest _ _ _ hx
    refine ⟨⟨i,e,h,_,h⟩::recs,eF,hF,by simp [k1],⟨rfl,rfl,?_,k2⟩,k3,⟨fun he=>?_,?_⟩⟩
    ·unfold Valid;simp only [h1,h2,hal];first | exact ⟨rfl,trivial⟩ | exact ⟨trivial,trivial⟩
    ·rw [z4g h1 h2] at he;exact absurd he (by simp)
    ·simp only [h1,Bool.false_and];simpa using k4
   ·rename_i hal
    obtain ⟨m,hm,hx2⟩:=Option.bind_eq_some_iff.1 hx
    clear hx
    obtain ⟨hm2,hx⟩:=z7b hx2
    clear hx2
    obtain ⟨recs,eF,hF,k1,k2,k3,k4⟩:=z3s rest _ _ _ hx
    refine ⟨⟨i,e,h,_,h⟩::recs,eF,hF,by simp [k1],⟨rfl,rfl,?_,k2⟩,k3,⟨fun he=>?_,?_⟩⟩
    ·unfold Valid;simp only [h1,h2,hal];exact ⟨⟨m,hm,hm2,rfl⟩,trivial⟩
    ·rw [z4g h1 h2] at he;exact absurd he (by simp)
    ·simp only [h1,Bool.false_and];simpa using k4
  ·rename_i h1 h2
   obtain ⟨⟨v,h'⟩,hv,hx2⟩:=Option.bind_eq_some_iff.1 hx
   clear hx
   obtain ⟨n1,n2⟩:=z2e hx2
   obtain ⟨recs,eF,hF,k1,k2,k3,k4⟩:=z3s rest _ _ _ n2
   refine ⟨⟨i,e,h,v,h'⟩::recs,eF,hF,by simp [k1],⟨rfl,rfl,?_,k2⟩,k3,⟨fun he=>n1,?_⟩⟩
   ·unfold Valid;simp only [h1,h2];exact hv
   ·simp only [h1,Bool.false_and];simpa using k4

def eS (ops:Array Oper) (S:Nat→Bool):List Rec→Env→Env
 | [],e=>e
 | r::rs,e=>eS ops S rs (if S r.i then put e (oAt ops r.i).dst r.v else e)
def hS (b:Bool) (ops:Array Oper) (S:Nat→Bool):List Rec→H→H
 | [],h=>h
 | r::rs,h=>hS b ops S rs (if S r.i&&effB b ops (oAt ops r.i) then r.h' else h)
theorem z71 {ops:Array Oper} {S:Nat→Bool}:∀ (xs ys:List Rec) (e:Env),eS ops S (xs++ys) e=eS ops S ys (eS ops S xs e)
 | [],_,_=>rfl
 | x::xs,ys,e=>z71 xs ys _
theorem z5b {ops:Array Oper} {S:Nat→Bool}:∀ (xs ys:List Rec) (h:H),hS b ops S (xs++ys) h=hS b ops S ys (hS b ops S xs h)
 | [],_,_=>rfl
 | x::xs,ys,h=>z5b xs ys _
theorem put_at (e e':Env) (d:Option Nat) (v:V) (t:Nat) (h:d≠some t→e t=e' t):put e d v t=put e' d v t:=by
 cases d with
 | none=>exact h (by simp)
 | some d =>
  simp only [put,upd]
  split
  ·rfl
  ·rename_i hne;exact h (by simp;exact fun hh=>hne hh.symm)
theorem z61 {ops:Array Oper} {S S':Nat→Bool} {t:Nat}:∀ (xs:List Rec) (e e':Env),(∀ x∈xs,(oAt ops x.i).dst=some t→S x.i=S' x.i)→e t=e' t→eS ops S xs e t=eS ops S' xs e' t
 | [],_,_,_,h=>h
 | x::xs,e,e',hx,h=>by
  unfold eS
  refine z61 xs _ _ (fun y hy=>hx y (List.mem_cons_of_mem _ hy)) ?_
  by_cases hd:(oAt ops x.i).dst=some t
  ·rw [hx x (List.mem_cons_self ..) hd]
   split
   ·exact put_at _ _ _ _ _ fun _=>h
   ·exact h
  ·have off:∀ (e:Env),put e (oAt ops x.i).dst x.v t=e t:=fun e=>by
    cases hdd:(oAt ops x.i).dst with
    | none=>rfl
    | some d =>
     simp only [put,upd]
     rw [if_neg (fun hh=>hd (by rw [hdd,hh]))]
   have:∀ (b:Bool) (e:Env),(if b then put e (oAt ops x.i).dst x.v else e) t=e t:=fun b e=>by
    cases b
    ·rfl
    ·exact off e
   rw [this,this];exact h
theorem z8p {ops:Array Oper} {S S':Nat→Bool}:∀ (xs:List Rec) (h:H),(∀ x∈xs,effB b ops (oAt ops x.i)=true→S x.i=S' x.i)→hS b ops S xs h=hS b ops S' xs h
 | [],_,_=>rfl
 | x::xs,h,hx=>by
  unfold hS
  have:(S x.i&&effB b ops (oAt ops x.i))=(S' x.i&&effB b ops (oAt ops x.i)):=by
   cases he:effB b ops (oAt ops x.i)
   ·simp
   ·rw [hx x (List.mem_cons_self ..) he]
  rw [this]
  exact z8p xs _ fun y hy=>hx y (List.mem_cons_of_mem _ hy)
theorem z9n {ops:Array Oper} {S:Nat→Bool}:∀ (xs:List Rec) (e:Env),(∀ x∈xs,S x.i=false)→eS ops S xs e=e
 | [],_,_=>rfl
 | x::xs,e,hx=>by
  unfold eS
  rw [hx x (List.mem_cons_self ..)]
  exact z9n xs e fun y hy=>hx y (List.mem_cons_of_mem _ hy)
theorem z7v {ops:Array Oper} {S:Nat→Bool}:∀ (xs:List Rec) (h:H),(∀ x∈xs,effB b ops (oAt ops x.i)=true→S x.i=false)→hS b ops S xs h=h
 | [],_,_=>rfl
 | x::xs,h,hx=>by
  unfold hS
  have:(S x.i&&effB b ops (oAt ops x.i))=false:=by
   cases he:effB b ops (oAt ops x.i)
   ·simp
   ·simp [hx x (List.mem_cons_self ..) he]
  rw [this]
  exact z7v xs h fun y hy=>hx y (List.mem_cons_of_mem _ hy)
theorem Valid.quiet {G:Cfg} {rec:CallF} {ops:Array Oper} {σ:Stamp} {r:Rec} (h:Valid b mk G rec ops σ r) (he:effB b ops (oAt ops r.i)=false):r.h'=r.h:=by
 unfold Valid at h
 split at h
 ·exact h.2
 ·exact h.2
 ·rename_i h1 h2
  rw [zb2 h1 h2] at he;exact absurd he (by simp)
theorem z76 {G:Cfg} {rec:CallF} {ops:Array Oper} {σ:Stamp} {S:Nat→Bool}:∀ (xs:List Rec) (e:Env) (h:H) (e':Env) (h':H),(∀ x∈xs,S x.i=true)→Chain b mk G rec ops σ xs e h e' h'→eS ops S xs e=e'∧hS b ops S xs h=h'
 | [],_,_,_,_,_,hc=>⟨hc.1.symm,hc.2.symm⟩
 | x::xs,e,h,e',h',hx,hc=>by
  obtain ⟨h1,h2,h3,h4⟩:=hc
  unfold eS hS
  rw [hx x (List.mem_cons_self ..)]
  simp only [if_true,Bool.true_and]
  have hq:(if effB b ops (oAt ops x.i)=true then x.h' else h)=x.h':=by
   split
   ·rfl
   ·rename_i he
    rw [h3.quiet (by simpa using he),h2]
  rw [hq]
  exact z76 xs _ _ _ _ (fun y hy=>hx y (List.mem_cons_of_mem _ hy)) h4
theorem z89 {G:Cfg} {rec:CallF} {ops:Array Oper} {σ:Stamp}:∀ (xs:List Rec) {r:Rec} {ys:List Rec} {e:Env} {h:H} {e':Env} {h':H},Chain b mk G rec ops σ (xs++r::ys) e h e' h'→Chain b mk G rec ops σ xs e h r.e r.h∧Valid b mk G rec ops σ r
 | [],_,_,_,_,_,_,hc=>⟨⟨hc.1,hc.2.1⟩,hc.2.2.1⟩
 | x::xs,_,_,_,_,_,_,hc=>by
  obtain ⟨k1,k2⟩:=z89 xs hc.2.2.2
  exact ⟨⟨hc.1,hc.2.1,hc.2.2.1,k1⟩,k2⟩
theorem z7c {G:Cfg} {ops:Array Oper} {q:Nat×(H→Prop)}:∀ (xs:List Rec) {ws:List (Nat×(H→Prop))} {f:Rec} {ys:List Rec},Watch b G ops ws (xs++f::ys)→q∈ws→effB b ops (oAt ops f.i)=true→(anc ops f.i).testBit q.1=true∨q.2 f.h'
 | [],_,_,_,hw,hq,hf=>hw.1 hf q hq
 | x::xs,_,_,_,hw,hq,hf=>z7c xs hw.2 (by split<;>simp [hq]) hf
theorem z92 {G:Cfg} {ops:Array Oper}:∀ (xs:List Rec) {ws:List (Nat×(H→Prop))} {r:Rec} {ys:List Rec} {f:Rec} {zs:List Rec},Watch b G ops ws (xs++r::(ys++f::zs))→isPure (oAt ops r.i).op=true→usesH (oAt ops r.i).op=true→effB b ops (oAt ops f.i)=true →
  (anc ops f.i).testBit r.i=true∨pureG G.P ops r.e f.h' (oAt ops r.i)=some r.v
 | [],ws,r,ys,f,zs,hw,h1,h2,hf=>by
  have:=hw.2
  rw [if_pos (by rw [h1,h2];rfl)] at this
  exact z7c ys (q:=(r.i,fun h'=>pureG G.P ops r.e h' (oAt ops r.i)=some r.v)) this (List.mem_cons_self ..) hf
 | x::xs,ws,r,ys,f,zs,hw,h1,h2,hf=>z92 xs hw.2 h1 h2 hf
end Go.Ev
