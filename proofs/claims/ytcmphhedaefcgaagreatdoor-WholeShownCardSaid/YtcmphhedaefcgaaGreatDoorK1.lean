/- Abstract code: a way to show what functions compute, first part. -/
import GoSem.Core.Sem
import Derived.Below
import Derived.Orders
import Derived.Laws.AppendOwn
import Derived.Deep.MidRow
import Derived.Laws.Tables
import Derived.Laws.MakeOwn
import Derived.Laws.Slices
import Derived.Laws.StructEq
import Derived.Great.FillDense
import Derived.Test.YtcmphhedaefcgaaGreatDoorProg
set_option linter.unusedVariables false
set_option linter.unusedSimpArgs false
section
namespace Go.Proofs.YtcmphhedaefcgaaGreatDoor.Av
inductive AV where
 | any
 | int (k:IntKind) (n:Int)
 | bool (b:Bool)
 | str (s:ByteArray)
 | nils
 | nilp
 | nilf
 | fn (f:Fn) (caps:List AV)
 | agg (l:List AV)
 | tuple (l:List AV)
 | list (sz:Nat) (l:List AV)
 | rptr (l:List AV)
 | ptr (sz k i off:Nat)
 | sl (sz k off len:Nat)
 | nilm
 | mp (k:Nat)
 | ifn
 | ifc
 | fb (f:Fn) (l:List AV)
 | dat (ks vs:List AV)
 deriving Inhabited
def AV.cells:AV→List AV
 | .agg l=>l
 | .dat _ _=>[]
 | v=>[v]
def AV.okSt:AV→Bool
 | .any | .tuple _=>false
 | _=>true
mutual
def AV.flat:AV→Bool
 | .fn _ l | .fb _ l | .agg l | .tuple l=>BdX l
 | .ptr .. | .sl .. | .mp _=>false
 | _=>true
def BdX:List AV→Bool
 | []=>true
 | v::l=>v.flat && BdX l
end
mutual
def AV.scal:AV→Bool
 | .fn _ l | .fb _ l | .agg l | .tuple l=>scalL l
 | .ptr .. | .sl .. | .list .. | .rptr .. | .mp _=>false
 | _=>true
def scalL:List AV→Bool
 | []=>true
 | v::l=>v.scal && scalL l
end
abbrev Bx:=List (Option (Nat × List AV))
def getT:List AV→Nat→AV
 | [],_=>.any
 | x::_,0=>x
 | _::l,n+1=>getT l n
def setT:List AV→Nat→AV→List AV
 | [],_,_=>[]
 | _::l,0,v=>v::l
 | x::l,n+1,v=>x::setT l n v
def putT (l:List AV):Option Nat→AV→List AV
 | none,_=>l
 | some d,v=>setT l d v
inductive AOpd where
 | tmp (t:Nat)
 | val (v:AV)
def AOpd.ev (l:List AV):AOpd→AV
 | .tmp t=>getT l t
 | .val v=>v
inductive AOp (α:Type) where
 | mov (x:α)
 | pick (c a b:α)
 | alloc (z:AV)
 | box (sz:Nat) (x:α)
 | bslm (sz:Nat) (xs:List α)
 | clr (sz:Nat) (x:α)
 | build (z:List AV) (ps:List (Nat × Nat × α))
 | bslice (sz:Nat) (xs:List α)
 | load (agg:Bool) (n:Nat) (x:α)
 | store (n:Nat) (p x:α)
 | nilc (x:α)
 | bin (op:BinOp) (x y:α)
 | eqs (neg:Bool) (n:Nat) (x y:α)
 | eqb (neg:Bool) (x y:α)
 | un (op:UnOp) (x:α)
 | isnil (neg:Bool) (x:α)
 | conv (k:IntKind) (x:α)
 | fld (agg:Bool) (n off:Nat) (x:α)
 | faddr (off:Nat) (x:α)
 | iaddr (sz:Nat) (x i:α)
 | slc (sz:Nat) (x:α) (lo hi:Option α)
 | slc0 (sz:Nat) (x:α)
 | len (str:Bool) (x:α)
 | app (sz bytes:Nat) (x y:α)
 | mx (x:α) (xs:List α)
 | mn (x:α) (xs:List α)
 | ext (x:α) (i:Nat)
 | mkf (f:Fn) (caps:List α)
 | mks (sz bytes:Nat) (z:AV) (n c:α)
 | call (f:α) (args:List α)
 | callv (f:α) (args:List α)
 | callm (f:α) (args:List α)
 | callo (f:α) (args:List α)
 | same (agg:Bool) (n:Nat) (x d:α)
 | slcf (n:Nat) (x:α)
 | appf (sz bytes:Nat) (x y:α)
 | bad
 | loadf (agg:Bool) (n:Nat) (x:α)
 | mkm
 | mset (x k:α)
 | mkv
 | mputv (tk:Bool) (x k v:α)
 | mgetv (tk ok:Bool) (z:AV) (x k:α)
 | clrm (x:α)
 | isnp (neg:Bool) (x:α)
 | sidx (x i:α)
 | sslc (x:α) (lo hi:Option α)
 | isni (neg:Bool) (x:α)
 | mkb (f:Fn) (l:List α)
def AOp.map {α β:Type} (f:α→β):AOp α→AOp β
 | .mov x=>.mov (f x)
 | .pick c a b=>.pick (f c) (f a) (f b)
 | .alloc z=>.alloc z
 | .box sz x=>.box sz (f x)
 | .build z ps=>.build z (ps.map fun p=>(p.1,p.2.1,f p.2.2))
 | .bslice sz xs=>.bslice sz (xs.map f)
 | .load a n x=>.load a n (f x)
 | .store n p x=>.store n (f p) (f x)
 | .nilc x=>.nilc (f x)
 | .bin op x y=>.bin op (f x) (f y)
 | .eqs b n x y=>.eqs b n (f x) (f y)
 | .eqb b x y=>.eqb b (f x) (f y)
 | .un op x=>.un op (f x)
 | .isnil b x=>.isnil b (f x)
 | .conv k x=>.conv k (f x)
 | .fld a n o x=>.fld a n o (f x)
 | .faddr o x=>.faddr o (f x)
 | .iaddr sz x i=>.iaddr sz (f x) (f i)
 | .slc sz x lo hi=>.slc sz (f x) (lo.map f) (hi.map f)
 | .slc0 sz x=>.slc0 sz (f x)
 | .len s x=>.len s (f x)
 | .app s b x y=>.app s b (f x) (f y)
 | .mx x xs=>.mx (f x) (xs.map f)
 | .mn x xs=>.mn (f x) (xs.map f)
 | .ext x i=>.ext (f x) i
 | .mkf g xs=>.mkf g (xs.map f)
 | .mks s b z n c=>.mks s b z (f n) (f c)
 | .call g xs=>.call (f g) (xs.map f)
 | .callv g xs=>.callv (f g) (xs.map f)
 | .callm g xs=>.callm (f g) (xs.map f)
 | .callo g xs=>.callo (f g) (xs.map f)
 | .same a n x d=>.same a n (f x) (f d)
 | .slcf n x=>.slcf n (f x)
 | .bslm sz xs=>.bslm sz (xs.map f)
 | .appf s b x y=>.appf s b (f x) (f y)
 | .clr sz x=>.clr sz (f x)
 | .bad=>.bad
 | .loadf a n x=>.loadf a n (f x)
 | .mkm=>.mkm
 | .mset x k=>.mset (f x) (f k)
 | .mkv=>.mkv
 | .mputv tk x k v=>.mputv tk (f x) (f k) (f v)
 | .mgetv tk ok z x k=>.mgetv tk ok z (f x) (f k)
 | .clrm x=>.clrm (f x)
 | .isnp b x=>.isnp b (f x)
 | .sidx x i=>.sidx (f x) (f i)
 | .sslc x lo hi=>.sslc (f x) (lo.map f) (hi.map f)
 | .isni b x=>.isni b (f x)
 | .mkb g xs=>.mkb g (xs.map f)
structure AOper where
 dst:Option Nat
 op:AOp AOpd
 guard:Option (Nat × Bool)
inductive ACode where
 | skip
 | frz (t:Nat)
 | region (ops:List AOper)
 | draw (ops:List AOper)
 | seq (a b:ACode)
 | cond (c:AOpd) (a b:ACode)
 | block (id:Nat) (c:ACode)
 | loop (c:ACode)
 | exit (id:Nat)
 | ret
def evBin (op:BinOp) (x y:AV):Option AV :=
 match x,y with
 |
  .int k a,.int k' b =>
  match decide (k=k') with
  | false=>none
  |
   true =>
   match op with
   | .add=>some (.int k (k.wrap (a+b)))
   | .sub=>some (.int k (k.wrap (a-b)))
   | .mul=>some (.int k (k.wrap (a * b)))
   | .quo=>match decide (b=0) with | true=>none | false=>some (.int k (k.wrap (a.tdiv b)))
   | .rem=>match decide (b=0) with | true=>none | false=>some (.int k (a.tmod b))
   | .eql=>some (.bool (decide (a=b)))
   | .neq=>some (.bool (decide (a≠b)))
   | .lss=>some (.bool (decide (a<b)))
   | .leq=>some (.bool (decide (a≤b)))
   | .gtr=>some (.bool (decide (b<a)))
   | .geq=>some (.bool (decide (b≤a)))
   | .shr=>match decide (b=1) with | true=>some (.int k (a.fdiv 2)) | false=>none
   | _=>none
 |
  .str a,.str b =>
  match op with
  | .eql=>some (.bool (a.toList == b.toList))
  | .neq=>some (.bool (!(a.toList == b.toList)))
  |
   .add=>match decide (a.size+b.size≤9223372036854775807) with
   | true=>some (.str (a++b))
   | false=>none
  | _=>none
 | _,_=>none
def evUn (op:UnOp) (x:AV):Option AV :=
 match op,x with
 | .neg,.int k n=>some (.int k (k.wrap (0-n)))
 | .not,.bool b=>some (.bool (!b))
 | _,_=>none
def eqInts:List AV→List AV→Option Bool
 | [],[]=>some true
 |
  .int k a::l,.int k' b::r =>
  match decide (k=k') with
  | false=>none
  |
   true=>match eqInts l r with
   | some c=>some (decide (a=b) && c)
   | none=>none
 | _,_=>none
def AmY:List AV→Nat→List AV→List AV
 | l,0,[]=>l
 | [],_,_=>[]
 | _::l,0,c::cs=>c::AmY l 0 cs
 | x::l,n+1,cs=>x::AmY l n cs
def fillA:List AV→List (Nat × Nat × AV)→Option (List AV)
 | z,[]=>some z
 |
  z,(off,sz,v)::rest =>
  match v.okSt && decide (v.cells.length=sz) && decide (off+sz≤z.length) with
  | true=>fillA (AmY z off v.cells) rest
  | false=>none
def cutCells (agg:Bool) (n off:Nat) (l:List AV):Option AV :=
 match agg with
 |
  true=>match decide (off+n≤l.length) with
  | true=>some (.agg ((l.drop off).take n))
  | false=>none
 | false=>(l.drop off).head?
def okElems (sz:Nat):List AV→Bool
 | []=>true
 | v::l=>v.okSt && v.flat && decide (v.cells.length=sz) && okElems sz l
def AV.natOf:AV→Option Nat
 |
  .int _ n=>match decide (0≤n) with
  | true=>some n.toNat
  | false=>none
 | _=>none
def maxA:AV→List AV→Option AV
 | x,[]=>some x
 |
  .int k a,.int k' b::l=>match decide (k=k') with
  | true=>maxA (.int k (max a b)) l
  | false=>none
 | _,_=>none
def minA:AV→List AV→Option AV
 | x,[]=>some x
 |
  .int k a,.int k' b::l=>match decide (k=k') with
  | true=>minA (.int k (min a b)) l
  | false=>none
 | _,_=>none
def AV.isInt:AV→Bool
 | .int ..=>true
 | _=>false
def natO (d:Nat):Option AV→Option Nat
 | some v=>v.natOf
 | none=>some d
def evSlc (sz:Nat) (x:AV) (lo hi:Option AV):Option AV :=
 match x with
 |
  .list s l =>
  match decide (s=sz),natO 0 lo,natO l.length hi with
  |
   true,some a,some b=>match decide (a≤b),decide (b≤l.length) with
   | true,true=>some (.list s ((l.take b).drop a))
   | _,_=>none
  | _,_,_=>none
 |
  .sl s k off n =>
  match decide (s=sz),natO 0 lo,natO n hi with
  |
   true,some a,some b=>match decide (a≤b),decide (b≤n) with
   | true,true=>some (.sl s k (off+a) (b-a))
   | _,_=>none
  | _,_,_=>none
 |
  .nils =>
  match natO 0 lo,natO 0 hi with
  | some 0,some 0=>some .nils
  | _,_=>none
 | _=>none
def evP:AOp AV→Option AV
 | .mov x=>some x
 | .pick c a b=>match c with | .bool true=>some a | .bool false=>some b | _=>none
 | .build z ps=>(fillA z ps).map .agg
 |
  .bslice sz xs=>match okElems sz xs with
  |
   true=>match xs with
   | []=>some .nils
   | _=>some (.list sz xs)
  | false=>none
 | .nilc x=>match x with | .ptr .. | .rptr _ | .fn ..=>some x | _=>none
 | .bin op x y=>evBin op x y
 |
  .eqs neg n x y=>match x,y with
  |
   .agg l,.agg r=>match decide (l.length=n),eqInts l r with
   | true,some b=>some (.bool (xor neg b))
   | _,_=>none
  | _,_=>none
 |
  .eqb neg x y=>match x,y with
  | .bool a,.bool b=>some (.bool (xor neg (a == b)))
  | _,_=>none
 | .un op x=>evUn op x
 | .conv k x=>match x with | .int _ n=>some (.int k (k.wrap n)) | _=>none
 | .fld agg n off x=>match x with | .agg l=>cutCells agg n off l | _=>none
 |
  .faddr off x=>match x with
  |
   .rptr l=>match decide (off≤l.length) with
   | true=>some (.rptr (l.drop off))
   | false=>none
  | .ptr sz k i o=>some (.ptr sz k i (o+off))
  | _=>none
 |
  .iaddr sz x i=>match x,i.natOf with
  |
   .list s l,some n=>match decide (s=sz) with
   |
    true=>match l[n]? with
    | some e=>some (.rptr e.cells)
    | none=>none
   | false=>none
  |
   .sl s k off len,some n=>match decide (s=sz),decide (n<len) with
   | true,true=>some (.ptr s k (off+n) 0)
   | _,_=>none
  | _,_=>none
 | .slc sz x lo hi=>evSlc sz x lo hi
 | .slc0 _ x=>match x with | .list .. | .sl .. | .nils=>some .nils | _=>none
 |
  .len str x=>match str,x with
  | false,.list _ l=>some (.int .i64 l.length)
  | false,.sl _ _ _ n=>some (.int .i64 n)
  | false,.nils=>some (.int .i64 0)
  | true,.str s=>some (.int .i64 s.size)
  | _,_=>none
 | .mx x xs=>match x.isInt with | true=>maxA x xs | false=>none
 | .mn x xs=>match x.isInt with | true=>minA x xs | false=>none
 | .ext x i=>match x with | .tuple l=>l[i]? | _=>none
 | .mkf f caps=>some (.fn f caps)
 |
  .slcf n x=>match x with
  |
   .rptr l=>match decide (l.length=n) && l.all AV.isInt with
   | true=>some (.list 1 l)
   | false=>none
  | _=>none
 |
  .appf sz by_ x y=>match x,y with
  |
   .nils,.list s l=>match decide (s=sz) && BdX l && decide (l.length * by_≤140737488355328) && decide (l.length≤9223372036854775807) with
   | true=>some (.list s l)
   | false=>none
  | .nils,.nils=>some .nils
  | _,_=>none
 |
  .loadf a n x=>match x with
  | .rptr l=>cutCells a n 0 l
  | _=>none
 |
  .isnp b x=>match x with
  | .nilp=>some (.bool (!b))
  | .ptr ..=>some (.bool b)
  | .rptr _=>some (.bool b)
  | _=>none
 |
  .sidx x i=>match x,i.natOf with
  |
   .str s,some n=>match s[n]? with
   | some b=>some (.int .u8 b.toNat)
   | none=>none
  | _,_=>none
 |
  .sslc x lo hi=>match x with
  |
   .str s=>match natO 0 lo,natO s.size hi with
   |
    some a,some b=>match decide (a≤b),decide (b≤s.size) with
    | true,true=>some (.str (s.extract a b))
    | _,_=>none
   | _,_=>none
  | _=>none
 |
  .isni b x=>match x with
  | .ifn=>some (.bool (!b))
  | .ifc=>some (.bool b)
  | _=>none
 | .mkb f l=>some (.fb f l)
 | _=>none
def AeZ:Bx→Nat→Option (Nat × List AV)
 | [],_=>none
 | x::_,0=>x
 | _::l,n+1=>AeZ l n
def ArZ:Bx→Nat→Option (Nat × List AV)→Bx
 | [],_,_=>[]
 | _::l,0,v=>v::l
 | x::l,n+1,v=>x::ArZ l n v
def BhZ (bx:Bx) (agg:Bool) (n:Nat) (x:AV):Option AV :=
 match x with
 | .rptr l=>cutCells agg n 0 l
 |
  .ptr sz k i off=>match AeZ bx k with
  |
   some (s,es)=>match decide (s=sz),es[i]? with
   | true,some e=>cutCells agg n off e.cells
   | _,_=>none
  | none=>none
 | _=>none
def setE (e:AV) (off:Nat) (cs:List AV):AV :=
 match e with
 | .agg l=>.agg (AmY l off cs)
 |
  _=>match cs with
  | [c]=>c
  | _=>e
def isKey (tk:Bool) (k:AV):Bool:=match tk,k with
 | true,.str _=>true
 | false,.int .i64 _=>true
 | _,_=>false
def sameK (tk:Bool) (k k':AV):Option Bool:=match tk,k,k' with
 | true,.str a,.str b=>some (decide (a=b))
 | false,.int .i64 a,.int .i64 b=>some (decide (a=b))
 | _,_,_=>none
def lookD (tk:Bool) (k:AV):List AV→List AV→Option (Option AV)
 |
  a::ks,v::vs=>match sameK tk k a with
  | some true=>some (some v)
  | some false=>lookD tk k ks vs
  | none=>none
 | [],[]=>some none
 | _,_=>none
def putD (tk:Bool) (k v:AV):List AV→List AV→Option (List AV × List AV)
 |
  a::ks,u::vs=>match sameK tk k a with
  | some true=>some (a::ks,v::vs)
  |
   some false=>match putD tk k v ks vs with
   | some r=>some (a::r.1,u::r.2)
   | none=>none
  | none=>none
 | [],[]=>some ([k],[v])
 | _,_=>none
def getR (ok:Bool) (z:AV):Option AV→AV
 |
  some v=>match ok with
  | true=>.tuple [v,.bool true]
  | false=>v
 |
  none=>match ok with
  | true=>.tuple [z,.bool false]
  | false=>z
def evMap (bx:Bx) (tk ok:Bool) (z x k:AV):Option AV:=match x with
 |
  .mp b=>match AeZ bx b with
  |
   some (s,[.dat ks vs])=>match decide (0<s),isKey tk k,lookD tk k ks vs with
   | true,true,some r=>some (getR ok z r)
   | _,_,_=>none
  | _=>none
 | _=>none
def encK:List Nat→Nat
 | []=>0
 | x::l=>2 ^ x * (2 * encK l+1)
theorem encK_pos (x:Nat) (l:List Nat):encK (x::l)≠0:=by
 unfold encK
 have:=Nat.pow_pos (n:=x) (show 0<2 by omega)
 exact Nat.mul_ne_zero (by omega) (by omega)
theorem odd_split:∀ (x y a b:Nat),2 ^ x * (2 * a+1)=2 ^ y * (2 * b+1)→x=y∧a=b
 | 0,0,a,b,h=>by simp at h;exact ⟨rfl,by omega⟩
 |
  0,y+1,a,b,h=>by
  rw [Nat.pow_succ,Nat.mul_comm (2 ^ y) 2,Nat.mul_assoc] at h
  generalize 2 ^ y * (2 * b+1)=t at h
  simp at h;omega
 |
  x+1,0,a,b,h=>by
  rw [Nat.pow_succ,Nat.mul_comm (2 ^ x) 2,Nat.mul_assoc] at h
  generalize 2 ^ x * (2 * a+1)=t at h
  simp at h;omega
 |
  x+1,y+1,a,b,h=>by
  have hx:2 ^ (x+1) * (2 * a+1)=2 * (2 ^ x * (2 * a+1)):=by rw [Nat.pow_succ,Nat.mul_comm (2 ^ x) 2,Nat.mul_assoc]
  have hy:2 ^ (y+1) * (2 * b+1)=2 * (2 ^ y * (2 * b+1)):=by rw [Nat.pow_succ,Nat.mul_comm (2 ^ y) 2,Nat.mul_assoc]
  rw [hx,hy] at h
  obtain ⟨h1,h2⟩:=odd_split x y a b (Nat.eq_of_mul_eq_mul_left (show 0<2 by omega) h)
  exact ⟨by omega,h2⟩
theorem encK_inj:∀ {l m:List Nat},encK l=encK m→l=m
 | [],[],_=>rfl
 | [],y::m,h=>absurd h.symm (encK_pos y m)
 | x::l,[],h=>absurd h (encK_pos x l)
 |
  x::l,y::m,h=>by
  obtain ⟨h1,h2⟩:=odd_split x y _ _ h
  rw [h1,encK_inj h2]
def insS (x:Nat):List Nat→List Nat
 | []=>[x]
 | y::l=>if x<y then x::y::l else if x=y then y::l else y::insS x l
open Classical in
noncomputable def insK (x s:Nat):Nat:=if h:∃ ks,s=encK ks+1 then encK (insS x (Classical.choose h))+1 else s
theorem insK_enc (x:Nat) (ks:List Nat):insK x (encK ks+1)=encK (insS x ks)+1:=by
 unfold insK
 have h:∃ k,encK ks+1=encK k+1:=⟨ks,rfl⟩
 rw [dif_pos h]
 have:=Classical.choose_spec h
 have:ks=Classical.choose h:=encK_inj (by omega)
 rw [← this]
noncomputable def evW (bx:Bx):AOp AV→Option (AV × Bx)
 | .alloc z=>some (.ptr z.cells.length bx.length 0 0,bx++[some (z.cells.length,[z])])
 |
  .box sz x=>match x.okSt && decide (x.cells.length=sz) with
  | true=>some (.ptr sz bx.length 0 0,bx++[some (sz,[x])])
  | false=>none
 |
  .store n p x=>match p,x.okSt && decide (x.cells.length=n) with
  |
   .ptr sz k i off,true=>match AeZ bx k with
   |
    some (s,es)=>match decide (s=sz),es[i]? with
    |
     true,some e=>match decide (off+n≤e.cells.length) with
     | true=>some (.tuple [],ArZ bx k (some (s,es.set i (setE e off x.cells))))
     | false=>none
    | _,_=>none
   | none=>none
  | _,_=>none
 |
  .bslm sz xs=>match xs.all (fun v=>v.okSt && decide (v.cells.length=sz)) with
  | true=>some (.sl sz bx.length 0 xs.length,bx++[some (sz,xs)])
  | false=>none
 |
  .clr sz x=>match x with
  |
   .sl s k off n=>match decide (s=sz),AeZ bx k with
   |
    true,some (s',es)=>match decide (s'=sz) with
    | true=>some (.tuple [],ArZ bx k (some (s',es.take off)))
    | false=>none
   | _,_=>none
  | .nils=>some (.tuple [],bx)
  | _=>none
 | .mkm=>some (.mp bx.length,bx++[some (1,[.agg []])])
 |
  .mset x k=>match x,k with
  |
   .mp b,.int .i64 n=>match decide (0≤n),AeZ bx b with
   |
    true,some (s,[.agg []])=>(match decide (0<s) with
    | true=>some (.tuple [],ArZ bx b (some (insK n.toNat s,[.agg []])))
    | false=>none)
   | _,_=>none
  | _,_=>none
 | .mkv=>some (.mp bx.length,bx++[some (1,[.dat [] []])])
 |
  .mputv tk x k v=>match x with
  |
   .mp b=>match AeZ bx b with
   |
    some (s,[.dat ks vs])=>(match decide (0<s),v.flat,isKey tk k,putD tk k v ks vs with
    | true,true,true,some (ks',vs')=>some (.tuple [],ArZ bx b (some (s,[.dat ks' vs'])))
    | _,_,_,_=>none)
   | _=>none
  | _=>none
 |
  .clrm x=>match x with
  |
   .mp b=>match AeZ bx b with
   |
    some (s,[.agg []])=>(match decide (0<s) with
    | true=>some (.tuple [],ArZ bx b (some (1,[.agg []])))
    | false=>none)
   | _=>none
  | _=>none
 | _=>none
end Go.Proofs.YtcmphhedaefcgaaGreatDoor.Av
namespace Go.Proofs.YtcmphhedaefcgaaGreatDoor.Av
abbrev Fz:=Nat→Option Obj
abbrev Pl:=List (Option (Nat × Nat))
inductive RepF (fz:Fz):AV→Value→Prop
 | any (v:Value):RepF fz .any v
 | int (k:IntKind) (n:Int):RepF fz (.int k n) (.int k n)
 | bool (b:Bool):RepF fz (.bool b) (.bool b)
 | str (s:ByteArray):RepF fz (.str s) (.string s)
 | nils (ao:Option Addr):RepF fz .nils (.slice ao 0 0)
 | nilp:RepF fz .nilp (.pointer none)
 | nilf:RepF fz .nilf .nilFunc
 | fn (f:Fn) (l:List AV) (cs:Array Value) (hl:l.length=cs.size) (h:∀ (i:Nat) v c,l[i]? = some v→cs[i]? = some c→RepF fz v c):RepF fz (.fn f l) (.func f #[] cs)
 | agg (l:List AV) (cs:Array Value) (hl:l.length=cs.size) (h1:∀ (i:Nat) c,cs[i]? = some c→c.oneCell'=true) (h:∀ (i:Nat) v c,l[i]? = some v→cs[i]? = some c→RepF fz v c):RepF fz (.agg l) (.agg cs)
 | tuple (l:List AV) (cs:Array Value) (hl:l.length=cs.size) (h:∀ (i:Nat) v c,l[i]? = some v→cs[i]? = some c→RepF fz v c):RepF fz (.tuple l) (.tuple cs)
 | list (sz:Nat) (l:List AV) (b off:Nat) (arr:Array Value) (e:TypeId) (fr:Nat × Nat) (n cap:Nat) (hb:fz b=some (.cells arr e fr)) (hn:n=l.length) (hc:n≤cap)
  (hs:∀ x∈l,x.cells.length=sz) (hlen:off+(l.flatMap AV.cells).length≤arr.size)
  (h1:∀ (i:Nat) v c,(l.flatMap AV.cells)[i]? = some v→arr[off+i]? = some c→c.oneCell'=true)
  (h:∀ (i:Nat) v c,(l.flatMap AV.cells)[i]? = some v→arr[off+i]? = some c→RepF fz v c):RepF fz (.list sz l) (.slice (some ⟨b,off,none⟩) n cap)
 | list0 (sz:Nat) (ao:Option Addr) (cap:Nat):RepF fz (.list sz []) (.slice ao 0 cap)
 | rptr (l:List AV) (b off:Nat) (arr:Array Value) (e:TypeId) (fr:Nat × Nat) (hb:fz b=some (.cells arr e fr)) (hlen:off+l.length≤arr.size)
  (h1:∀ (i:Nat) v c,l[i]? = some v→arr[off+i]? = some c→c.oneCell'=true)
  (h:∀ (i:Nat) v c,l[i]? = some v→arr[off+i]? = some c→RepF fz v c):RepF fz (.rptr l) (.pointer (some ⟨b,off,none⟩))
 | nilm:RepF fz .nilm (.map none)
 | ifn:RepF fz .ifn .nilIface
 | ifc (t:TypeId) (v:Value):RepF fz .ifc (.iface t v)
 | fb (f:Fn) (l:List AV) (cs:Array Value) (hl:l.length=cs.size) (h:∀ (i:Nat) v c,l[i]? = some v→cs[i]? = some c→RepF fz v c):RepF fz (.fb f l) (.func f cs #[])
def FzLe (fz fz':Fz):Prop:=∀ b o,fz b=some o→fz' b=some o
theorem FzLe.refl (fz:Fz):FzLe fz fz:=fun _ _ h=>h
theorem FzLe.trans {a b c:Fz} (h:FzLe a b) (k:FzLe b c):FzLe a c:=fun x o e=>k x o (h x o e)
theorem RepF.mono {fz fz':Fz} (hf:FzLe fz fz') {v:AV} {c:Value} (h:RepF fz v c):RepF fz' v c:=by
 induction h with
 | any v=>exact .any v
 | int k n=>exact .int k n
 | bool b=>exact .bool b
 | str s=>exact .str s
 | nils ao=>exact .nils ao
 | nilp=>exact .nilp
 | nilf=>exact .nilf
 | fn f l cs hl h ih=>exact .fn f l cs hl ih
 | agg l cs hl h1 h ih=>exact .agg l cs hl h1 ih
 | tuple l cs hl h ih=>exact .tuple l cs hl ih
 | list sz l b off arr e fr n cap hb hn hc hs hlen h1 h ih=>exact .list sz l b off arr e fr n cap (hf _ _ hb) hn hc hs hlen h1 ih
 | list0 sz ao cap=>exact .list0 sz ao cap
 | rptr l b off arr e fr hb hlen h1 h ih=>exact .rptr l b off arr e fr (hf _ _ hb) hlen h1 ih
 | nilm=>exact .nilm
 | ifn=>exact .ifn
 | ifc t v=>exact .ifc t v
 | fb f l cs hl h ih=>exact .fb f l cs hl ih
inductive Rep (fz:Fz) (pl:Pl):AV→Value→Prop
 | frz {v:AV} {c:Value} (h:RepF fz v c):Rep fz pl v c
 | fn (f:Fn) (l:List AV) (cs:Array Value) (hl:l.length=cs.size) (h:∀ (i:Nat) v c,l[i]? = some v→cs[i]? = some c→Rep fz pl v c):Rep fz pl (.fn f l) (.func f #[] cs)
 | fb (f:Fn) (l:List AV) (cs:Array Value) (hl:l.length=cs.size) (h:∀ (i:Nat) v c,l[i]? = some v→cs[i]? = some c→Rep fz pl v c):Rep fz pl (.fb f l) (.func f cs #[])
 | agg (l:List AV) (cs:Array Value) (hl:l.length=cs.size) (h1:∀ (i:Nat) c,cs[i]? = some c→c.oneCell'=true) (h:∀ (i:Nat) v c,l[i]? = some v→cs[i]? = some c→Rep fz pl v c):Rep fz pl (.agg l) (.agg cs)
 | tuple (l:List AV) (cs:Array Value) (hl:l.length=cs.size) (h:∀ (i:Nat) v c,l[i]? = some v→cs[i]? = some c→Rep fz pl v c):Rep fz pl (.tuple l) (.tuple cs)
 | ptr (sz k i off b n:Nat) (hp:pl[k]? = some (some (b,n))):Rep fz pl (.ptr sz k i off) (.pointer (some ⟨b,i * sz+off,none⟩))
 | sl (sz k off len b n cap:Nat) (hp:pl[k]? = some (some (b,n))) (hc:len≤cap) (hn:off * sz+cap * sz≤n):Rep fz pl (.sl sz k off len) (.slice (some ⟨b,off * sz,none⟩) len cap)
 | sl0 (sz k off:Nat) (ao:Option Addr):Rep fz pl (.sl sz k off 0) (.slice ao 0 0)
 | mp (k b n:Nat) (hp:pl[k]? = some (some (b,n))):Rep fz pl (.mp k) (.map (some b))
theorem Rep.mono {fz fz':Fz} {pl pl':Pl} (hf:FzLe fz fz') (hp:pl <+: pl') {v:AV} {c:Value} (h:Rep fz pl v c):Rep fz' pl' v c:=by
 have hget:∀ (k:Nat) x,pl[k]? = some x→pl'[k]? = some x:=by
  intro k x hk
  obtain ⟨t,rfl⟩:=hp
  rw [List.getElem?_append_left (List.getElem?_eq_some_iff.1 hk).1]
  exact hk
 induction h with
 | frz h=>exact .frz (h.mono hf)
 | fn f l cs hl h ih=>exact .fn f l cs hl ih
 | fb f l cs hl h ih=>exact .fb f l cs hl ih
 | agg l cs hl h1 h ih=>exact .agg l cs hl h1 ih
 | tuple l cs hl h ih=>exact .tuple l cs hl ih
 | ptr sz k i off b n hp=>exact .ptr sz k i off b n (hget _ _ hp)
 | sl sz k off len b n cap hp hc hn=>exact .sl sz k off len b n cap (hget _ _ hp) hc hn
 | sl0 sz k off ao=>exact .sl0 sz k off ao
 | mp k b n hp=>exact .mp k b n (hget _ _ hp)
section
variable {fz:Fz} {pl:Pl}
theorem Rep.inv_int {k:IntKind} {n:Int} {c:Value} (h:Rep fz pl (.int k n) c):c=.int k n:=by
 cases h with | frz h=>cases h;rfl
theorem Rep.inv_bool {b:Bool} {c:Value} (h:Rep fz pl (.bool b) c):c=.bool b:=by
 cases h with | frz h=>cases h;rfl
theorem Rep.inv_str {s:ByteArray} {c:Value} (h:Rep fz pl (.str s) c):c=.string s:=by
 cases h with | frz h=>cases h;rfl
theorem Rep.inv_agg {l:List AV} {c:Value} (h:Rep fz pl (.agg l) c):∃ cs,c=.agg cs∧l.length=cs.size∧(∀ (i:Nat) x,cs[i]? = some x→x.oneCell'=true)∧(∀ (i:Nat) v x,l[i]? = some v→cs[i]? = some x→Rep fz pl v x):=by
 cases h with
 | frz h=>cases h with | agg l cs hl h1 h=>exact ⟨cs,rfl,hl,h1,fun i v x a b=>.frz (h i v x a b)⟩
 | agg l cs hl h1 h=>exact ⟨cs,rfl,hl,h1,h⟩
theorem Rep.inv_tuple {l:List AV} {c:Value} (h:Rep fz pl (.tuple l) c):∃ cs,c=.tuple cs∧l.length=cs.size∧(∀ (i:Nat) v x,l[i]? = some v→cs[i]? = some x→Rep fz pl v x):=by
 cases h with
 | frz h=>cases h with | tuple l cs hl h=>exact ⟨cs,rfl,hl,fun i v x a b=>.frz (h i v x a b)⟩
 | tuple l cs hl h=>exact ⟨cs,rfl,hl,h⟩
theorem Rep.inv_fn {f:Fn} {l:List AV} {c:Value} (h:Rep fz pl (.fn f l) c):∃ cs,c=.func f #[] cs∧l.length=cs.size∧(∀ (i:Nat) v x,l[i]? = some v→cs[i]? = some x→Rep fz pl v x):=by
 cases h with
 | frz h=>cases h with | fn f l cs hl h=>exact ⟨cs,rfl,hl,fun i v x a b=>.frz (h i v x a b)⟩
 | fn f l cs hl h=>exact ⟨cs,rfl,hl,h⟩
theorem Rep.inv_fb {f:Fn} {l:List AV} {c:Value} (h:Rep fz pl (.fb f l) c):∃ cs,c=.func f cs #[]∧l.length=cs.size∧(∀ (i:Nat) v x,l[i]? = some v→cs[i]? = some x→Rep fz pl v x):=by
 cases h with
 | frz h=>cases h with | fb f l cs hl h=>exact ⟨cs,rfl,hl,fun i v x a b=>.frz (h i v x a b)⟩
 | fb f l cs hl h=>exact ⟨cs,rfl,hl,h⟩
theorem Rep.inv_ifn {c:Value} (h:Rep fz pl .ifn c):c=.nilIface:=by
 cases h with | frz h=>cases h;rfl
theorem Rep.inv_ifc {c:Value} (h:Rep fz pl .ifc c):∃ t v,c=.iface t v:=by
 cases h with | frz h=>cases h with | ifc t v=>exact ⟨t,v,rfl⟩
theorem Rep.inv_ptr {sz k i off:Nat} {c:Value} (h:Rep fz pl (.ptr sz k i off) c):∃ b n,c=.pointer (some ⟨b,i * sz+off,none⟩)∧pl[k]? = some (some (b,n)):=by
 cases h with
 | frz h=>cases h
 | ptr _ _ _ _ b n hp=>exact ⟨b,n,rfl,hp⟩
theorem Rep.inv_sl {sz k off len:Nat} {c:Value} (h:Rep fz pl (.sl sz k off len) c) :
 (∃ b n cap,c=.slice (some ⟨b,off * sz,none⟩) len cap∧pl[k]? = some (some (b,n))∧len≤cap∧off * sz+cap * sz≤n)∨(∃ ao,c=.slice ao 0 0∧len=0):=by
 cases h with
 | frz h=>cases h
 | sl _ _ _ _ b n cap hp hc hn=>exact .inl ⟨b,n,cap,rfl,hp,hc,hn⟩
 | sl0 _ _ _ ao=>exact .inr ⟨ao,rfl,rfl⟩
theorem Rep.inv_mp {k:Nat} {c:Value} (h:Rep fz pl (.mp k) c):∃ b n,c=.map (some b)∧pl[k]? = some (some (b,n)):=by
 cases h with
 | frz h=>cases h
 | mp _ b n hp=>exact ⟨b,n,rfl,hp⟩
theorem Rep.inv_nils {c:Value} (h:Rep fz pl .nils c):∃ ao,c=.slice ao 0 0:=by
 cases h with | frz h=>cases h with | nils ao=>exact ⟨ao,rfl⟩
theorem Rep.inv_frz {v:AV} {c:Value} (hv:∃ sz l,v=.list sz l∨v=.rptr l) (h:Rep fz pl v c):RepF fz v c:=by
 cases h with
 | frz h=>exact h
 | _=>obtain ⟨_,_,h | h⟩:=hv <;> cases h
theorem Rep.inv_list {sz:Nat} {l:List AV} {c:Value} (h:Rep fz pl (.list sz l) c):RepF fz (.list sz l) c:=h.inv_frz ⟨sz,l,.inl rfl⟩
theorem Rep.inv_rptr {l:List AV} {c:Value} (h:Rep fz pl (.rptr l) c):RepF fz (.rptr l) c:=h.inv_frz ⟨0,l,.inr rfl⟩
theorem RepF.list_len {sz:Nat} {l:List AV} {c:Value} (h:RepF fz (.list sz l) c):∃ ao cap,c=.slice ao l.length cap:=by
 cases h with
 | list _ _ b off arr e fr n cap hb hn hc hs hlen h1 h=>exact ⟨_,cap,by rw [hn]⟩
 | list0 _ ao cap=>exact ⟨ao,cap,rfl⟩
end
theorem AeX {sz:Nat}:∀ {l:List AV},(∀ x∈l,x.cells.length=sz)→(l.flatMap AV.cells).length=l.length * sz
 | [],_=>by simp
 |
  x::l,h=>by
  rw [List.flatMap_cons,List.length_append,AeX (fun y hy=>h y (List.mem_cons_of_mem _ hy)),h x (List.mem_cons_self ..),List.length_cons,Nat.succ_mul];omega
theorem flat_get {sz:Nat}:∀ {l:List AV},(∀ x∈l,x.cells.length=sz)→∀ {j t:Nat} {e v:AV},l[j]? = some e→e.cells[t]? = some v→(l.flatMap AV.cells)[j * sz+t]? = some v
 | [],_,j,t,e,v,h,_=>by simp at h
 |
  x::l,h,0,t,e,v,hj,ht=>by
  simp at hj;subst hj
  rw [List.flatMap_cons,Nat.zero_mul,Nat.zero_add,List.getElem?_append_left (List.getElem?_eq_some_iff.1 ht).1];exact ht
 |
  x::l,h,j+1,t,e,v,hj,ht=>by
  have hx:=h x (List.mem_cons_self ..)
  rw [List.flatMap_cons,List.getElem?_append_right (by rw [hx,Nat.succ_mul];omega),hx]
  have:(j+1) * sz+t-sz=j * sz+t:=by rw [Nat.succ_mul];omega
  rw [this]
  exact flat_get (fun y hy=>h y (List.mem_cons_of_mem _ hy)) (by simpa using hj) ht
theorem BcQ {sz:Nat} {l:List AV} (h:∀ x∈l,x.cells.length=sz) {i:Nat} {v:AV} (hi:(l.flatMap AV.cells)[i]? = some v) (hz:0<sz) :
 ∃ e,l[i / sz]? = some e∧e.cells[i % sz]? = some v:=by
 have hlt:i<l.length * sz:=by rw [← AeX h];exact (List.getElem?_eq_some_iff.1 hi).1
 have hd:i / sz<l.length:=Nat.div_lt_of_lt_mul (by rw [Nat.mul_comm];exact hlt)
 have he:l[i / sz]? = some l[i / sz]:=List.getElem?_eq_getElem hd
 have hm:i % sz<l[i / sz].cells.length:=by rw [h _ (List.getElem_mem hd)];exact Nat.mod_lt _ hz
 have hv:l[i / sz].cells[i % sz]? = some l[i / sz].cells[i % sz]:=List.getElem?_eq_getElem hm
 have:=flat_get h he hv
 rw [Nat.mul_comm,Nat.div_add_mod] at this
 rw [this] at hi
 injection hi with hi
 exact ⟨_,he,by rw [hv,hi]⟩
def MapKeys (es:Array MapEntry) (clock:Nat) (ks:List Nat):Prop :=
 (∃ xs:List Nat,es.toList.map (·.key)=xs.map (fun x=>Value.int .i64 (Int.ofNat x))∧xs.Perm ks)∧ks.Pairwise (·<·)∧(es.toList.map (·.born)).Nodup∧∀ e∈es.toList,e.born<clock
def MapOf (sz:Nat) (o:Obj):Prop:=∃ es clock ks,o=.map es clock∧sz=encK ks+1∧MapKeys es clock ks
structure BoxAt (pr fz:Fz) (pl:Pl) (w:World) (k sz:Nat) (es:List AV) (b n:Nat) (arr:Array Value) (e:TypeId):Prop where
 plc:pl[k]? = some (some (b,n))
 nfz:fz b=none
 npr:pr b=none
 heap:w.heap[b]? = some (.cells arr e (0,0))
 size:arr.size=n
 elem:∀ x∈es,x.cells.length=sz
 fits:(es.flatMap AV.cells).length≤n
 one:∀ (i:Nat) v c,(es.flatMap AV.cells)[i]? = some v→arr[i]? = some c→c.oneCell'=true
 rep:∀ (i:Nat) v c,(es.flatMap AV.cells)[i]? = some v→arr[i]? = some c→Rep fz pl v c
def keyOf:AV→Option Value
 | .str s=>some (.string s)
 | .int k n=>some (.int k n)
 | _=>none
def MapD (fz:Fz) (ks vs:List AV) (o:Obj):Prop:=∃ es clock,o=.map es clock∧ks.length=es.size∧vs.length=es.size∧(∀ (i:Nat) e,es[i]? = some e→∃ k v,ks[i]? = some k∧vs[i]? = some v∧keyOf k=some e.key∧RepF fz v e.val)
theorem MapD.mono {fz fz':Fz} (hf:FzLe fz fz') {ks vs:List AV} {o:Obj} (h:MapD fz ks vs o):MapD fz' ks vs o:=by
 obtain ⟨es,clock,h1,h2,h3,h4⟩:=h
 refine ⟨es,clock,h1,h2,h3,fun i e he=>?_⟩
 obtain ⟨k,v,a,b,c,d⟩:=h4 i e he
 exact ⟨k,v,a,b,c,d.mono hf⟩
def BoxC (fz:Fz) (sz:Nat) (es:List AV) (o:Obj):Prop:=(MapOf sz o∧(es=[]∨es=[.agg []]))∨∃ ks vs,(es=[]∨es=[.dat ks vs])∧MapD fz ks vs o
theorem BoxC.mono {fz fz':Fz} (hf:FzLe fz fz') {sz:Nat} {es:List AV} {o:Obj} (h:BoxC fz sz es o):BoxC fz' sz es o:=by
 rcases h with h | ⟨ks,vs,h1,h2⟩
 · exact .inl h
 · exact .inr ⟨ks,vs,h1,h2.mono hf⟩
theorem BoxC.nil {fz:Fz} {sz:Nat} {es:List AV} {o:Obj} (h:BoxC fz sz es o):es=[]∨es=[.agg []]∨∃ ks vs,es=[.dat ks vs]:=by
 rcases h with ⟨_,h | h⟩ | ⟨ks,vs,h | h,_⟩
 · exact .inl h
 · exact .inr (.inl h)
 · exact .inl h
 · exact .inr (.inr ⟨_,_,h⟩)
theorem BoxC.empty {fz:Fz} {sz:Nat} {es:List AV} {o:Obj} (h:BoxC fz sz es o):BoxC fz sz [] o:=by
 rcases h with ⟨h,_⟩ | ⟨ks,vs,_,h⟩
 · exact .inl ⟨h,.inl rfl⟩
 · exact .inr ⟨ks,vs,.inl rfl,h⟩
theorem BoxC.agg {fz:Fz} {sz:Nat} {o:Obj} (h:BoxC fz sz [.agg []] o):MapOf sz o:=by
 rcases h with ⟨h,_⟩ | ⟨ks,vs,h | h,_⟩
 · exact h
 · cases h
 · injection h with h;cases h
theorem BoxC.dat {fz:Fz} {sz:Nat} {ks vs:List AV} {o:Obj} (h:BoxC fz sz [.dat ks vs] o):MapD fz ks vs o:=by
 rcases h with ⟨_,h | h⟩ | ⟨ks',vs',h | h,h2⟩
 · cases h
 · injection h with h;cases h
 · cases h
 · injection h with h _;injection h with e1 e2;subst e1;subst e2;exact h2
structure BoxM (pr fz:Fz) (pl:Pl) (w:World) (k sz:Nat) (es:List AV) (b:Nat) (o:Obj):Prop where
 plc:pl[k]? = some (some (b,0))
 nfz:fz b=none
 npr:pr b=none
 heap:w.heap[b]? = some o
 pos:0<sz
 cont:BoxC fz sz es o
def LayOf (P:Program) (fz:Fz):Prop :=
 (∀ g, P.globalNamed "internal/strconv.uint64pow10" = some g → ∃ e fr, fz g = some (.cells ((List.range 20).map fun i => Value.int .u64 ((10 ^ i : Nat) : Int)).toArray e fr)) ∧
 (∀ g, P.globalNamed "strconv.ErrSyntax" = some g → ∃ tp p e fr, fz g = some (.cells #[.iface tp p] e fr)) ∧
 (∀ g, P.globalNamed "strconv.ErrRange" = some g → ∃ tp p e fr, fz g = some (.cells #[.iface tp p] e fr))
theorem LayOf.mono {P:Program} {fz fz':Fz} (hf:FzLe fz fz') (h:LayOf P fz):LayOf P fz':=by
 obtain ⟨h1,h2,h3⟩:=h
 refine ⟨fun g hg=>?_,fun g hg=>?_,fun g hg=>?_⟩
 · obtain ⟨e,fr,k⟩:=h1 g hg;exact ⟨e,fr,hf _ _ k⟩
 · obtain ⟨tp,p,e,fr,k⟩:=h2 g hg;exact ⟨tp,p,e,fr,hf _ _ k⟩
 · obtain ⟨tp,p,e,fr,k⟩:=h3 g hg;exact ⟨tp,p,e,fr,hf _ _ k⟩
def LayF (fz:Fz):Prop:=LayOf Tryz.prog fz
theorem LayF.mono {fz fz':Fz} (hf:FzLe fz fz') (h:LayF fz):LayF fz':=LayOf.mono hf h
structure Sim (w0:World) (pr fz:Fz) (pl:Pl) (bx:Bx) (w:World):Prop where
 lay:LayF fz
 os:w.os=w0.os
 tape:w.tape=w0.tape
 output:w.output=w0.output
 size:w0.heap.size≤w.heap.size
 frz:∀ b o,fz b=some o→w.heap[b]? = some o
 prt:∀ b o,pr b=some o→w.heap[b]? = some o
 dis:∀ b o,fz b=some o→pr b=none
 len:pl.length=bx.length
 box:∀ k sz es,AeZ bx k=some (sz,es)→((pl[k]? = some none∧es=[])∨∃ b o,BoxM pr fz pl w k sz es b o)∨∃ b n arr e,BoxAt pr fz pl w k sz es b n arr e
 inj:∀ k k' x y b n n',AeZ bx k=some x→AeZ bx k'=some y→pl[k]? = some (some (b,n))→pl[k']? = some (some (b,n'))→k=k'
theorem AoY:∀ {bx:Bx} {k:Nat} {x:Nat × List AV},AeZ bx k=some x→k<bx.length
 | _::_,0,_,_=>by simp
 | _::l,k+1,x,h=>by have:=AoY (bx:=l) h;simp;omega
theorem BrY:∀ (bx:Bx) (k:Nat),AeZ bx k=(bx[k]?).getD none
 | [],_=>by simp [AeZ]
 | x::_,0=>by simp [AeZ]
 | _::l,k+1=>by simp [AeZ,BrY l k]
theorem bxSet_eq:∀ (bx:Bx) (k:Nat) (v:Option (Nat × List AV)),ArZ bx k v=bx.set k v
 | [],_,_=>by simp [ArZ]
 | x::_,0,_=>by simp [ArZ]
 | _::l,k+1,v=>by simp [ArZ,bxSet_eq l k v]
theorem AjX {bx:Bx} {k:Nat} (h:k<bx.length) (r:Bx):AeZ (bx++r) k=AeZ bx k:=by
 rw [BrY,BrY,List.getElem?_append_left h]
theorem BrZ (bx:Bx) (x:Option (Nat × List AV)):AeZ (bx++[x]) bx.length=x:=by
 rw [BrY,List.getElem?_append_right (Nat.le_refl _)];simp
theorem AjZ {bx:Bx} {k:Nat} {v:Option (Nat × List AV)} (h:k<bx.length):AeZ (ArZ bx k v) k=v:=by
 rw [BrY,bxSet_eq,List.getElem?_set_self h];rfl
theorem AiX {bx:Bx} {k j:Nat} {v:Option (Nat × List AV)} (h:k≠j):AeZ (ArZ bx k v) j=AeZ bx j:=by
 rw [BrY,BrY,bxSet_eq,List.getElem?_set_ne h]
theorem AmQ (bx:Bx) (k:Nat) (v:Option (Nat × List AV)):(ArZ bx k v).length=bx.length:=by rw [bxSet_eq];simp
theorem BoxM.nil {pr fz:Fz} {pl:Pl} {w:World} {k sz:Nat} {es:List AV} {b:Nat} {o:Obj} (M:BoxM pr fz pl w k sz es b o):es=[]∨es=[.agg []]∨∃ ks vs,es=[.dat ks vs]:=M.cont.nil
theorem BoxM.none_at {pr fz:Fz} {pl:Pl} {w:World} {k sz i:Nat} {es:List AV} {b:Nat} {o:Obj} {e:AV} (M:BoxM pr fz pl w k sz es b o) (h:es[i]? = some e):e.cells=[]∧es=[e]∧i=0∧(∀ off,setE e off []=e):=by
 rcases M.nil with h1 | h1 | ⟨ks,vs,h1⟩
 · rw [h1] at h;simp at h
 · rw [h1] at h
   cases i with
   | zero=>simp at h;subst h;exact ⟨rfl,h1,rfl,fun off=>by cases off <;> rfl⟩
   | succ i=>simp at h
 · rw [h1] at h
   cases i with
   | zero=>simp at h;subst h;exact ⟨rfl,h1,rfl,fun off=>rfl⟩
   | succ i=>simp at h
theorem BoxM.unique {pr fz:Fz} {pl:Pl} {w:World} {k sz:Nat} {es:List AV} {b b' n':Nat} {o:Obj} (M:BoxM pr fz pl w k sz es b o) (h:pl[k]? = some (some (b',n'))):b'=b∧n'=0:=by
 have:=M.plc;rw [h] at this;injection this with this;injection this with this;injection this with a c;exact ⟨a,c⟩
theorem BoxM.cap0 {pr fz:Fz} {pl:Pl} {w:World} {k sz:Nat} {es:List AV} {b b' n' off cap:Nat} {o:Obj} (M:BoxM pr fz pl w k sz es b o) (h:pl[k]? = some (some (b',n'))) (hn:off * sz+cap * sz≤n'):cap=0:=by
 obtain ⟨_,rfl⟩:=M.unique h
 have:=M.pos
 rcases Nat.eq_zero_or_pos cap with h | h
 · exact h
 · have:=Nat.mul_pos h M.pos;omega
theorem Sim.below {w0:World} {pr fz:Fz} {pl:Pl} {bx:Bx} {w w':World} (h:Sim w0 pr fz pl bx w) (hb:RowKit.Below w.heap.size w w'):Sim w0 pr fz pl bx w':=by
 have old:∀ b o,w.heap[b]? = some o→w'.heap[b]? = some o:=fun b o e=>by
  rw [hb.block b (Array.getElem?_eq_some_iff.1 e).1];exact e
 refine ⟨h.lay,hb.os.trans h.os,hb.tape.trans h.tape,hb.output.trans h.output,Nat.le_trans h.size hb.size,fun b o e=>old _ _ (h.frz b o e),fun b o e=>old _ _ (h.prt b o e),h.dis,h.len,?_,h.inj⟩
 intro k sz es hk
 rcases h.box k sz es hk with (h1 | ⟨b,o,M⟩) | ⟨b,n,arr,e,B⟩
 · exact .inl (.inl h1)
 · exact .inl (.inr ⟨b,o,{ M with heap:=old _ _ M.heap }⟩)
 · exact .inr ⟨b,n,arr,e,{ B with heap:=old _ _ B.heap }⟩
theorem Sim.alloc_frozen {w0:World} {pr fz:Fz} {pl:Pl} {bx:Bx} {w:World} (h:Sim w0 pr fz pl bx w) (o:Obj) :
 Sim w0 pr (fun b=>if b=w.heap.size then some o else fz b) pl bx (w.alloc o)∧FzLe fz (fun b=>if b=w.heap.size then some o else fz b):=by
 have lt:∀ b x,w.heap[b]? = some x→b<w.heap.size:=fun b x e=>(Array.getElem?_eq_some_iff.1 e).1
 have old:∀ b x,w.heap[b]? = some x→(w.alloc o).heap[b]? = some x:=fun b x e=>by rw [heap_alloc_old w o b (lt b x e)];exact e
 have le:FzLe fz (fun b=>if b=w.heap.size then some o else fz b):=fun b x e=>by
  have:=lt b x (h.frz b x e)
  simp only;rw [if_neg (by omega)];exact e
 refine ⟨⟨h.lay.mono le,h.os,h.tape,h.output,Nat.le_trans h.size (by simp),?_,fun b x e=>old _ _ (h.prt b x e),?_,h.len,?_,h.inj⟩,le⟩
 · intro b x e
   split at e
   · rename_i hb;subst hb;injection e with e;subst e;exact heap_alloc_new w _
   · exact old _ _ (h.frz b x e)
 · intro b x e
   split at e
   · rename_i hb;subst hb
     cases hp:pr w.heap.size with
     | none=>rfl
     | some y=>have:=lt _ _ (h.prt _ _ hp);omega
   · exact h.dis b x e
 · intro k sz es hk
   rcases h.box k sz es hk with (h1 | ⟨b,o,M⟩) | ⟨b,n,arr,e,B⟩
   · exact .inl (.inl h1)
   · have hlt:=lt _ _ M.heap
     exact .inl (.inr ⟨b,o,{ M with heap:=old _ _ M.heap,nfz:=by rw [if_neg (by omega)];exact M.nfz,cont:=M.cont.mono le }⟩)
   · have hlt:=lt _ _ B.heap
     exact .inr ⟨b,n,arr,e,{ B with heap:=old _ _ B.heap,nfz:=by rw [if_neg (by omega)];exact B.nfz,rep:=fun i v c a d=>(B.rep i v c a d).mono le (List.prefix_refl _) }⟩
theorem Sim.alloc_box {w0:World} {pr fz:Fz} {pl:Pl} {bx:Bx} {w:World} (h:Sim w0 pr fz pl bx w) (sz:Nat) (es:List AV) (arr:Array Value) (e:TypeId)
 (he:∀ x∈es,x.cells.length=sz) (hf:(es.flatMap AV.cells).length≤arr.size)
 (h1:∀ (i:Nat) v c,(es.flatMap AV.cells)[i]? = some v→arr[i]? = some c→c.oneCell'=true)
 (hr:∀ (i:Nat) v c,(es.flatMap AV.cells)[i]? = some v→arr[i]? = some c→Rep fz pl v c) :
 Sim w0 pr fz (pl++[some (w.heap.size,arr.size)]) (bx++[some (sz,es)]) (w.alloc (.cells arr e)):=by
 have lt:∀ b x,w.heap[b]? = some x→b<w.heap.size:=fun b x e=>(Array.getElem?_eq_some_iff.1 e).1
 have old:∀ b x,w.heap[b]? = some x→(w.alloc (.cells arr e)).heap[b]? = some x:=fun b x a=>by rw [heap_alloc_old w _ b (lt b x a)];exact a
 have pre:pl <+: pl++[some (w.heap.size,arr.size)]:=List.prefix_append _ _
 have getL:∀ {k:Nat},k<bx.length→(pl++[some (w.heap.size,arr.size)])[k]? = pl[k]?:=fun hk=>List.getElem?_append_left (by rw [h.len];exact hk)
 have getN:(pl++[some (w.heap.size,arr.size)])[bx.length]? = some (some (w.heap.size,arr.size)):=by rw [← h.len];simp
 refine ⟨h.lay,h.os,h.tape,h.output,Nat.le_trans h.size (by simp),fun b x a=>old _ _ (h.frz b x a),fun b x a=>old _ _ (h.prt b x a),h.dis,by simp [h.len],?_,?_⟩
 · intro k s xs hk
   have hkl:=AoY hk
   simp only [List.length_append,List.length_singleton] at hkl
   by_cases hk':k<bx.length
   · rw [AjX hk'] at hk
     rcases h.box k s xs hk with (h1 | ⟨b,o,M⟩) | ⟨b,n,ar,e',B⟩
     · exact .inl (.inl ⟨by rw [getL hk'];exact h1.1,h1.2⟩)
     · exact .inl (.inr ⟨b,o,{ M with plc:=by rw [getL hk'];exact M.plc,heap:=old _ _ M.heap }⟩)
     · exact .inr ⟨b,n,ar,e',{ B with plc:=by rw [getL hk'];exact B.plc,heap:=old _ _ B.heap,rep:=fun i v c a d=>(B.rep i v c a d).mono (.refl _) pre }⟩
   · have hke:k=bx.length:=by omega
     subst hke
     rw [BrZ] at hk
     injection hk with hk
     injection hk with e1 e2
     subst e1;subst e2
     refine .inr ⟨w.heap.size,arr.size,arr,e,⟨getN,?_,?_,heap_alloc_new w _,rfl,he,hf,h1,fun i v c a d=>(hr i v c a d).mono (.refl _) pre⟩⟩
     · cases hp:fz w.heap.size with
       | none=>rfl
       | some y=>have:=lt _ _ (h.frz _ _ hp);omega
     · cases hp:pr w.heap.size with
       | none=>rfl
       | some y=>have:=lt _ _ (h.prt _ _ hp);omega
 · intro k k' x y b n n' hk hk' hp hp'
   have hkl:=AoY hk
   have hkl':=AoY hk'
   simp only [List.length_append,List.length_singleton] at hkl hkl'
   have blk:∀ {j:Nat} {z m},j<bx.length→AeZ (bx++[some (sz,es)]) j=some z→(pl++[some (w.heap.size,arr.size)])[j]? = some (some (b,m))→b<w.heap.size:=by
    intro j z m hj hz hm
    rw [AjX hj] at hz
    rw [getL hj] at hm
    rcases h.box j z.1 z.2 hz with (h1 | ⟨b',o',M⟩) | ⟨b',n',ar,e',B⟩
    · rw [h1.1] at hm;cases hm
    · have:=M.plc;rw [hm] at this;injection this with this;injection this with this;injection this with t1 t2;subst t1;exact lt _ _ M.heap
    · have:=B.plc;rw [hm] at this;injection this with this;injection this with this;injection this with t1 t2;subst t1;exact lt _ _ B.heap
   by_cases h1:k<bx.length
   · by_cases h2:k'<bx.length
     · rw [AjX h1] at hk
       rw [AjX h2] at hk'
       rw [getL h1] at hp
       rw [getL h2] at hp'
       exact h.inj k k' x y b n n' hk hk' hp hp'
     · have:k'=bx.length:=by omega
       subst this
       rw [getN] at hp'
       have:=blk h1 hk hp
       simp at hp'
       omega
   · have:k=bx.length:=by omega
     subst this
     by_cases h2:k'<bx.length
     · rw [getN] at hp
       have:=blk h2 hk' hp'
       simp at hp
       omega
     · omega
theorem Sim.kill {w0:World} {pr fz:Fz} {pl:Pl} {bx:Bx} {w:World} (h:Sim w0 pr fz pl bx w) (k:Nat):Sim w0 pr fz pl (ArZ bx k none) w:=by
 have key:∀ {j x},AeZ (ArZ bx k none) j=some x→AeZ bx j=some x:=by
  intro j x hj
  by_cases hk:k=j
  · subst hk
    have:=AoY hj
    rw [AmQ] at this
    rw [AjZ this] at hj;cases hj
  · rwa [AiX hk] at hj
 exact ⟨h.lay,h.os,h.tape,h.output,h.size,h.frz,h.prt,h.dis,by rw [AmQ];exact h.len,fun j s xs hj=>h.box j s xs (key hj),fun j j' x y b n n' a a'=>h.inj j j' x y b n n' (key a) (key a')⟩
theorem Sim.drew {w0:World} {pr fz:Fz} {pl:Pl} {bx:Bx} {w:World} (h:Sim w0 pr fz pl bx w):Sim w0 pr fz pl bx w.drew:=h.below (RowKit.Below.refl _ _).drew
end Go.Proofs.YtcmphhedaefcgaaGreatDoor.Av
namespace Go.Proofs.YtcmphhedaefcgaaGreatDoor.Av
def leafV:Value→Option AV
 | .bool b=>some (.bool b)
 | .int k n=>some (.int k n)
 | .string s=>some (.str s)
 | .pointer none=>some .nilp
 | .slice none 0 0=>some .nils
 | .nilFunc=>some .nilf
 | .map none=>some .nilm
 | .nilIface=>some .ifn
 | _=>none
def leafs:List Value→Option (List AV)
 | []=>some []
 |
  v::l=>match leafV v,leafs l with
  | some x,some r=>some (x::r)
  | _,_=>none
def constV:Value→Option AV
 | .agg cs=>(leafs cs.toList).map .agg
 | v=>leafV v
def cO:Operand→Option AOpd
 | .tmp t=>some (.tmp t)
 | .const v=>(constV v).map .val
 | .func f=>some (.val (.fn (.func f) []))
 | .global _=>none
def cOs:List Operand→Option (List AOpd)
 | []=>some []
 |
  x::l=>match cO x,cOs l with
  | some y,some r=>some (y::r)
  | _,_=>none
def cOo:Option Operand→Option (Option AOpd)
 | none=>some none
 | some x=>(cO x).map some
def isRowB (P:Program) (t:TypeId):Option Bool:=(P.underlying t).map fun d=>match d with | .struct _ | .array _ _=>true | _=>false
def BpZ (P:Program) (t:TypeId):Option Nat:=(P.info? t).map (·.size)
def elemB (P:Program) (t:TypeId):Option TypeId:=match P.underlying t with | some (.slice e)=>some e | _=>none
def places (P:Program):List Field→Option (List (Nat × Nat))
 | []=>some []
 |
  f::l=>match BpZ P f.type,places P l with
  | some n,some r=>some ((f.offset,n)::r)
  | _,_=>none
def partsB (pl:List (Nat × Nat)):List (Nat × Operand)→Option (List (Nat × Nat × AOpd))
 | []=>some []
 |
  (i,x)::l=>match pl[i]?,cO x,partsB pl l with
  | some (o,n),some y,some r=>some ((o,n,y)::r)
  | _,_,_=>none
def rowB:Nat→List (Nat × Operand)→Option (List Operand)
 | _,[]=>some []
 |
  k,(i,x)::l=>match decide (i=k),rowB (k+1) l with
  | true,some r=>some (x::r)
  | _,_=>none
def intsB (P:Program):Nat→List Field→Bool
 | _,[]=>true
 | o, f :: l => decide (f.offset = o) && decide (f.name ≠ "_") && (match P.underlying f.type with | some (.int _) => true | _ => false) && intsB P (o + 1) l
def isZero:Operand→Bool
 | .const (.int _ 0)=>true
 | _=>false
def isMapB (P:Program) (t:TypeId):Bool:=match P.underlying t with
 | some (.map _ _)=>true
 | _=>false
def keyB (P:Program) (t:TypeId):Bool:=match P.underlying t with
 |
  some (.map k _)=>(match P.underlying k with
  | some (.int .i64)=>true
  | _=>false)
 | _=>false
def keyD (P:Program) (t:TypeId):Option Bool:=match P.underlying t with
 |
  some (.map k _)=>(match P.underlying k with
  | some (.int .i64)=>some false
  | some .string=>some true
  | _=>none)
 | _=>none
def elemZ (P:Program) (t:TypeId):Option AV:=match P.underlying t with
 |
  some (.map _ e)=>match (P.info? e).bind (·.zero) with
  | some z=>constV z
  | none=>none
 | _=>none
def cOp (P:Program) (mt:FuncId→Nat) (o:Oper):Option (AOp AOpd) :=
 match o.op with
 | .move x | .assign x=>(cO x).map .mov
 |
  .pick c a b=>match cO c,cO a,cO b with
  | some c,some a,some b=>some (.pick c a b)
  | _,_,_=>none
 |
  .alloc t=>match (P.info? t).bind (·.zero) with
  |
   some z=>match constV z with
   | some v=>some (.alloc v)
   | none=>none
  | none=>none
 |
  .box t x=>match BpZ P t,cO x with
  | some n,some x=>some (.box n x)
  | _,_=>none
 |
  .build t ps=>match P.underlying t,(P.info? t).bind (·.zero) with
  |
   some (.struct fs),some z=>match places P fs.toList,leafs z.cells.toList with
   | some pl,some zs=>(partsB pl ps.toList).map (.build zs)
   | _,_=>none
  |
   some (.array n e),some z=>match BpZ P e,leafs z.cells.toList with
   | some sz,some zs=>(partsB ((List.range n).map fun i=>(i * sz,sz)) ps.toList).map (.build zs)
   | _,_=>none
  | _,_=>none
 |
  .buildSlice t len ps=>match elemB P t with
  |
   some e=>match (P.info? e).bind (·.zero),BpZ P e,rowB 0 ps.toList with
   |
    some z,some n,some xs=>match cOs xs with
    |
     some ys=>match decide (len=ps.size) && decide (z.cells.size=n) && decide (len * n≤2 ^ 24) && decide (0<n) with
     |
      true=>match mt (1000000+t) with
      | 0=>some (.bslice n ys)
      | _=>some (.bslm n ys)
     | false=>none
    | none=>none
   | _,_,_=>none
  | none=>none
 |
  .load t x=>match isRowB P t,BpZ P t,cO x with
  |
   some a,some n,some x=>match mt (3000000+t) with
   | 0=>some (.load a n x)
   | _=>some (.loadf a n x)
  | _,_,_=>none
 |
  .store t p x=>match BpZ P t,cO p,cO x with
  | some n,some p,some x=>some (.store n p x)
  | _,_,_=>none
 | .nilCheck x=>(cO x).map .nilc
 |
  .binOp op t x y _=>match P.underlying t,cO x,cO y with
  | some (.int _),some x,some y | some .string,some x,some y=>some (.bin op x y)
  |
   some (.slice _),some x,some (.val .nils)=>match op with
   | .eql=>some (.isnil false x)
   | .neq=>some (.isnil true x)
   | _=>none
  |
   some (.pointer _),some x,some (.val .nilp)=>match op with
   | .eql=>some (.isnp false x)
   | .neq=>some (.isnp true x)
   | _=>none
  |
   some (.interface _),some x,some (.val .ifn)=>match op with
   | .eql=>some (.isni false x)
   | .neq=>some (.isni true x)
   | _=>none
  |
   some .bool,some x,some y=>match op with
   | .eql=>some (.eqb false x y)
   | .neq=>some (.eqb true x y)
   | _=>none
  |
   some (.struct fs),some x,some y=>match intsB P 0 fs.toList && !P.stoodInHeld t && !P.eqGuardType P.depth t with
   |
    true=>match op with
    | .eql=>some (.eqs false fs.size x y)
    | .neq=>some (.eqs true fs.size x y)
    | _=>none
   | false=>none
  | _,_,_=>none
 | .unOp op _ x=>(cO x).map (.un op)
 |
  .convert s d x=>match P.underlying s,P.underlying d,cO x with
  | some (.int _),some (.int k),some x=>some (.conv k x)
  | _,_,_=>none
 |
  .fieldAddr t x f=>match P.underlying t with
  |
   some (.struct fs)=>match fs[f]? with
   |
    some fd=>match BpZ P fd.type,cO x with
    |
     some n,some x=>match decide (n=0) with
     | false=>some (.faddr fd.offset x)
     | true=>none
    | _,_=>none
   | none=>none
  | _=>none
 |
  .field t x f=>match P.underlying t with
  |
   some (.struct fs)=>match fs[f]? with
   |
    some fd=>match isRowB P fd.type,BpZ P fd.type,cO x with
    | some a,some n,some x=>some (.fld a n fd.offset x)
    | _,_,_=>none
   | none=>none
  | _=>none
 |
  .indexAddr t x i=>match elemB P t with
  |
   some e=>match BpZ P e,cO x,cO i with
   | some n,some x,some i=>some (.iaddr n x i)
   | _,_,_=>none
  |
   none=>match P.underlying t,i with
   |
    some (.array len e),.const (.int _ z)=>match BpZ P e,cO x,decide (0≤z∧z<(len:Int)) with
    | some n,some x,true=>some (.faddr (z.toNat * n) x)
    | _,_,_=>none
   | _,_=>none
 |
  .slice t x lo hi mx=>match elemB P t with
  |
   some e=>match BpZ P e,cO x,cOo lo,cOo hi,mx with
   | some n,some x,some lo',some hi',none=>some (.slc n x lo' hi')
   |
    some n,some x,_,_,some m=>match (match lo with | none=>true | some l=>isZero l) && (match hi with | none=>false | some l=>isZero l) && isZero m with
    | true=>some (.slc0 n x)
    | false=>none
   | _,_,_,_,_=>none
  |
   none=>match P.underlying t,lo,hi,mx with
   |
    some .string,lo,hi,none=>match cO x,cOo lo,cOo hi with
    | some x,some lo,some hi=>some (.sslc x lo hi)
    | _,_,_=>none
   |
    some (.array n e),none,none,none=>match BpZ P e,cO x with
    | some 1,some x=>some (.slcf n x)
    | _,_=>none
   | _,_,_,_=>none
 | .extract x i=>(cO x).map (.ext · i)
 |
  .makeFunc f fs cs=>match fs.toList,cOs cs.toList with
  | [],some l=>some (.mkf f l)
  | g::r,some []=>(cOs (g::r)).map (.mkb f)
  | _,_=>none
 |
  .index t x i=>match P.underlying t,cO x,cO i with
  | some .string,some x,some i=>some (.sidx x i)
  | _,_,_=>none
 |
  .makeSlice t n c=>match elemB P t with
  |
   some e=>match P.info? e,cO n,cO c with
   |
    some i,some n,some c=>match i.zero with
    |
     some z=>match constV z with
     |
      some v=>match decide (i.size=v.cells.length) && decide (z.cells.size=i.size) with
      | true=>some (.mks i.size i.bytes v n c)
      | false=>none
     | none=>none
    | none=>none
   | _,_,_=>none
  | none=>none
 |
  .call c=>match c.callee,c.args.toList,c.argTypes.toList with
  |
   .builtin .len,[x],[t]=>match P.underlying t with
   | some (.slice _)=>(cO x).map (.len false)
   | some .string=>(cO x).map (.len true)
   | _=>none
  |
   .builtin .append,[x,y],[t,u]=>match elemB P t,elemB P u with
   |
    some e,some _=>match P.info? e,cO x,cO y with
    |
     some i,some x,some y=>match i.zero with
     |
      some z=>match decide (z.cells.size=i.size) && decide (0<i.size) with
      |
       true=>match mt (2000000+t) with
       | 0=>some (.app i.size i.bytes x y)
       | _=>some (.appf i.size i.bytes x y)
      | false=>none
     | none=>none
    | _,_,_=>none
   | _,_=>none
  |
   .builtin .clear,[x],[t]=>match isMapB P t,elemB P t with
   | true,_=>(cO x).map .clrm
   |
    false,some e=>match (P.info? e).bind (·.zero),BpZ P e,cO x with
    |
     some z,some n,some x=>match leafs z.cells.toList,decide (z.cells.size=n) with
     | some _,true=>some (.clr n x)
     | _,_=>none
    | _,_,_=>none
   | false,none=>none
  |
   .builtin .max,x::l,_=>match cO x,cOs l with
   | some x,some l=>some (.mx x l)
   | _,_=>none
  |
   .builtin .min,x::l,_=>match cO x,cOs l with
   | some x,some l=>some (.mn x l)
   | _,_=>none
  |
   .value f,l,_=>match cO f,cOs l with
   |
    some f',some l=>match (match f with | .func g=>mt g | _=>mt 4000000) with
    | 0=>some (.call f' l)
    | 1=>some (.callv f' l)
    | 2=>some (.callm f' l)
    | _=>some (.callo f' l)
   | _,_=>none
  | _,_,_=>none
 |
  .makeMap t r=>match r with
  |
   none=>match mt (5000000+t) with
   | 0=>some .mkm
   | _=>some .mkv
  | some _=>none
 |
  .mapUpdate t m k v=>match mt (5000000+t) with
  |
   0=>match keyB P t,cO m,cO k with
   | true,some m,some k=>some (.mset m k)
   | _,_,_=>none
  |
   _=>match keyD P t,cO m,cO k,cO v with
   | some tk,some m,some k,some v=>some (.mputv tk m k v)
   | _,_,_,_=>none
 |
  .lookup t m k ok=>match keyD P t,elemZ P t,cO m,cO k with
  | some tk,some z,some m,some k=>some (.mgetv tk ok z m k)
  | _,_,_,_=>none
 | _=>none
section
variable {fz:Fz} {pl:Pl}
theorem leafV_rep {v:Value} {x:AV} (h:leafV v=some x):RepF fz x v∧v.oneCell'=true∧x.cells=[x]:=by
 unfold leafV at h
 split at h <;> first | (cases h;done) | (injection h with h;subst h;refine ⟨by constructor,rfl,rfl⟩)
theorem leafs_rep:∀ {l:List Value} {r:List AV},leafs l=some r→r.length=l.length∧(∀ (i:Nat) c,l[i]? = some c→c.oneCell'=true)∧∀ (i:Nat) v c,r[i]? = some v→l[i]? = some c→RepF fz v c
 | [],r,h=>by simp [leafs] at h;subst h;simp
 |
  v::l,r,h=>by
  simp only [leafs] at h
  split at h
  · rename_i x r' hx hr
    injection h with h;subst h
    obtain ⟨h1,h2,h3⟩:=leafs_rep hr
    obtain ⟨k1,k2,_⟩:=leafV_rep (fz:=fz) hx
    refine ⟨by simp [h1],?_,?_⟩
    · intro i c hc
      cases i with
      | zero=>simp at hc;exact hc ▸ k2
      | succ i=>exact h2 i c (by simpa using hc)
    · intro i a c ha hc
      cases i with
      | zero=>simp at ha hc;subst ha;subst hc;exact k1
      | succ i=>exact h3 i a c (by simpa using ha) (by simpa using hc)
  · cases h
theorem constV_rep {v:Value} {x:AV} (h:constV v=some x):RepF fz x v:=by
 unfold constV at h
 split at h
 · rename_i cs
   cases hl:leafs cs.toList with
   | none=>rw [hl] at h;cases h
   |
    some r =>
    rw [hl] at h;injection h with h;subst h
    obtain ⟨h1,h2,h3⟩:=leafs_rep (fz:=fz) hl
    exact .agg r cs (by simpa using h1) (fun i c hc=>h2 i c (by simpa using hc)) (fun i a c ha hc=>h3 i a c ha (by simpa using hc))
 · exact (leafV_rep h).1
def RepT (fz:Fz) (pl:Pl) (l:List AV) (a:Act):Prop:=l.length=a.tmps.size∧∀ t,Rep fz pl (getT l t) (a.tmps.getD t undef)
theorem AgQ {l:List AV} {a:Act} (h:RepT fz pl l a) {x:Operand} {y:AOpd} (hx:cO x=some y):Rep fz pl (y.ev l) (a.eval x):=by
 cases x with
 | tmp t=>simp only [cO] at hx;injection hx with hx;subst hx;exact h.2 t
 |
  const v =>
  simp only [cO] at hx
  cases hc:constV v with
  | none=>rw [hc] at hx;cases hx
  | some z=>rw [hc] at hx;injection hx with hx;subst hx;exact .frz (constV_rep hc)
 | func f=>simp only [cO] at hx;injection hx with hx;subst hx;exact .frz (.fn _ [] #[] rfl (by simp))
 | global g=>cases hx
theorem cOs_rep {l:List AV} {a:Act} (h:RepT fz pl l a):∀ {xs:List Operand} {ys:List AOpd},cOs xs=some ys →
 (ys.map (·.ev l)).length=xs.length∧∀ (i:Nat) v x,(ys.map (·.ev l))[i]? = some v→xs[i]? = some x→Rep fz pl v (a.eval x)
 | [],ys,hx=>by simp [cOs] at hx;subst hx;simp
 |
  x::xs,ys,hx=>by
  simp only [cOs] at hx
  split at hx
  · rename_i y r hy hr
    injection hx with hx;subst hx
    obtain ⟨h1,h2⟩:=cOs_rep h hr
    refine ⟨by simpa using h1,?_⟩
    intro i v z hv hz
    cases i with
    | zero=>simp at hv hz;subst hv;subst hz;exact AgQ h hy
    | succ i=>exact h2 i v z (by simpa using hv) (by simpa using hz)
  · cases hx
theorem Rep.one {v:AV} {c:Value} (h:Rep fz pl v c) (hv:v.okSt=true) (ha:∀ l,v≠.agg l):c.oneCell'=true∧c.cells=#[c]∧v.cells=[v]:=by
 cases h with
 | frz h=>cases h <;> first | (simp [AV.okSt] at hv;done) | exact ⟨rfl,rfl,rfl⟩ | exact absurd rfl (ha _)
 | fn=>exact ⟨rfl,rfl,rfl⟩
 | fb=>exact ⟨rfl,rfl,rfl⟩
 | agg=>exact absurd rfl (ha _)
 | tuple=>simp [AV.okSt] at hv
 | ptr=>exact ⟨rfl,rfl,rfl⟩
 | sl=>exact ⟨rfl,rfl,rfl⟩
 | sl0=>exact ⟨rfl,rfl,rfl⟩
 | mp=>exact ⟨rfl,rfl,rfl⟩
theorem Rep.cells {v:AV} {c:Value} (h:Rep fz pl v c) (hv:v.okSt=true):v.cells.length=c.cells.size∧(∀ (i:Nat) y,c.cells[i]? = some y→y.oneCell'=true)∧∀ (i:Nat) x y,v.cells[i]? = some x→c.cells[i]? = some y→Rep fz pl x y:=by
 by_cases ha:∃ l,v=.agg l
 · obtain ⟨l,rfl⟩:=ha
   obtain ⟨cs,rfl,h1,h2,h3⟩:=h.inv_agg
   exact ⟨h1,h2,h3⟩
 · obtain ⟨h1,h2,h3⟩:=h.one hv (fun l e=>ha ⟨l,e⟩)
   rw [h2,h3]
   refine ⟨rfl,?_,?_⟩
   · intro i y hy
     cases i <;> simp at hy
     exact hy ▸ h1
   · intro i x y hx hy
     cases i <;> simp at hx hy
     subst hx;subst hy;exact h
end
end Go.Proofs.YtcmphhedaefcgaaGreatDoor.Av
namespace Go.Proofs.YtcmphhedaefcgaaGreatDoor.Av
def cls {α:Type}:AOp α→Nat
 | .load ..=>1
 | .callv ..=>4
 | .mgetv ..=>5
 | .store .. | .app .. | .callm .. | .clr .. | .mset .. | .clrm .. | .mputv ..=>2
 | .alloc _ | .box .. | .mks .. | .callo .. | .bslm .. | .mkm | .mkv=>3
 | .isnil .. | .same ..=>9
 | _=>0
def meetC:Nat→Nat→Bool
 | 0,_ | _,0 | 1,1 | 1,2 | 1,3 | 3,1 | 1,4 | 4,1 | 4,4 | 5,1 | 1,5 | 5,3 | 3,5 | 5,4 | 4,5 | 5,5=>false
 | _,_=>true
def BkX (o:Oper):List Nat:=(o.after.toList.filter (Region.binds .any)).map (·.on)
def unionN:List Nat→List Nat→List Nat
 | [],r=>r
 | x::l,r=>if r.contains x then unionN l r else unionN l (x::r)
def ancOf (acc:List (List Nat)):List Nat→List Nat
 | []=>[]
 | e::es=>unionN (e::acc.getD e []) (ancOf acc es)
def ancTab:List Oper→List (List Nat)→List (List Nat)
 | [],acc=>acc
 | o::os,acc=>ancTab os (acc++[ancOf acc (BkX o)])
def tmpOf:AOpd→List Nat
 | .tmp t=>[t]
 | _=>[]
def optT:Option AOpd→List Nat
 | some x=>tmpOf x
 | none=>[]
def opT:AOp AOpd→List Nat
 | .mov x | .box _ x | .load _ _ x | .nilc x | .un _ x | .isnil _ x | .conv _ x | .fld _ _ _ x | .faddr _ x | .slc0 _ x | .slcf _ x | .loadf _ _ x | .clr _ x | .clrm x | .isnp _ x | .isni _ x | .len _ x | .ext x _=>tmpOf x
 | .pick c a b=>tmpOf c++tmpOf a++tmpOf b
 | .alloc _ | .bad | .mkm | .mkv=>[]
 | .mputv _ x k v=>tmpOf x++tmpOf k++tmpOf v
 | .mgetv _ _ _ x k=>tmpOf x++tmpOf k
 | .build _ ps=>ps.flatMap fun p=>tmpOf p.2.2
 | .bslice _ xs | .bslm _ xs | .mkf _ xs | .mkb _ xs=>xs.flatMap tmpOf
 | .mset p x | .sidx p x | .store _ p x | .bin _ p x | .eqs _ _ p x | .eqb _ p x | .iaddr _ p x | .app _ _ p x | .appf _ _ p x | .mks _ _ _ p x | .same _ _ p x=>tmpOf p++tmpOf x
 | .slc _ x lo hi | .sslc x lo hi=>tmpOf x++optT lo++optT hi
 | .mx x xs | .mn x xs | .call x xs | .callv x xs | .callm x xs | .callo x xs=>tmpOf x++xs.flatMap tmpOf
def BuX (p:AOper):List Nat:=opT p.op++(match p.guard with | some (g,_)=>[g] | none=>[])
def AtY (p:AOper):List Nat:=p.dst.toList
def meetB (x y:AOper):Bool :=
 (AtY x).any (fun t=>(BuX y).contains t || (AtY y).contains t) || (AtY y).any (fun t=>(BuX x).contains t)
 || meetC (cls x.op) (cls y.op)
def cGuard (ops:Array Oper) (o:Oper):Option (Option (Nat × Bool)) :=
 match o.guard with
 | none=>some none
 |
  some (g,b)=>match (ops[g]?).bind (·.dst) with
  | some t=>some (some (t,b))
  | none=>none
def cOper (P:Program) (mt:FuncId→Nat) (ops:Array Oper) (o:Oper):Option AOper :=
 match cGuard ops o with
 | some g=>some ⟨o.dst,(cOp P mt o).getD .bad,g⟩
 | none=>none
def BhQ (P:Program) (mt:FuncId→Nat) (ops:Array Oper):List Oper→Option (List AOper)
 | []=>some []
 |
  o::os=>match cOper P mt ops o,BhQ P mt ops os with
  | some p,some r=>some (p::r)
  | _,_=>none
def edgesUp:Nat→List Oper→Bool
 | _,[]=>true
 | k,o::os=>(BkX o).all (fun e=>decide (e<k)) && edgesUp (k+1) os
def pairsOk (tab:List (List Nat)):List (Nat × AOper)→Bool
 | []=>true
 | (i,x)::l=>l.all (fun y=>!meetB x y.2 || (tab.getD y.1 []).contains i) && pairsOk tab l
def BaQ:Nat→List AOper→List (Nat × AOper)
 | k,a::az=>(k,a)::BaQ (k+1) az
 | _,[]=>[]
def plainLoad:AOper→Option (Bool × Nat × AOpd × Nat)
 |
  ⟨some d,.load a n x,none⟩=>match (tmpOf x).contains d with
  | true=>none
  | false=>some (a,n,x,d)
 | _=>none
def late (tab:List (List Nat)) (i:Nat) (x:AOper) (j:Nat) (y:AOper):Bool:=cls x.op == 1 && cls y.op == 2 && !(tab.getD j []).contains i
def lateOk (tab:List (List Nat)):List (Nat × AOper)→Bool
 | []=>true
 | (i,x)::l=>(!(l.any fun y=>late tab i x y.1 y.2) || ((plainLoad x).isSome && l.all fun y=>(AtY y.2).all fun t=>!(BuX x).contains t && !(AtY x).contains t)) && lateOk tab l
def chk (tab:List (List Nat)) (j:Nat) (y:AOper):List (Nat × AOper)→List AOper
 | []=>[]
 |
  (i,x)::r=>match late tab i x j y,plainLoad x with
  | true,some (a,n,p,d)=>⟨none,.same a n p (.tmp d),none⟩::chk tab j y r
  | _,_=>chk tab j y r
def withChk (tab:List (List Nat)) (done:List (Nat × AOper)):List (Nat × AOper)→List AOper
 | []=>[]
 | (j,y)::r=>y::(chk tab j y done++withChk tab (done++[(j,y)]) r)
def drawOk (P:Program) (ops:Array Oper) (az:List AOper):Bool :=
 P.follows .mixedOrders && az.all (fun a=>cls a.op != 9) && edgesUp 0 ops.toList && pairsOk (ancTab ops.toList []) (BaQ 0 az) && lateOk (ancTab ops.toList []) (BaQ 0 az)
def frzT (P:Program):List Oper→Option Nat
 | []=>none
 |
  o::os=>match o.op with
  |
   .slice t (.tmp x) none none none=>match P.underlying t with
   | some (.array _ _)=>some x
   | _=>frzT P os
  | _=>frzT P os
def pre (P:Program) (ops:Array Oper) (c:ACode):ACode:=match frzT P ops.toList with
 | some t=>.seq (.frz t) c
 | none=>c
def BsQ (P:Program) (mt:FuncId→Nat):Code→Option ACode
 | .skip=>some .skip
 |
  .region _ ops draw=>match BhQ P mt ops ops.toList with
  |
   some az=>match draw with
   | false=>some (pre P ops (.region az))
   |
    true=>match drawOk P ops az with
    | true=>some (pre P ops (.draw (withChk (ancTab ops.toList []) [] (BaQ 0 az))))
    | false=>none
  | none=>none
 |
  .seq a b=>match BsQ P mt a,BsQ P mt b with
  | some x,some y=>some (.seq x y)
  | _,_=>none
 |
  .cond c a b=>match cO c,BsQ P mt a,BsQ P mt b with
  | some c,some x,some y=>some (.cond c x y)
  | _,_,_=>none
 | .block id c=>(BsQ P mt c).map (.block id)
 | .loop c=>(BsQ P mt c).map .loop
 | .exit id=>some (.exit id)
 | .ret=>some .ret
 | _=>none
inductive ARes where
 | tmp (t:Nat)
 | cell (t:Nat) (agg:Bool) (n:Nat)
structure AFunc where
 ntmps:Nat
 res:List ARes
 body:ACode
def cRes (P:Program):List ResultVar→Option (List ARes)
 | []=>some []
 | .tmp t::l=>(cRes P l).map (.tmp t::·)
 |
  .cell t ty::l=>match isRowB P ty,BpZ P ty,cRes P l with
  | some a,some n,some r=>some (.cell t a n::r)
  | _,_,_=>none
def AgY (P:Program) (mt:FuncId→Nat) (fn:Func):Option AFunc :=
 match fn.body.bind (BsQ P mt),cRes P fn.results.toList with
 | some c,some r=>some ⟨fn.ntmps,r,c⟩
 | _,_=>none
end Go.Proofs.YtcmphhedaefcgaaGreatDoor.Av
namespace Go.Proofs.YtcmphhedaefcgaaGreatDoor.Av
section
variable {w0:World} {pr fz:Fz} {pl:Pl} {bx:Bx} {w:World}
theorem BoxAt.unique {k sz:Nat} {es:List AV} {b n b' n':Nat} {arr:Array Value} {e:TypeId} (B:BoxAt pr fz pl w k sz es b n arr e) (h:pl[k]? = some (some (b',n'))):b'=b∧n'=n:=by
 have:=B.plc;rw [h] at this;injection this with this;injection this with this;injection this with a c;exact ⟨a,c⟩
theorem Sim.setRow (h:Sim w0 pr fz pl bx w) {k sz:Nat} {es es':List AV} {b n:Nat} {arr arr':Array Value} {e:TypeId} (hk:AeZ bx k=some (sz,es)) (B:BoxAt pr fz pl w k sz es b n arr e)
 (hs:arr'.size=arr.size) (he:∀ x∈es',x.cells.length=sz) (hf:(es'.flatMap AV.cells).length≤n)
 (h1:∀ (i:Nat) v c,(es'.flatMap AV.cells)[i]? = some v→arr'[i]? = some c→c.oneCell'=true)
 (hr:∀ (i:Nat) v c,(es'.flatMap AV.cells)[i]? = some v→arr'[i]? = some c→Rep fz pl v c) :
 Sim w0 pr fz pl (ArZ bx k (some (sz,es'))) (w.setRow b arr'):=by
 have oth:∀ {b':Nat} {o},b'≠b→w.heap[b']? = some o→(w.setRow b arr').heap[b']? = some o:=fun hne ho=>by rw [setRow_other w b _ arr' hne];exact ho
 have nb:∀ {g:Fz} {b' o},g b=none→g b'=some o→b'≠b:=fun hn hg e=>by rw [e,hn] at hg;cases hg
 refine ⟨h.lay,h.os,h.tape,h.output,by rw [size_setRow];exact h.size,fun b' o a=>oth (nb B.nfz a) (h.frz _ _ a),fun b' o a=>oth (nb B.npr a) (h.prt _ _ a),h.dis,by rw [AmQ];exact h.len,?_,?_⟩
 · intro j s xs hj
   by_cases hkj:k=j
   · subst hkj
     rw [AjZ (AoY hk)] at hj
     injection hj with hj;injection hj with e1 e2;subst e1;subst e2
     exact .inr ⟨b,n,arr',e,⟨B.plc,B.nfz,B.npr,setRow_heap w b arr arr' e _ B.heap,by rw [hs];exact B.size,he,hf,h1,hr⟩⟩
   · rw [AiX hkj] at hj
     rcases h.box j s xs hj with (h2 | ⟨b',o',M'⟩) | ⟨b',n',ar,e',B'⟩
     · exact .inl (.inl h2)
     · refine .inl (.inr ⟨b',o',{ M' with heap:=oth ?_ M'.heap }⟩)
       intro hbb;subst hbb
       exact hkj (h.inj k j _ _ b' n 0 hk hj B.plc M'.plc)
     · refine .inr ⟨b',n',ar,e',{ B' with heap:=oth ?_ B'.heap }⟩
       intro hbb;subst hbb
       exact hkj (h.inj k j _ _ b' n n' hk hj B.plc B'.plc)
 · intro j j' x y b1 n1 n2 hj hj' p1 p2
   have key:∀ {i z},AeZ (ArZ bx k (some (sz,es'))) i=some z→∃ z',AeZ bx i=some z':=by
    intro i z hi
    by_cases hki:k=i
    · subst hki;exact ⟨_,hk⟩
    · rw [AiX hki] at hi;exact ⟨_,hi⟩
   obtain ⟨_,k1⟩:=key hj
   obtain ⟨_,k2⟩:=key hj'
   exact h.inj j j' _ _ b1 n1 n2 k1 k2 p1 p2
theorem Sim.moved (h:Sim w0 pr fz pl bx w) {k sz:Nat} {es:List AV} {b n:Nat} (hk:AeZ bx k=some (sz,es)) (hp:pl[k]? = some (some (b,n))) :
 Sim w0 pr fz (pl++[some (b,n)]) (ArZ bx k none++[some (sz,es)]) w:=by
 have pre:pl <+: pl++[some (b,n)]:=List.prefix_append _ _
 have hl:(ArZ bx k none).length=bx.length:=AmQ _ _ _
 have getL:∀ {j:Nat},j<bx.length→(pl++[some (b,n)])[j]? = pl[j]?:=fun hk=>List.getElem?_append_left (by rw [h.len];exact hk)
 have getN:(pl++[some (b,n)])[bx.length]? = some (some (b,n)):=by rw [← h.len];simp
 have old:∀ {j x},j<bx.length→AeZ (ArZ bx k none++[some (sz,es)]) j=some x→AeZ bx j=some x∧k≠j:=by
  intro j x hj hx
  rw [AjX (by rw [hl];exact hj)] at hx
  by_cases hkj:k=j
  · subst hkj;rw [AjZ hj] at hx;cases hx
  · rw [AiX hkj] at hx;exact ⟨hx,hkj⟩
 have new:∀ {j x},¬ j<bx.length→AeZ (ArZ bx k none++[some (sz,es)]) j=some x→j=bx.length∧x=(sz,es):=by
  intro j x hj hx
  have:=AoY hx
  simp [hl] at this
  have hje:j=bx.length:=by omega
  subst hje
  rw [← hl,BrZ] at hx
  injection hx with hx
  exact ⟨rfl,hx.symm⟩
 refine ⟨h.lay,h.os,h.tape,h.output,h.size,h.frz,h.prt,h.dis,by simp [h.len,hl],?_,?_⟩
 · intro j s xs hj
   by_cases hjl:j<bx.length
   · obtain ⟨hj',_⟩:=old hjl hj
     rcases h.box j s xs hj' with (h1 | ⟨b',o',M⟩) | ⟨b',n',ar,e',B⟩
     · exact .inl (.inl ⟨by rw [getL hjl];exact h1.1,h1.2⟩)
     · exact .inl (.inr ⟨b',o',{ M with plc:=by rw [getL hjl];exact M.plc }⟩)
     · exact .inr ⟨b',n',ar,e',{ B with plc:=by rw [getL hjl];exact B.plc,rep:=fun i v c a d=>(B.rep i v c a d).mono (.refl _) pre }⟩
   · obtain ⟨rfl,hx⟩:=new hjl hj
     injection hx with e1 e2;subst e1;subst e2
     rcases h.box k s xs hk with (h1 | ⟨b',o',M⟩) | ⟨b',n',ar,e',B⟩
     · rw [h1.1] at hp;cases hp
     · have:=M.plc;rw [hp] at this;injection this with this;injection this with this;injection this with t1 t2;subst t1;subst t2
       exact .inl (.inr ⟨b,o',{ M with plc:=getN }⟩)
     · obtain ⟨rfl,rfl⟩:=B.unique hp
       exact .inr ⟨b,n,ar,e',{ B with plc:=getN,rep:=fun i v c a d=>(B.rep i v c a d).mono (.refl _) pre }⟩
 · intro j j' x y b1 n1 n2 hj hj' p1 p2
   by_cases h1:j<bx.length
   · obtain ⟨q1,ne1⟩:=old h1 hj
     rw [getL h1] at p1
     by_cases h2:j'<bx.length
     · obtain ⟨q2,ne2⟩:=old h2 hj'
       rw [getL h2] at p2
       exact h.inj j j' _ _ b1 n1 n2 q1 q2 p1 p2
     · obtain ⟨rfl,_⟩:=new h2 hj'
       rw [getN] at p2
       injection p2 with p2;injection p2 with p2;injection p2 with p2 p3
       subst p2;subst p3
       exact absurd (h.inj k j _ _ b n n1 hk q1 hp p1) ne1
   · obtain ⟨rfl,_⟩:=new h1 hj
     by_cases h2:j'<bx.length
     · obtain ⟨q2,ne2⟩:=old h2 hj'
       rw [getL h2] at p2
       rw [getN] at p1
       injection p1 with p1;injection p1 with p1;injection p1 with p1 p3
       subst p1;subst p3
       exact absurd (h.inj k j' _ _ b n n2 hk q2 hp p2) ne2
     · obtain ⟨rfl,_⟩:=new h2 hj'
       rfl
theorem Sim.hollow (h:Sim w0 pr fz pl bx w) (sz:Nat):Sim w0 pr fz (pl++[none]) (bx++[some (sz,[])]) w:=by
 have pre:pl <+: pl++[none]:=List.prefix_append _ _
 have getL:∀ {j:Nat},j<bx.length→(pl++[none])[j]? = pl[j]?:=fun hk=>List.getElem?_append_left (by rw [h.len];exact hk)
 have getN:(pl++[none])[bx.length]? = some none:=by rw [← h.len];simp
 have split:∀ {j x},AeZ (bx++[some (sz,[])]) j=some x→(j<bx.length∧AeZ bx j=some x)∨(j=bx.length∧x=(sz,[])):=by
  intro j x hj
  have:=AoY hj
  simp only [List.length_append,List.length_singleton] at this
  by_cases hjl:j<bx.length
  · rw [AjX hjl] at hj;exact .inl ⟨hjl,hj⟩
  · have:j=bx.length:=by omega
    subst this
    rw [BrZ] at hj;injection hj with hj;exact .inr ⟨rfl,hj.symm⟩
 refine ⟨h.lay,h.os,h.tape,h.output,h.size,h.frz,h.prt,h.dis,by simp [h.len],?_,?_⟩
 · intro j s xs hj
   rcases split hj with ⟨hjl,hj'⟩ | ⟨rfl,hx⟩
   · rcases h.box j s xs hj' with (h1 | ⟨b',o',M⟩) | ⟨b',n',ar,e',B⟩
     · exact .inl (.inl ⟨by rw [getL hjl];exact h1.1,h1.2⟩)
     · exact .inl (.inr ⟨b',o',{ M with plc:=by rw [getL hjl];exact M.plc }⟩)
     · exact .inr ⟨b',n',ar,e',{ B with plc:=by rw [getL hjl];exact B.plc,rep:=fun i v c a d=>(B.rep i v c a d).mono (.refl _) pre }⟩
   · injection hx with e1 e2;subst e1;subst e2
     exact .inl (.inl ⟨getN,rfl⟩)
 · intro j j' x y b1 n1 n2 hj hj' p1 p2
   rcases split hj with ⟨hjl,hj1⟩ | ⟨rfl,hx⟩
   · rcases split hj' with ⟨hjl',hj2⟩ | ⟨rfl,hx'⟩
     · rw [getL hjl] at p1;rw [getL hjl'] at p2
       exact h.inj j j' _ _ b1 n1 n2 hj1 hj2 p1 p2
     · rw [getN] at p2;cases p2
   · rw [getN] at p1;cases p1
theorem cutCells_rep {agg:Bool} {n off:Nat} {l:List AV} {v:AV} (h:cutCells agg n off l=some v) :
 (agg=true∧off+n≤l.length∧v=.agg ((l.drop off).take n))∨(agg=false∧l[off]? = some v):=by
 unfold cutCells at h
 cases agg with
 |
  true =>
  simp only at h
  split at h
  · rename_i hd;injection h with h;exact .inl ⟨rfl,of_decide_eq_true hd,h.symm⟩
  · cases h
 | false=>simp only at h;rw [List.head?_drop] at h;exact .inr ⟨rfl,h⟩
theorem run_load_cells {P:Program} {t:TypeId} {agg:Bool} {n:Nat} (ha:isRowB P t=some agg) (hn:BpZ P t=some n) {b o off:Nat} {arr:Array Value} {e:TypeId} {fr:Nat × Nat}
 (hb:w.heap[b]? = some (.cells arr e fr)) {l:List AV} {v:AV} (hv:cutCells agg n off l=some v) (hlen:o+l.length≤arr.size)
 (h1:∀ (i:Nat) v c,l[i]? = some v→arr[o+i]? = some c→c.oneCell'=true)
 (h:∀ (i:Nat) v c,l[i]? = some v→arr[o+i]? = some c→Rep fz pl v c) :
 ∃ cv,(Instr.loadAt t (.pointer (some ⟨b,o+off,none⟩))).run P w=.ok cv w∧Rep fz pl v cv:=by
 have cell:∀ j,w.cell? ⟨b,j,none⟩=arr[j]?:=fun j=>cell_of_row w b j arr e fr hb
 unfold isRowB at ha
 unfold BpZ at hn
 cases hu:P.underlying t with
 | none=>rw [hu] at ha;cases ha
 |
  some d =>
  rw [hu] at ha
  simp only [Option.map_some,Option.some.injEq] at ha
  have hagg:(isAgg t).run P w=.ok agg w:=by
   unfold isAgg
   rw [Sem.run_bind,run_underlying hu w]
   subst ha
   cases d <;> rfl
  cases hi:P.info? t with
  | none=>rw [hi] at hn;cases hn
  |
   some inf =>
   rw [hi] at hn
   simp only [Option.map_some,Option.some.injEq] at hn
   rcases cutCells_rep hv with ⟨rfl,hle,rfl⟩ | ⟨rfl,hg⟩
   · have hls:(((arr.toList.drop (o+off)).take n)).length=n:=by simp;omega
     have hl:(loadCells ⟨b,o+off,none⟩ n).run P w=.ok ((arr.toList.drop (o+off)).take n).toArray w:=by
      have:=run_loadCells_list (P:=P) w ⟨b,o+off,none⟩ ((arr.toList.drop (o+off)).take n) (fun j v hv=>by
       rw [Addr.add_mid,cell]
       rw [List.getElem?_take] at hv
       split at hv
       · rw [List.getElem?_drop] at hv;simpa using hv
       · cases hv)
      rw [hls] at this
      exact this
     have get:∀ (i:Nat) x,((arr.toList.drop (o+off)).take n).toArray[i]? = some x→i<n∧arr[o+(off+i)]? = some x:=by
      intro i x hx
      simp only [List.getElem?_toArray,List.getElem?_take] at hx
      split at hx
      · rename_i hlt;rw [List.getElem?_drop] at hx;exact ⟨hlt,by rw [← Nat.add_assoc];simpa using hx⟩
      · cases hx
     refine ⟨_,by simp [Instr.loadAt,Instr.sureAddr,loadVar,hagg,sizeOf,typeInfo,hi,hn,hl];rfl,.agg _ _ ?_ ?_ ?_⟩
     · simp;omega
     · intro i c hc
       obtain ⟨hlt,hc'⟩:=get i c hc
       have:l[off+i]? = some l[off+i]:=List.getElem?_eq_getElem (by omega)
       exact h1 _ _ _ this hc'
     · intro i x c hx hc
       obtain ⟨hlt,hc'⟩:=get i c hc
       rw [List.getElem?_take,if_pos hlt,List.getElem?_drop] at hx
       exact h _ _ _ hx hc'
   · have hlt:off<l.length:=(List.getElem?_eq_some_iff.1 hg).1
     have hc:arr[o+off]? = some arr[o+off]:=Array.getElem?_eq_getElem (by omega)
     refine ⟨arr[o+off],?_,h _ _ _ hg hc⟩
     simp [Instr.loadAt,Instr.sureAddr,loadVar,hagg,cell,hc]
theorem load_empty {P:Program} {t:TypeId} (ha:isRowB P t=some true) (hn:BpZ P t=some 0) (a:Addr):∃ cv,(Instr.loadAt t (.pointer (some a))).run P w=.ok cv w∧Rep fz pl (.agg (([]:List AV).drop 0 |>.take 0)) cv:=by
 unfold isRowB at ha
 unfold BpZ at hn
 cases hu:P.underlying t with
 | none=>rw [hu] at ha;cases ha
 |
  some d =>
  rw [hu] at ha
  simp only [Option.map_some,Option.some.injEq] at ha
  have hagg:(isAgg t).run P w=.ok true w:=by
   unfold isAgg
   rw [Sem.run_bind,run_underlying hu w]
   cases d <;> first | rfl | (simp at ha;done)
  cases hi:P.info? t with
  | none=>rw [hi] at hn;cases hn
  |
   some inf =>
   rw [hi] at hn
   simp only [Option.map_some,Option.some.injEq] at hn
   have hl:(loadCells a 0).run P w=.ok ([]:List Value).toArray w:=run_loadCells_list (P:=P) w a [] (fun j v hv=>by simp at hv)
   exact ⟨.agg #[],by simp [Instr.loadAt,Instr.sureAddr,loadVar,hagg,sizeOf,typeInfo,hi,hn,hl],.agg [] #[] rfl (by simp) (by simp)⟩
theorem load_sound {P:Program} {t:TypeId} {agg:Bool} {n:Nat} (ha:isRowB P t=some agg) (hn:BpZ P t=some n) {x v:AV} {c:Value} (hS:Sim w0 pr fz pl bx w)
 (hx:Rep fz pl x c) (hv:BhZ bx agg n x=some v):∃ cv,(Instr.loadAt t c).run P w=.ok cv w∧Rep fz pl v cv:=by
 unfold BhZ at hv
 split at hv
 · rename_i l
   have hR:=hx.inv_rptr
   cases hR with
   |
    rptr _ b off arr e fr hb hlen h1 h =>
    have:=run_load_cells (P:=P) (pl:=pl) ha hn (hS.frz _ _ hb) hv hlen h1 (fun i v c a d=>.frz (h i v c a d))
    simpa using this
 · rename_i sz k i off
   obtain ⟨b,m,rfl,hp⟩:=hx.inv_ptr
   split at hv
   · rename_i s es hk
     split at hv
     · rename_i e hd he
       have hs:s=sz:=of_decide_eq_true hd
       subst hs
       rcases hS.box k s es hk with (h1 | ⟨b',o',M⟩) | ⟨b',n',arr,e',B⟩
       · rw [h1.1] at hp;cases hp
       · obtain ⟨hec,_,_,_⟩:=M.none_at he
         rw [hec] at hv
         rcases cutCells_rep hv with ⟨rfl,hle,rfl⟩ | ⟨rfl,hg⟩
         · simp at hle
           obtain ⟨rfl,rfl⟩:=hle
           exact load_empty ha hn _
         · simp at hg
       · obtain ⟨rfl,rfl⟩:=B.unique hp
         have hi:=(List.getElem?_eq_some_iff.1 he).1
         have hcl:e.cells.length=s:=B.elem e (List.mem_of_getElem? he)
         have hfl:=AeX B.elem
         have hle:i * s+s≤es.length * s:=by rw [← Nat.succ_mul];exact Nat.mul_le_mul_right _ hi
         have hfit:=B.fits
         have hsz:=B.size
         have hget:∀ (j:Nat) y,e.cells[j]? = some y→(es.flatMap AV.cells)[i * s+j]? = some y:=fun j y hy=>flat_get B.elem he hy
         exact run_load_cells (P:=P) ha hn B.heap hv (by omega) (fun j y z hy hz=>B.one _ _ _ (hget j y hy) hz) (fun j y z hy hz=>B.rep _ _ _ (hget j y hy) hz)
     · cases hv
   · cases hv
 · cases hv
end
end Go.Proofs.YtcmphhedaefcgaaGreatDoor.Av
namespace Go.Proofs.YtcmphhedaefcgaaGreatDoor.Av
theorem BtY:∀ (l:List AV) (o:Nat) (cs:List AV),(AmY l o cs).length=l.length
 | l,0,[]=>by simp [AmY]
 | [],0,_::_=>by simp [AmY]
 | [],_+1,_=>by simp [AmY]
 | x::l,0,c::cs=>by simp [AmY,BtY l 0 cs]
 | x::l,o+1,cs=>by simp [AmY,BtY l o cs]
theorem setCells_in:∀ (l:List AV) (o:Nat) (cs:List AV) (j:Nat),o+cs.length≤l.length→j<cs.length→(AmY l o cs)[o+j]? = cs[j]?
 | l,0,[],j,_,h=>by simp at h
 | [],0,c::cs,j,h,_=>by simp at h
 | [],o+1,cs,j,h,hj=>by simp at h
 | x::l,0,c::cs,0,_,_=>by simp [AmY]
 |
  x::l,0,c::cs,j+1,h,hj=>by
  have:=setCells_in l 0 cs j (by simp at h ⊢;omega) (by simpa using hj)
  simpa [AmY] using this
 |
  x::l,o+1,cs,j,h,hj=>by
  have:=setCells_in l o cs j (by simp at h;omega) hj
  rw [show o+1+j=(o+j)+1 by omega]
  simpa [AmY] using this
theorem setCells_out:∀ (l:List AV) (o:Nat) (cs:List AV) (j:Nat),(j<o∨o+cs.length≤j)→(AmY l o cs)[j]? = l[j]?
 | l,0,[],j,_=>by simp [AmY]
 | [],0,c::cs,j,h=>by simp [AmY]
 | [],o+1,cs,j,h=>by simp [AmY]
 | x::l,0,c::cs,0,h=>by simp at h
 |
  x::l,0,c::cs,j+1,h=>by
  have:=setCells_out l 0 cs j (by simp at h;omega)
  simpa [AmY] using this
 | x::l,o+1,cs,0,h=>by simp [AmY]
 |
  x::l,o+1,cs,j+1,h=>by
  have:=setCells_out l o cs j (by omega)
  simpa [AmY] using this
theorem setE_cells {e:AV} {off:Nat} {cs:List AV} (h:off+cs.length≤e.cells.length) (hc:∀ x∈cs,x.cells=[x]):(setE e off cs).cells=AmY e.cells off cs:=by
 cases e with
 | agg l=>rfl
 |
  dat ks vs =>
  simp only [AV.cells,List.length_nil] at h
  have:cs=[]:=List.eq_nil_of_length_eq_zero (by omega)
  subst this
  cases off with
  | zero=>rfl
  | succ o=>rfl
 |
  _ =>
  simp only [AV.cells,List.length_singleton] at h
  cases cs with
  |
   nil =>
   cases off with
   | zero=>simp [setE,AmY]
   | succ o=>
    have:o=0:=by simp at h;omega
    subst this;simp [setE,AmY,AV.cells]
  |
   cons c cs' =>
   have h0:off=0∧cs'=[]:=by
    simp at h
    have h1:cs'.length=0:=by omega
    exact ⟨by omega,List.eq_nil_of_length_eq_zero h1⟩
   obtain ⟨rfl,rfl⟩:=h0
   simp only [setE,AV.cells,AmY]
   exact hc c (by simp)
section
variable {w0:World} {pr fz:Fz} {pl:Pl} {bx:Bx} {w:World}
theorem flat_set {sz:Nat} {l:List AV} (h:∀ x∈l,x.cells.length=sz) {i:Nat} (hi:i<l.length) {e':AV} (he:e'.cells.length=sz) (j:Nat) :
 ((l.set i e').flatMap AV.cells)[j]? = if i * sz≤j∧j<i * sz+sz then e'.cells[j-i * sz]? else (l.flatMap AV.cells)[j]?:=by
 induction l generalizing i j with
 | nil=>simp at hi
 |
  cons x l ih =>
  have hx:=h x (List.mem_cons_self ..)
  cases i with
  |
   zero =>
   simp only [List.set_cons_zero,List.flatMap_cons,Nat.zero_mul,Nat.zero_le,true_and,Nat.zero_add,Nat.sub_zero]
   by_cases hj:j<sz
   · rw [if_pos hj,List.getElem?_append_left (by omega)]
   · rw [if_neg hj,List.getElem?_append_right (by omega),List.getElem?_append_right (by omega),he,hx]
  |
   succ i =>
   simp only [List.set_cons_succ,List.flatMap_cons]
   by_cases hj:j<sz
   · rw [List.getElem?_append_left (by omega),List.getElem?_append_left (by omega),if_neg]
     rw [Nat.succ_mul];omega
   · rw [List.getElem?_append_right (by omega),List.getElem?_append_right (by omega),hx,ih (fun y hy=>h y (List.mem_cons_of_mem _ hy)) (by simpa using hi)]
     rw [Nat.succ_mul]
     by_cases hc:i * sz≤j-sz∧j-sz<i * sz+sz
     · rw [if_pos hc,if_pos (by omega)];congr 1;omega
     · rw [if_neg hc,if_neg (by omega)]
theorem mem_set_elem {sz:Nat} {l:List AV} (h:∀ x∈l,x.cells.length=sz) {i:Nat} {e':AV} (he:e'.cells.length=sz):∀ x∈l.set i e',x.cells.length=sz:=by
 intro x hx
 rcases List.mem_or_eq_of_mem_set hx with hx | rfl
 · exact h x hx
 · exact he
theorem Rep.cells_one {v:AV} {c:Value} (h:Rep fz pl v c) (hv:v.okSt=true):∀ x∈v.cells,x.cells=[x]:=by
 obtain ⟨h1,h2,h3⟩:=h.cells hv
 intro x hx
 obtain ⟨i,hi⟩:=List.getElem?_of_mem hx
 have hl:i<c.cells.size:=by rw [← h1];exact (List.getElem?_eq_some_iff.1 hi).1
 have hc:c.cells[i]? = some c.cells[i]:=Array.getElem?_eq_getElem hl
 have hr:=h3 i x _ hi hc
 have ho:=h2 i _ hc
 cases x with
 | agg l=>obtain ⟨cs,e,_⟩:=hr.inv_agg;rw [e] at ho;simp [Value.oneCell'] at ho
 | dat ks vs=>cases hr with | frz h=>cases h
 | _=>rfl
theorem store_sound {P:Program} {t:TypeId} {n:Nat} (hn:BpZ P t=some n) {p x:AV} {cp cx:Value} (hS:Sim w0 pr fz pl bx w) (hp:Rep fz pl p cp) (hx:Rep fz pl x cx)
 {sz k i off:Nat} (hpe:p=.ptr sz k i off) (hok:x.okSt=true) (hxl:x.cells.length=n) {es:List AV} (hk:AeZ bx k=some (sz,es)) {e:AV} (he:es[i]? = some e) (hoff:off+n≤e.cells.length) :
 ∃ w',(Instr.storeAt t cp cx).run P w=.ok () w'∧Sim w0 pr fz pl (ArZ bx k (some (sz,es.set i (setE e off x.cells)))) w':=by
 subst hpe
 obtain ⟨b,m,rfl,hpk⟩:=hp.inv_ptr
 obtain ⟨x1,x2,x3⟩:=hx.cells hok
 rcases hS.box k sz es hk with (h1 | ⟨b',o',M⟩) | ⟨b',n',arr,e',B⟩
 · rw [h1.1] at hpk;cases hpk
 · obtain ⟨hec,rfl,rfl,hse⟩:=M.none_at he
   rw [hec] at hoff
   simp at hoff
   obtain ⟨rfl,rfl⟩:=hoff
   have hx0:x.cells=[]:=List.eq_nil_of_length_eq_zero hxl
   have hcs:cx.cells.size=0:=by omega
   have hcl:cx.cells.toList=[]:=List.eq_nil_of_length_eq_zero (by simpa using hcs)
   refine ⟨w,?_,?_⟩
   · unfold BpZ at hn
     cases hi:P.info? t with
     | none=>rw [hi] at hn;cases hn
     |
      some inf =>
      rw [hi] at hn
      simp only [Option.map_some,Option.some.injEq] at hn
      simp [Instr.storeAt,Instr.sureAddr,storeVar,sizeOf,typeInfo,hi,hcs,hn,hcl,storeCells]
   · have e1:([e]:List AV).set 0 (setE e 0 x.cells)=[e]:=by rw [hx0,hse];rfl
     rw [e1]
     have e2:ArZ bx k (some (sz,[e]))=bx:=by
      have hlt:=AoY hk
      rw [BrY] at hk
      rw [bxSet_eq]
      cases hb:bx[k]? with
      | none=>rw [hb] at hk;cases hk
      |
       some y =>
       rw [hb] at hk
       simp only [Option.getD_some] at hk
       subst hk
       apply List.ext_getElem?
       intro j
       rw [List.getElem?_set]
       split
       · rename_i hj;subst hj;rw [hb]
       · rfl
     rw [e2];exact hS
 · obtain ⟨rfl,rfl⟩:=B.unique hpk
   have hil:=(List.getElem?_eq_some_iff.1 he).1
   have hcl:e.cells.length=sz:=B.elem e (List.mem_of_getElem? he)
   have hfl:=AeX B.elem
   have hle:i * sz+sz≤es.length * sz:=by rw [← Nat.succ_mul];exact Nat.mul_le_mul_right _ hil
   have hfit:=B.fits
   have hsz:=B.size
   have hcs:cx.cells.size=n:=by omega
   have hrun:=run_storeCells_at (P:=P) b (i * sz+off) e' cx.cells.toList 0 arr w B.heap (by simp;omega) (fun v hv=>by
    obtain ⟨j,hj⟩:=List.getElem?_of_mem hv
    exact x2 j v (by simpa using hj))
   simp only [Nat.add_zero,Array.length_toList,hcs] at hrun
   have hcells:=setE_cells (e:=e) (off:=off) (cs:=x.cells) (by omega) (hx.cells_one hok)
   have hne:(setE e off x.cells).cells.length=sz:=by rw [hcells,BtY];exact hcl
   have hget:∀ (j:Nat),(arr.toList.take (i * sz+off)++cx.cells.toList++arr.toList.drop (i * sz+off+n)).toArray[j]? =
    if i * sz+off≤j∧j<i * sz+off+n then cx.cells[j-(i * sz+off)]? else arr[j]?:=by
    intro j
    simp only [List.getElem?_toArray,List.append_assoc]
    by_cases h1:j<i * sz+off
    · rw [List.getElem?_append_left (by simp;omega),if_neg (by omega),List.getElem?_take,if_pos h1];simp
    · rw [List.getElem?_append_right (by simp;omega)]
      simp only [List.length_take,Array.length_toList]
      rw [Nat.min_eq_left (by omega)]
      by_cases h2:j<i * sz+off+n
      · rw [List.getElem?_append_left (by simp;omega),if_pos (by omega)];simp
      · rw [List.getElem?_append_right (by simp;omega),if_neg (by omega),List.getElem?_drop]
        simp only [Array.length_toList,hcs,Array.getElem?_toList]
        congr 1;omega
   have key:∀ (j:Nat) v c,((es.set i (setE e off x.cells)).flatMap AV.cells)[j]? = some v →
    (arr.toList.take (i * sz+off)++cx.cells.toList++arr.toList.drop (i * sz+off+n)).toArray[j]? = some c→c.oneCell'=true∧Rep fz pl v c:=by
    intro j v c hv hc
    rw [flat_set B.elem hil hne,hcells] at hv
    rw [hget] at hc
    by_cases hin:i * sz+off≤j∧j<i * sz+off+n
    · rw [if_pos (by omega)] at hv
      rw [if_pos hin] at hc
      have:j-i * sz=off+(j-(i * sz+off)):=by omega
      rw [this,setCells_in _ _ _ _ (by omega) (by omega)] at hv
      exact ⟨x2 _ _ hc,x3 _ _ _ hv hc⟩
    · rw [if_neg hin] at hc
      have hv':(es.flatMap AV.cells)[j]? = some v:=by
       by_cases hel:i * sz≤j∧j<i * sz+sz
       · rw [if_pos hel,setCells_out _ _ _ _ (by omega)] at hv
         have:=flat_get B.elem he hv
         rwa [show i * sz+(j-i * sz)=j by omega] at this
       · rwa [if_neg hel] at hv
      exact ⟨B.one _ _ _ hv' hc,B.rep _ _ _ hv' hc⟩
   refine ⟨_,?_,hS.setRow hk B (arr':=(arr.toList.take (i * sz+off)++cx.cells.toList++arr.toList.drop (i * sz+off+n)).toArray) ?_ (mem_set_elem B.elem hne) ?_ (fun j v c hv hc=>(key j v c hv hc).1) (fun j v c hv hc=>(key j v c hv hc).2)⟩
   · unfold BpZ at hn
     cases hi:P.info? t with
     | none=>rw [hi] at hn;cases hn
     |
      some inf =>
      rw [hi] at hn
      simp only [Option.map_some,Option.some.injEq] at hn
      have:¬ (cx.cells.size≠inf.size):=by omega
      simp [Instr.storeAt,Instr.sureAddr,storeVar,sizeOf,typeInfo,hi,hcs,hn,hrun]
   · simp;omega
   · rw [AeX (mem_set_elem B.elem hne),List.length_set];omega
def elemsOf (bx:Bx) (sz:Nat):AV→Option (List AV)
 | .nils=>some []
 |
  .list s l=>match decide (s=sz) with
  | true=>some l
  | false=>none
 |
  .sl s k off n=>match decide (s=sz) with
  |
   true=>match AeZ bx k with
   |
    some (s',es)=>match decide (s'=sz),decide (off+n≤es.length) with
    | true,true=>some ((es.drop off).take n)
    | _,_=>none
   | none=>none
  | false=>none
 | _=>none
structure Holds (fz:Fz) (pl:Pl) (w:World) (sz:Nat) (es:List AV) (c:Value):Prop where
 elem:∀ x∈es,x.cells.length=sz
 cells:∃ (ao:Option Addr) (cap:Nat) (cs:List Value),c=.slice ao es.length cap∧cs.length=es.length * sz∧(∀ x∈cs,x.oneCell'=true) ∧
  (∀ (i:Nat) v x,(es.flatMap AV.cells)[i]? = some v→cs[i]? = some x→Rep fz pl v x) ∧
  ∀ (P:Program) (w':World),w'.heap=w.heap→(Builtin.firstCells sz es.length c).run P w'=.ok cs.toArray w'
theorem holds_row {sz:Nat} {es:List AV} {b o:Nat} {arr:Array Value} {e:TypeId} {fr:Nat × Nat} {cap:Nat} (hb:w.heap[b]? = some (.cells arr e fr)) (he:∀ x∈es,x.cells.length=sz)
 (hlen:o+es.length * sz≤arr.size) (h1:∀ (i:Nat) v c,(es.flatMap AV.cells)[i]? = some v→arr[o+i]? = some c→c.oneCell'=true)
 (h:∀ (i:Nat) v c,(es.flatMap AV.cells)[i]? = some v→arr[o+i]? = some c→Rep fz pl v c):Holds fz pl w sz es (.slice (some ⟨b,o,none⟩) es.length cap):=by
 have hfl:=AeX he
 have get:∀ (i:Nat) x,((arr.toList.drop o).take (es.length * sz))[i]? = some x→i<es.length * sz∧arr[o+i]? = some x:=by
  intro i x hx
  rw [List.getElem?_take] at hx
  by_cases hlt:i<es.length * sz
  · rw [if_pos hlt,List.getElem?_drop] at hx;exact ⟨hlt,by simpa using hx⟩
  · rw [if_neg hlt] at hx;cases hx
 refine ⟨he,_,cap,(arr.toList.drop o).take (es.length * sz),rfl,by simp;omega,?_,?_,?_⟩
 · intro x hx
   obtain ⟨i,hi⟩:=List.getElem?_of_mem hx
   obtain ⟨hlt,hi'⟩:=get i x hi
   exact h1 i _ x (List.getElem?_eq_getElem (by omega)) hi'
 · intro i v x hv hx
   exact h i v x hv (get i x hx).2
 · intro P w' hw
   refine run_firstCells_some (P:=P) w' sz es.length ⟨b,o,none⟩ es.length cap _ (by simp;omega) ?_
   intro j v hv
   rw [Addr.add_mid,cell_of_row w' b (o+j) arr e fr (by rw [hw];exact hb)]
   exact (get j v hv).2
theorem holds_none {sz:Nat} {c:Value} {ao:Option Addr} {cap:Nat} (h:c=.slice ao 0 cap):Holds fz pl w sz [] c:=by
 subst h
 refine ⟨by simp,ao,cap,[],rfl,by simp,by simp,by simp,?_⟩
 intro P w' _
 cases ao <;> simp [Builtin.firstCells,loadCells,loadCellsFrom]
theorem elemsOf_sound {sz:Nat} {x:AV} {c:Value} {es:List AV} (hS:Sim w0 pr fz pl bx w) (hx:Rep fz pl x c) (he:elemsOf bx sz x=some es):Holds fz pl w sz es c:=by
 unfold elemsOf at he
 split at he
 · injection he with he;subst he
   obtain ⟨ao,rfl⟩:=hx.inv_nils
   exact holds_none rfl
 · rename_i s l
   split at he
   · rename_i hd
     injection he with he;subst he
     have hs:s=sz:=of_decide_eq_true hd
     subst hs
     have hR:=hx.inv_list
     cases hR with
     |
      list _ _ b off arr e fr n cap hb hn hc hs hlen h1 h =>
      subst hn
      rw [AeX hs] at hlen
      exact holds_row (hS.frz _ _ hb) hs hlen h1 (fun i v c a d=>.frz (h i v c a d))
     | list0 _ ao cap=>exact holds_none rfl
   · cases he
 · rename_i s k off n
   split at he
   · rename_i hd
     have hs:s=sz:=of_decide_eq_true hd
     subst hs
     split at he
     · rename_i s' xs hk
       split at he
       · rename_i hd1 hd2
         have hs:s'=s:=of_decide_eq_true hd1
         subst hs
         have hle:off+n≤xs.length:=of_decide_eq_true hd2
         injection he with he;subst he
         have hlen:((xs.drop off).take n).length=n:=by simp;omega
         rcases hx.inv_sl with ⟨b,m,cap,rfl,hp,hc,hn⟩ | ⟨ao,rfl,rfl⟩
         · rcases hS.box k s' xs hk with (h1 | ⟨b',o',M⟩) | ⟨b',n',arr,e',B⟩
           · rw [h1.1] at hp;cases hp
           · have hc0:=M.cap0 hp hn
             subst hc0
             have:n=0:=by omega
             subst this
             simpa using holds_none (fz:=fz) (pl:=pl) (ao:=some ⟨b,off * s',none⟩) rfl
           · obtain ⟨rfl,rfl⟩:=B.unique hp
             have hel:∀ x∈(xs.drop off).take n,x.cells.length=s':=fun x hx=>B.elem x (List.mem_of_mem_drop (List.mem_of_mem_take hx))
             have hfl:=AeX B.elem
             have hfit:=B.fits
             have hsz:=B.size
             have hmul:off * s'+n * s'≤xs.length * s':=by rw [← Nat.add_mul];exact Nat.mul_le_mul_right _ hle
             have hsub:∀ (i:Nat) v,(((xs.drop off).take n).flatMap AV.cells)[i]? = some v→(xs.flatMap AV.cells)[off * s'+i]? = some v:=by
              intro i v hv
              by_cases hz:0<s'
              · obtain ⟨e,h1,h2⟩:=BcQ hel hv hz
                have hlt:=(List.getElem?_eq_some_iff.1 h1).1
                rw [hlen] at hlt
                rw [List.getElem?_take,if_pos hlt,List.getElem?_drop] at h1
                have:=flat_get B.elem h1 h2
                rw [Nat.add_mul,Nat.add_assoc] at this
                rwa [show i / s' * s'+i % s'=i by rw [Nat.mul_comm];exact Nat.div_add_mod i s'] at this
              · have h0:s'=0:=by omega
                have:=(List.getElem?_eq_some_iff.1 hv).1
                rw [AeX hel,h0] at this
                simp at this
             have:=holds_row (fz:=fz) (pl:=pl) (cap:=cap) B.heap hel (o:=off * s') (by rw [hlen];omega) (fun i v c a d=>B.one _ _ _ (hsub i v a) d) (fun i v c a d=>B.rep _ _ _ (hsub i v a) d)
             rwa [hlen] at this
         · simp;exact holds_none rfl
       · cases he
     · cases he
   · cases he
 · cases he
def appBase (bx:Bx) (sz:Nat):AV→Option (List AV × Option Nat)
 | .nils=>some ([],none)
 |
  .sl s k off n=>match decide (s=sz),decide (off=0) with
  |
   true,true=>match AeZ bx k with
   |
    some (s',es)=>match decide (s'=sz),decide (n=es.length) with
    | true,true=>some (es,some k)
    | _,_=>none
   | none=>none
  | _,_=>none
 | _=>none
def bxKill (bx:Bx):Option Nat→Bx
 | none=>bx
 | some k=>ArZ bx k none
theorem Sim.bxKill (h:Sim w0 pr fz pl bx w) (k:Option Nat):Sim w0 pr fz pl (bxKill bx k) w:=by
 cases k with
 | none=>exact h
 | some k=>exact h.kill k
theorem flat_append_elem {sz:Nat} {l r:List AV} (hl:∀ x∈l,x.cells.length=sz) (hr:∀ x∈r,x.cells.length=sz):∀ x∈l++r,x.cells.length=sz:=by
 intro x hx
 rcases List.mem_append.1 hx with hx | hx
 · exact hl x hx
 · exact hr x hx
theorem getElem?_cat {α:Type} (a b:List α) (i:Nat):(a++b)[i]? = if i<a.length then a[i]? else b[i-a.length]?:=by
 by_cases h:i<a.length
 · rw [if_pos h,List.getElem?_append_left h]
 · rw [if_neg h,List.getElem?_append_right (by omega)]
set_option maxHeartbeats 1000000 in
theorem app_sound {P:Program} {t u e e2:TypeId} {i:TypeInfo} {z:Value} (ht:elemB P t=some e) (hu:elemB P u=some e2) (hi:P.info? e=some i) (hz:i.zero=some z) (hzs:z.cells.size=i.size) (h0:0<i.size)
 {x y:AV} {cx cy:Value} (hS:Sim w0 pr fz pl bx w) (hx:Rep fz pl x cx) (hy:Rep fz pl y cy) {xs ys:List AV} {k:Option Nat} (hb:appBase bx i.size x=some (xs,k)) (he:elemsOf bx i.size y=some ys)
 (hlen:(xs.length+ys.length) * i.bytes≤140737488355328) (hmx:xs.length+ys.length≤maxLen) (ty:TypeId) :
 ∃ cv w' pl',(Builtin.append_ #[t,u] ty #[cx,cy]).run P w=.ok cv w'∧pl <+: pl'∧Rep fz pl' (.sl i.size bx.length 0 (xs.length+ys.length)) cv ∧
  Sim w0 pr fz pl' (bxKill bx k++[some (i.size,xs++ys)]) w':=by
 have hut:P.underlying t=some (.slice e):=by
  unfold elemB at ht
  split at ht
  · rename_i d hd;injection ht with ht;subst ht;exact hd
  · cases ht
 have huu:P.underlying u=some (.slice e2):=by
  unfold elemB at hu
  split at hu
  · rename_i d hd;injection hu with hu;subst hu;exact hd
  · cases hu
 obtain ⟨yel,ya,ycap,ycs,rfl,ycl,yone,yrep,yrun⟩:=elemsOf_sound hS hy he
 unfold maxLen at hmx
 have base:Holds fz pl w i.size xs cx∧((∃ b n cap,cx=.slice (some ⟨b,0,none⟩) xs.length cap∧∃ kk,k=some kk∧AeZ bx kk=some (i.size,xs)∧pl[kk]? = some (some (b,n))∧cap * i.size≤n)∨(∃ ao,cx=.slice ao 0 0∧xs=[])):=by
  unfold appBase at hb
  split at hb
  · injection hb with hb;injection hb with hb1 hb2;subst hb1;subst hb2
    obtain ⟨ao,rfl⟩:=hx.inv_nils
    exact ⟨holds_none rfl,.inr ⟨ao,rfl,rfl⟩⟩
  · rename_i s kk off n
    split at hb
    · rename_i hd1 hd2
      have hs:s=i.size:=of_decide_eq_true hd1
      have ho:off=0:=of_decide_eq_true hd2
      subst hs;subst ho
      split at hb
      · rename_i s' es hk
        split at hb
        · rename_i hd3 hd4
          have hs:s'=i.size:=of_decide_eq_true hd3
          have hn:n=es.length:=of_decide_eq_true hd4
          subst hs;subst hn
          injection hb with hb;injection hb with hb1 hb2;subst hb1;subst hb2
          refine ⟨?_,?_⟩
          · have:=elemsOf_sound (sz:=i.size) (es:=es) hS hx (by simp [elemsOf,hk])
            exact this
          · rcases hx.inv_sl with ⟨b,m,cap,rfl,hp,hc,hn⟩ | ⟨ao,rfl,hz⟩
            · exact .inl ⟨b,m,cap,by simp,kk,rfl,hk,hp,by omega⟩
            · exact .inr ⟨ao,rfl,List.eq_nil_of_length_eq_zero hz⟩
        · cases hb
      · cases hb
    · cases hb
  · cases hb
 obtain ⟨⟨xel,xa,xcap,xcs,rfl,xcl,xone,xrep,xrun⟩,base⟩:=base
 have hel:=flat_append_elem xel yel
 have hal:(xs++ys).length=xs.length+ys.length:=List.length_append
 have hfl:=AeX hel
 rw [hal] at hfl
 have hxl:=AeX xel
 have hyl:=AeX yel
 have both:∀ (j:Nat) v c,((xs++ys).flatMap AV.cells)[j]? = some v→(xcs++ycs)[j]? = some c→c.oneCell'=true∧Rep fz pl v c:=by
  intro j v c hv hc
  rw [List.flatMap_append,getElem?_cat] at hv
  rw [getElem?_cat] at hc
  by_cases hj:j<xcs.length
  · rw [if_pos (by omega)] at hv
    rw [if_pos hj] at hc
    exact ⟨xone _ (List.mem_of_getElem? hc),xrep _ _ _ hv hc⟩
  · rw [if_neg (by omega)] at hv
    rw [if_neg hj] at hc
    rw [show j-(xs.flatMap AV.cells).length=j-xcs.length by omega] at hv
    exact ⟨yone _ (List.mem_of_getElem? hc),yrep _ _ _ hv hc⟩
 have hmul:(xs.length+ys.length) * i.size=xs.length * i.size+ys.length * i.size:=Nat.add_mul ..
 by_cases hroom:xs.length+ys.length≤xcap
 · rcases base with ⟨b,n,cap,hcx,kk,rfl,hk,hp,hcap⟩ | ⟨ao,hcx,rfl⟩
   · -- in place
     injection hcx with e1 e2 e3
     subst e1;subst e3
     rcases hS.box kk i.size xs hk with (h1 | ⟨b',o',M⟩) | ⟨b',n',arr,e',B⟩
     · rw [h1.1] at hp;cases hp
     · have hc0:=M.cap0 (off:=0) (cap:=xcap) hp (by omega)
       subst hc0
       have hn0:xs=[]:=List.eq_nil_of_length_eq_zero (by omega)
       subst hn0
       have hy0:ys=[]:=by simpa using hroom
       subst hy0
       have hyc0:ycs=[]:=List.eq_nil_of_length_eq_zero (by simpa using ycl)
       subst hyc0
       have hf:=yrun P w rfl
       have hrun:(Builtin.append_ #[t,u] ty #[.slice (some ⟨b,0,none⟩) ([]:List AV).length 0,.slice ya ([]:List AV).length ycap]).run P w=.ok (.slice (some ⟨b,0,none⟩) 0 0) w:=by
        simp only [List.length_nil] at hf ⊢
        simp [Builtin.append_,run_underlying hut,run_underlying huu,sizeOf,typeInfo,hi,Builtin.lenOf,hf,storeCells]
       have S1:=hS.moved hk hp
       exact ⟨_,_,_,hrun,List.prefix_append _ _,by simpa using Rep.sl0 i.size bx.length 0 _,by simpa [bxKill] using S1⟩
     · obtain ⟨rfl,rfl⟩:=B.unique hp
       have hsz:=B.size
       have hcm:(xs.length+ys.length) * i.size≤xcap * i.size:=Nat.mul_le_mul_right _ hroom
       have hst:=run_storeCells_at (P:=P) b (xs.length * i.size) e' ycs 0 arr w B.heap (by simp only [Nat.add_zero];omega) yone
       simp only [Nat.add_zero] at hst
       have hrun:(Builtin.append_ #[t,u] ty #[.slice (some ⟨b,0,none⟩) xs.length xcap,.slice ya ys.length ycap]).run P w =
        .ok (.slice (some ⟨b,0,none⟩) (xs.length+ys.length) xcap) (w.setRow b (arr.toList.take (xs.length * i.size)++ycs++arr.toList.drop (xs.length * i.size+ycs.length)).toArray):=by
        have hf:=yrun P w rfl
        simp [Builtin.append_,run_underlying hut,run_underlying huu,sizeOf,typeInfo,hi,Builtin.lenOf,hroom,hf,Addr.add_lit,hst]
       have hget:∀ (j:Nat),j<(xs.length+ys.length) * i.size→(arr.toList.take (xs.length * i.size)++ycs++arr.toList.drop (xs.length * i.size+ycs.length)).toArray[j]? = if j<xs.length * i.size then arr[j]? else ycs[j-xs.length * i.size]?:=by
        intro j hj
        simp only [List.getElem?_toArray,List.append_assoc]
        by_cases h1:j<xs.length * i.size
        · rw [List.getElem?_append_left (by simp;omega),if_pos h1,List.getElem?_take,if_pos h1];simp
        · rw [List.getElem?_append_right (by simp;omega),if_neg h1]
          simp only [List.length_take,Array.length_toList]
          rw [Nat.min_eq_left (by omega),List.getElem?_append_left (by omega)]
       have key:∀ (j:Nat) v c,((xs++ys).flatMap AV.cells)[j]? = some v→(arr.toList.take (xs.length * i.size)++ycs++arr.toList.drop (xs.length * i.size+ycs.length)).toArray[j]? = some c→c.oneCell'=true∧Rep fz pl v c:=by
        intro j v c hv hc
        have hjl:=(List.getElem?_eq_some_iff.1 hv).1
        rw [hget j (by omega)] at hc
        rw [List.flatMap_append,getElem?_cat] at hv
        by_cases hj:j<xs.length * i.size
        · rw [if_pos (by omega)] at hv
          rw [if_pos hj] at hc
          exact ⟨B.one _ _ _ hv hc,B.rep _ _ _ hv hc⟩
        · rw [if_neg (by omega)] at hv
          rw [if_neg hj] at hc
          rw [hxl] at hv
          exact ⟨yone _ (List.mem_of_getElem? hc),yrep _ _ _ hv hc⟩
       have S1:=hS.setRow hk B (es':=xs++ys) (arr':=(arr.toList.take (xs.length * i.size)++ycs++arr.toList.drop (xs.length * i.size+ycs.length)).toArray) (by simp;omega) hel (by omega)
        (fun j v c a d=>(key j v c a d).1) (fun j v c a d=>(key j v c a d).2)
       have S2:=S1.moved (k:=kk) (sz:=i.size) (es:=xs++ys) (by rw [AjZ (AoY hk)]) hp
       have hbb:ArZ (ArZ bx kk (some (i.size,xs++ys))) kk none=ArZ bx kk none:=by simp [bxSet_eq]
       rw [hbb] at S2
       refine ⟨_,_,_,hrun,List.prefix_append _ _,?_,S2⟩
       have hpn:(pl++[some (b,n)])[bx.length]? = some (some (b,n)):=by rw [← hS.len];simp
       have:=Rep.sl (fz:=fz) i.size bx.length 0 (xs.length+ys.length) b n xcap hpn hroom (by omega)
       simpa using this
   · -- nothing
     injection hcx with e1 e2 e3
     subst e1;subst e3
     have hy0:ys=[]:=by simpa using hroom
     subst hy0
     have hyc0:ycs=[]:=List.eq_nil_of_length_eq_zero (by simpa using ycl)
     subst hyc0
     have hf:=yrun P w rfl
     have hrun:(Builtin.append_ #[t,u] ty #[.slice xa ([]:List AV).length 0,.slice ya ([]:List AV).length ycap]).run P w=.ok (.slice xa 0 0) w:=by
      simp only [List.length_nil] at hf ⊢
      cases xa with
      | none=>simp [Builtin.append_,run_underlying hut,run_underlying huu,sizeOf,typeInfo,hi,Builtin.lenOf,hf]
      | some a=>simp [Builtin.append_,run_underlying hut,run_underlying huu,sizeOf,typeInfo,hi,Builtin.lenOf,hf,storeCells]
     have S1:=(hS.bxKill k).hollow i.size
     exact ⟨_,_,_,hrun,List.prefix_append _ _,by simpa using Rep.sl0 i.size bx.length 0 xa,by simpa using S1⟩
 · -- a new row
   have hgt:xcap<xs.length+ys.length:=by omega
   have h63:¬ (9223372036854775807<((xs.length:Int)+(ys.length:Int))):=by omega
   have h48:¬ (281474976710656<Builtin.nextslicecap (xs.length+ys.length) xcap * i.bytes):=by
    have:=growslice_fits (bytes:=i.bytes) hgt hlen
    omega
   have hfx:=xrun P w.drew rfl
   have hfy:=yrun P w.drew rfl
   have hroom':¬ (xs.length+ys.length≤xcap):=hroom
   have hrun:(Builtin.append_ #[t,u] ty #[.slice xa xs.length xcap,.slice ya ys.length ycap]).run P w =
    .ok (.slice (some ⟨w.heap.size,0,none⟩) (xs.length+ys.length) (grownCap w (xs.length+ys.length) xcap e))
     (w.drew.alloc (.cells (xcs.toArray++ycs.toArray++Builtin.zeroCells z.cells (grownCap w (xs.length+ys.length) xcap e-(xs.length+ys.length))) e)):=by
    simp [Builtin.append_,run_underlying hut,run_underlying huu,sizeOf,typeInfo,zeroValue,hi,hz,Builtin.lenOf,hroom',h63,h48,Question.forced,hfx,hfy,newRow,grownCap]
    congr 2
    apply Array.ext'
    simp [List.append_assoc]
   have hcap:=grownCap_ge w (xs.length+ys.length) xcap e
   have hsz:(xcs.toArray++ycs.toArray++Builtin.zeroCells z.cells (grownCap w (xs.length+ys.length) xcap e-(xs.length+ys.length))).size=grownCap w (xs.length+ys.length) xcap e * i.size:=by
    simp only [Array.size_append,List.size_toArray,size_zeroCells,hzs,xcl,ycl,← Nat.add_mul]
    congr 1;omega
   have get:∀ (j:Nat),j<(xs.length+ys.length) * i.size→(xcs.toArray++ycs.toArray++Builtin.zeroCells z.cells (grownCap w (xs.length+ys.length) xcap e-(xs.length+ys.length)))[j]? = (xcs++ycs)[j]?:=by
    intro j hj
    rw [Array.getElem?_append_left (by simp;omega)]
    simp [getElem?_cat]
   have S1:=(hS.bxKill k).drew.alloc_box i.size (xs++ys) (xcs.toArray++ycs.toArray++Builtin.zeroCells z.cells (grownCap w (xs.length+ys.length) xcap e-(xs.length+ys.length))) e hel
    (by rw [hsz,hfl];exact Nat.mul_le_mul_right _ hcap)
    (fun j v c a d=>by
     have hjl:=(List.getElem?_eq_some_iff.1 a).1
     rw [get j (by omega)] at d;exact (both j v c a d).1)
    (fun j v c a d=>by
     have hjl:=(List.getElem?_eq_some_iff.1 a).1
     rw [get j (by omega)] at d;exact (both j v c a d).2)
   refine ⟨_,_,_,hrun,List.prefix_append _ _,?_,S1⟩
   have hpn:(pl++[some (w.drew.heap.size,(xcs.toArray++ycs.toArray++Builtin.zeroCells z.cells (grownCap w (xs.length+ys.length) xcap e-(xs.length+ys.length))).size)])[bx.length]? = some (some (w.heap.size,grownCap w (xs.length+ys.length) xcap e * i.size)):=by
    rw [← hS.len,hsz];simp
   have:=Rep.sl (fz:=fz) i.size bx.length 0 (xs.length+ys.length) w.heap.size _ (grownCap w (xs.length+ys.length) xcap e) hpn hcap (by omega)
   simpa using this
end
end Go.Proofs.YtcmphhedaefcgaaGreatDoor.Av
namespace Go.Proofs.YtcmphhedaefcgaaGreatDoor.Av
section
variable {w0:World} {pr fz:Fz} {pl:Pl} {bx:Bx} {w:World} {P:Program}
def Yld (P:Program) (w0:World) (pr fz:Fz) (pl:Pl) (bx':Bx) (v:AV) (o:Oper) (a:Act) (w:World):Prop :=
 ∃ cv w' fz' pl',((execOp a.eval o).run P w=.ok (.value cv) w'∨((execOp a.eval o).run P w=.ok .skip w'∧cv=undef))∧FzLe fz fz'∧pl <+: pl'∧Rep fz' pl' v cv∧Sim w0 pr fz' pl' bx' w'
theorem Yld.same {v:AV} {o:Oper} {a:Act} {cv:Value} (hS:Sim w0 pr fz pl bx w) (h:(execOp a.eval o).run P w=.ok (.value cv) w) (hr:Rep fz pl v cv):Yld P w0 pr fz pl bx v o a w :=
 ⟨cv,w,fz,pl,.inl h,.refl _,List.prefix_refl _,hr,hS⟩
theorem natOf_some {v:AV} {n:Nat} (h:v.natOf=some n):∃ k z,v=.int k z∧0≤z∧z.toNat=n:=by
 unfold AV.natOf at h
 split at h
 · rename_i k z
   split at h
   · rename_i hd;injection h with h;exact ⟨k,z,rfl,of_decide_eq_true hd,h⟩
   · cases h
 · cases h
theorem evBin_sound {op:BinOp} {x y v:AV} {cx cy:Value} (hx:Rep fz pl x cx) (hy:Rep fz pl y cy) (hv:evBin op x y=some v) (t:TypeId) (ox oy:Operand) :
 ∃ cv,(do eqGuard op t ox oy cx cy;binOp op t cx cy:Sem Value).run P w=.ok cv w∧Rep fz pl v cv:=by
 unfold evBin at hv
 split at hv
 · rename_i k a k' b
   rw [hx.inv_int,hy.inv_int]
   have hg:eqGuard op t ox oy (.int k a) (.int k' b)=pure ():=by unfold eqGuard;cases op <;> rfl
   rw [hg]
   split at hv
   · cases hv
   · rename_i hk
     have hk:k=k':=of_decide_eq_true hk
     subst hk
     split at hv <;> first
      | (injection hv with hv;subst hv;refine ⟨_,by simp [binOp,Op.intArith,Op.intCmp];rfl,.frz ?_⟩;constructor;done)
      | (
       split at hv
       · cases hv
       · rename_i hb
         have hb:¬ b=0:=by simpa using hb
         injection hv with hv;subst hv;refine ⟨_,by simp [binOp,Op.intDiv,hb];rfl,.frz ?_⟩;constructor)
      | (
       split at hv
       · rename_i hb
         have hb:b=1:=by simpa using hb
         subst hb
         injection hv with hv;subst hv
         have hm:(2:Int) ^ (min (Int.toNat 1) k.bits)=2:=by
          cases k <;> rfl
         refine ⟨_,by simp only [binOp,Op.shift,hm];rfl,.frz ?_⟩;constructor
       · cases hv)
      | (
       injection hv with hv;subst hv
       first
        | (refine ⟨.bool (a == b),by simp [binOp,Op.intCmp],?_⟩;rw [show decide (a=b)=(a == b) from rfl];exact .frz (.bool _))
        | (refine ⟨.bool (a != b),by simp [binOp,Op.intCmp],?_⟩;rw [show decide (a≠b)=(a != b) by simp [bne,BEq.beq]];exact .frz (.bool _)))
      | cases hv
 · rename_i a b
   rw [hx.inv_str,hy.inv_str]
   have hg:eqGuard op t ox oy (.string a) (.string b)=pure ():=by unfold eqGuard;cases op <;> rfl
   rw [hg]
   split at hv
   · injection hv with hv;subst hv;exact ⟨_,by simp only [binOp,Op.stringOp,Sem.run_bind,Sem.run_pure,Result.andThen_ok],.frz (.bool _)⟩
   · injection hv with hv;subst hv;exact ⟨_,by simp only [binOp,Op.stringOp,Sem.run_bind,Sem.run_pure,Result.andThen_ok],.frz (.bool _)⟩
   · split at hv
     · rename_i hd
       injection hv with hv;subst hv
       have hd:a.size+b.size≤9223372036854775807:=of_decide_eq_true hd
       have h0:¬ (((a.size+b.size:Nat):Int) > IntKind.i64.max):=by
        have:IntKind.i64.max=9223372036854775807:=by decide
        omega
       exact ⟨_,by simp only [binOp,Op.stringOp,Sem.run_bind,Sem.run_pure,Result.andThen_ok,if_neg h0],.frz (.str _)⟩
     · cases hv
   · cases hv
 · cases hv
theorem eqFields_sound:∀ (fs:List Field) (o:Nat),intsB P o fs=true→∀ (l r:List AV) (xs ys:Array Value) (b:Bool) (d:Nat) (w:World),
 l.length=xs.size→r.length=ys.size→(∀ (i:Nat) v c,l[i]? = some v→xs[i]? = some c→Rep fz pl v c)→(∀ (i:Nat) v c,r[i]? = some v→ys[i]? = some c→Rep fz pl v c) →
 l.length=o+fs.length→eqInts (l.drop o) (r.drop o)=some b→(Op.eqFields (d+1) xs ys fs).run P w=.ok b w
 |
  [],o,_,l,r,xs,ys,b,d,w,hl,hr,h1,h2,hlen,he=>by
  have:l.drop o=[]:=List.drop_eq_nil_of_le (by simp at hlen;omega)
  rw [this] at he
  cases hrd:r.drop o with
  | nil=>rw [hrd] at he;simp [eqInts] at he;subst he;simp [Op.eqFields]
  | cons x t=>rw [hrd] at he;simp [eqInts] at he
 |
  f::fs,o,hi,l,r,xs,ys,b,d,w,hl,hr,h1,h2,hlen,he=>by
  simp only [intsB,Bool.and_eq_true,decide_eq_true_eq] at hi
  obtain ⟨⟨⟨ho,hn⟩,ht⟩,hi⟩:=hi
  have hol:o<l.length:=by simp at hlen;omega
  have hld:l.drop o=l[o]::l.drop (o+1):=List.drop_eq_getElem_cons hol
  rw [hld] at he
  have hkt:∃ k,P.underlying f.type=some (.int k):=by
   split at ht
   · exact ⟨_,by assumption⟩
   · cases ht
  obtain ⟨kt,hkt⟩:=hkt
  by_cases hor:o<r.length
  · have hrd:r.drop o=r[o]::r.drop (o+1):=List.drop_eq_getElem_cons hor
    rw [hrd] at he
    have g1:l[o]? = some l[o]:=List.getElem?_eq_getElem hol
    have g2:r[o]? = some r[o]:=List.getElem?_eq_getElem hor
    have c1:xs[o]? = some xs[o]:=Array.getElem?_eq_getElem (by omega)
    have c2:ys[o]? = some ys[o]:=Array.getElem?_eq_getElem (by omega)
    have r1:=h1 o _ _ g1 c1
    have r2:=h2 o _ _ g2 c2
    generalize l[o]=u at he r1 g1
    generalize r[o]=v at he r2 g2
    unfold eqInts at he
    split at he
    · rename_i heq _;cases heq
    · rename_i k a l' k' b' r' heq1 heq2
      injection heq1 with e1 e2;subst e1;subst e2
      injection heq2 with e1 e2;subst e1;subst e2
      split at he
      · cases he
      · rename_i hk
        have hk:k=k':=of_decide_eq_true hk
        subst hk
        split at he
        · rename_i c hc
          injection he with he
          have ih:=eqFields_sound fs (o+1) hi l r xs ys c d w hl hr h1 h2 (by simp at hlen;omega) hc
          have e1:=r1.inv_int
          have e2:=r2.inv_int
          have hagg:(isAgg f.type).run P w=.ok false w:=by
           unfold isAgg
           rw [Sem.run_bind,run_underlying hkt w];rfl
          rw [e1] at c1
          rw [e2] at c2
          subst ho
          have p1:(part f.type xs f.offset).run P w=.ok (.int k a) w:=by simp [part,hagg,c1]
          have p2:(part f.type ys f.offset).run P w=.ok (.int k b') w:=by simp [part,hagg,c2]
          have p3:(Op.equalIn (d+1) f.type (.int k a) (.int k b')).run P w=.ok (a == b') w:=by simp [Op.equalIn,run_underlying hkt]
          simp only [Op.eqFields,if_pos hn,Sem.run_bind,p1,p2,p3,Result.andThen_ok]
          by_cases hab:a=b'
          · subst hab
            simp only [beq_self_eq_true,Bool.not_true,Bool.false_eq_true,if_false]
            rw [ih];subst he;simp
          · have:(a == b')=false:=by simpa using hab
            subst he
            simp [this,hab]
        · cases he
    · cases he
  · have hrd:r.drop o=[]:=List.drop_eq_nil_of_le (by omega)
    rw [hrd] at he
    generalize l[o]=u at he
    cases u <;> simp [eqInts] at he
theorem eqs_sound {t:TypeId} {fs:Array Field} (ht:P.underlying t=some (.struct fs)) (hi:intsB P 0 fs.toList=true) (hp:P.stoodInHeld t=false) (hg:P.eqGuardType P.depth t=false) {l r:List AV} {b:Bool} {cx cy:Value}
 (hx:Rep fz pl (.agg l) cx) (hy:Rep fz pl (.agg r) cy) (hl:l.length=fs.size) (he:eqInts l r=some b) (ox oy:Operand) :
 (do eqGuard .eql t ox oy cx cy;binOp .eql t cx cy:Sem Value).run P w=.ok (.bool b) w∧(do eqGuard .neq t ox oy cx cy;binOp .neq t cx cy:Sem Value).run P w=.ok (.bool (!b)) w:=by
 obtain ⟨xs,rfl,x1,x2,x3⟩:=hx.inv_agg
 obtain ⟨ys,rfl,y1,y2,y3⟩:=hy.inv_agg
 have hfo:P.fieldsOf t=fs:=by simp [Program.fieldsOf,ht]
 have hrun:=eqFields_sound (P:=P) fs.toList 0 hi l r xs ys b 9998 w x1 y1 x3 y3 (by simpa using hl) he
 have hst:(Op.equalIn 10000 t (.agg xs) (.agg ys)).run P w=.ok b w:=by
  rw [show (10000:Nat)=9999+1 from rfl,run_equalIn_struct w 9999 t xs ys (by rw [hfo];exact ht) hp,hfo]
  exact hrun
 have g:∀ op,(op=.eql∨op=.neq)→(eqGuard op t ox oy (.agg xs) (.agg ys)).run P w=.ok () w:=by
  intro op ho
  rcases ho with rfl | rfl <;> simp [eqGuard,hg]
 constructor
 · simp only [Sem.run_bind,g .eql (.inl rfl),Result.andThen_ok,run_eql_struct,hst]
 · simp only [Sem.run_bind,g .neq (.inr rfl),Result.andThen_ok,run_neq_struct,hst]
theorem maxA_sound:∀ (l:List AV) (x v:AV),maxA x l=some v→x.isInt=true→∀ (c:Value) (cs:List Value),Rep fz pl x c→l.length=cs.length→(∀ (i:Nat) y z,l[i]? = some y→cs[i]? = some z→Rep fz pl y z) →
 ∃ cv,(cs.foldlM Builtin.max2 c).run P w=.ok cv w∧Rep fz pl v cv
 |
  [],x,v,hv,hi,c,cs,hc,hl,h=>by
  have:cs=[]:=List.eq_nil_of_length_eq_zero (by simpa using hl.symm)
  subst this
  cases x <;> simp [AV.isInt] at hi
  simp [maxA] at hv;subst hv
  exact ⟨c,by simp,hc⟩
 |
  y::l,x,v,hv,hi,c,cs,hc,hl,h=>by
  cases x <;> simp [AV.isInt] at hi
  rename_i k a
  cases cs with
  | nil=>simp at hl
  |
   cons d cs =>
   have hd:=h 0 y d (by simp) (by simp)
   cases y <;> simp only [maxA] at hv <;> first | (cases hv;done) | skip
   rename_i k' b
   split at hv
   · rename_i hk
     have hk:k=k':=of_decide_eq_true hk
     subst hk
     rw [hc.inv_int,hd.inv_int]
     have hm:(Builtin.max2 (.int k a) (.int k b)).run P w=.ok (.int k (max a b)) w:=by
      simp only [Builtin.max2,Sem.run_pure]
      congr 2
      rw [Int.max_def];split <;> split <;> omega
     obtain ⟨cv,h1,h2⟩:=maxA_sound l (.int k (max a b)) v hv rfl (.int k (max a b)) cs (.frz (.int _ _)) (by simpa using hl) (fun i y z a b=>h (i+1) y z (by simpa using a) (by simpa using b))
     exact ⟨cv,by simp only [List.foldlM_cons,Sem.run_bind,hm,Result.andThen_ok];exact h1,h2⟩
   · cases hv
theorem minA_sound:∀ (l:List AV) (x v:AV),minA x l=some v→x.isInt=true→∀ (c:Value) (cs:List Value),Rep fz pl x c→l.length=cs.length→(∀ (i:Nat) y z,l[i]? = some y→cs[i]? = some z→Rep fz pl y z) →
 ∃ cv,(cs.foldlM Builtin.min2 c).run P w=.ok cv w∧Rep fz pl v cv
 |
  [],x,v,hv,hi,c,cs,hc,hl,h=>by
  have:cs=[]:=List.eq_nil_of_length_eq_zero (by simpa using hl.symm)
  subst this
  cases x <;> simp [AV.isInt] at hi
  simp [minA] at hv;subst hv
  exact ⟨c,by simp,hc⟩
 |
  y::l,x,v,hv,hi,c,cs,hc,hl,h=>by
  cases x <;> simp [AV.isInt] at hi
  rename_i k a
  cases cs with
  | nil=>simp at hl
  |
   cons d cs =>
   have hd:=h 0 y d (by simp) (by simp)
   cases y <;> simp only [minA] at hv <;> first | (cases hv;done) | skip
   rename_i k' b
   split at hv
   · rename_i hk
     have hk:k=k':=of_decide_eq_true hk
     subst hk
     rw [hc.inv_int,hd.inv_int]
     have hm:(Builtin.min2 (.int k a) (.int k b)).run P w=.ok (.int k (min a b)) w:=by
      simp only [Builtin.min2,Sem.run_pure]
      congr 2
      rw [Int.min_def];split <;> split <;> omega
     obtain ⟨cv,h1,h2⟩:=minA_sound l (.int k (min a b)) v hv rfl (.int k (min a b)) cs (.frz (.int _ _)) (by simpa using hl) (fun i y z a b=>h (i+1) y z (by simpa using a) (by simpa using b))
     exact ⟨cv,by simp only [List.foldlM_cons,Sem.run_bind,hm,Result.andThen_ok];exact h1,h2⟩
   · cases hv
def OptRep (fz:Fz) (pl:Pl):Option AV→Option Value→Prop
 | some v,some c=>Rep fz pl v c
 | none,none=>True
 | _,_=>False
theorem bound_run {v:AV} {c:Value} {n m:Nat} {code:BoundsCode} (hc:Rep fz pl v c) (hv:v.natOf=some n) (hm:n≤m):(Instr.sliceBound c m code).run P w=.ok n w:=by
 obtain ⟨k,z,rfl,h0,rfl⟩:=natOf_some hv
 rw [hc.inv_int]
 have:0≤z∧z≤(m:Int):=⟨h0,by omega⟩
 simp [Instr.sliceBound,asIntOf,this]
theorem bounds_run {fl:Bool} {lo hi:Option AV} {clo chi:Option Value} (hlo:OptRep fz pl lo clo)
 (hhi:OptRep fz pl hi chi) {len cap a b:Nat}
 (ha:natO 0 lo=some a) (hb:natO len hi=some b) (hab:a≤b) (hbc:b≤cap) :
 (Instr.sliceBounds fl len cap clo chi none).run P w=.ok (a,b,cap) w:=by
 have h1:(match chi,(none:Option Value) with
  | some v,some _=>Instr.sliceBound v cap .slice3B
  | some v,none=>Instr.sliceBound v cap (if fl=true then .sliceAcap else .sliceAlen)
  | none,none=>pure len
  | none, some _ => stuck "Slice: max without high").run P w = .ok b w := by
  cases hi with
  |
   none=>cases chi with
   | none=>simp [natO] at hb;subst hb;rfl
   | some c=>exact hhi.elim
  |
   some v=>cases chi with
   | none=>exact hhi.elim
   | some c=>exact bound_run hhi hb hbc
 have h2:∀ code,(match clo with
  | some v=>Instr.sliceBound v b code
  | none=>pure 0).run P w=.ok a w:=by
  intro code
  cases lo with
  |
   none=>cases clo with
   | none=>simp [natO] at ha;subst ha;rfl
   | some c=>exact hlo.elim
  |
   some v=>cases clo with
   | none=>exact hlo.elim
   | some c=>exact bound_run hlo ha hab
 unfold Instr.sliceBounds
 simp only [Sem.run_bind,Sem.run_pure,Result.andThen_ok]
 cases fl <;> cases chi <;> cases clo <;> simp_all
theorem evSlc_sound {t e:TypeId} {sz:Nat} (ht:P.underlying t=some (.slice e)) (hz:BpZ P e=some sz) {x v:AV} {cx:Value} {lo hi:Option AV} {clo chi:Option Value} (hx:Rep fz pl x cx)
 (hlo:OptRep fz pl lo clo)
 (hhi:OptRep fz pl hi chi) (hv:evSlc sz x lo hi=some v) :
 ∃ cv,(Instr.sliceAt t cx clo chi none).run P w=.ok cv w∧Rep fz pl v cv:=by
 have hsz:(sizeOf e).run P w=.ok sz w:=by
  unfold BpZ at hz
  cases hi:P.info? e with
  | none=>rw [hi] at hz;cases hz
  | some i=>rw [hi] at hz;simp at hz;simp [sizeOf,typeInfo,hi,hz]
 have run:∀ (ao:Option Addr) (len cap a b:Nat),natO 0 lo=some a→natO len hi=some b→a≤b→b≤cap →
  (Instr.sliceAt t (.slice ao len cap) clo chi none).run P w=.ok (.slice (if cap=a then ao else ao.map (·.add (a * sz))) (b-a) (cap-a)) w:=by
  intro ao len cap a b ha hb hab hbc
  have:=bounds_run (fl:=true) (P:=P) (w:=w) hlo hhi ha hb hab hbc
  simp [Instr.sliceAt,Instr.slice,run_underlying ht,this,hsz]
 unfold evSlc at hv
 split at hv
 · rename_i s l
   split at hv
   · rename_i a b hd ha hb
     have hs:s=sz:=of_decide_eq_true hd
     subst hs
     split at hv
     · rename_i h1 h2
       have hab:a≤b:=of_decide_eq_true h1
       have hbl:b≤l.length:=of_decide_eq_true h2
       injection hv with hv;subst hv
       have hll:((l.take b).drop a).length=b-a:=by simp;omega
       have hR:=hx.inv_list
       cases hR with
       |
        list _ _ bb off arr e' fr n cap hb' hn hc hs hlen h1 h =>
        subst hn
        refine ⟨_,run _ _ _ a b ha hb hab (by omega),?_⟩
        by_cases hca:cap=a
        · have:b-a=0:=by omega
          have hnil:(l.take b).drop a=[]:=List.eq_nil_of_length_eq_zero (by omega)
          rw [hnil,this]
          exact .frz (.list0 _ _ _)
        · rw [if_neg hca,Option.map_some,Addr.add_mid]
          have hsub:∀ x∈(l.take b).drop a,x.cells.length=s:=fun x hx=>hs x (List.mem_of_mem_take (List.mem_of_mem_drop hx))
          have hfl:=AeX hs
          have hmul:b * s≤l.length * s:=Nat.mul_le_mul_right _ hbl
          have hmul2:a * s+(b-a) * s=b * s:=by rw [← Nat.add_mul];congr 1;omega
          have get:∀ (i:Nat) v,(((l.take b).drop a).flatMap AV.cells)[i]? = some v→(l.flatMap AV.cells)[a * s+i]? = some v:=by
           intro i v hv
           by_cases hz:0<s
           · obtain ⟨x,g1,g2⟩:=BcQ hsub hv hz
             rw [List.getElem?_drop] at g1
             have hlt:a+i / s<b:=by
              have:=(List.getElem?_eq_some_iff.1 g1).1;simp at this;omega
             rw [List.getElem?_take,if_pos hlt] at g1
             have:=flat_get hs g1 g2
             rw [Nat.add_mul,Nat.add_assoc] at this
             rwa [show i / s * s+i % s=i by rw [Nat.mul_comm];exact Nat.div_add_mod i s] at this
           · have h0:s=0:=by omega
             have:=(List.getElem?_eq_some_iff.1 hv).1
             rw [AeX hsub,h0] at this
             simp at this
          refine .frz (.list _ _ bb (off+a * s) arr e' fr (b-a) (cap-a) hb' hll.symm (by omega) hsub (by rw [AeX hsub,hll];omega) ?_ ?_)
          · intro i v c hv hc
            exact h1 _ _ _ (get i v hv) (by rw [← Nat.add_assoc];exact hc)
          · intro i v c hv hc
            exact h _ _ _ (get i v hv) (by rw [← Nat.add_assoc];exact hc)
       |
        list0 _ ao cap =>
        simp at hbl
        have h0:b=0∧a=0:=by omega
        obtain ⟨rfl,rfl⟩:=h0
        exact ⟨_,run _ _ _ 0 0 ha hb (by omega) (by omega),by simpa using .frz (.list0 s _ _)⟩
     · cases hv
   · cases hv
 · rename_i s k off n
   split at hv
   · rename_i a b hd ha hb
     have hs:s=sz:=of_decide_eq_true hd
     subst hs
     split at hv
     · rename_i h1 h2
       have hab:a≤b:=of_decide_eq_true h1
       have hbl:b≤n:=of_decide_eq_true h2
       injection hv with hv;subst hv
       rcases hx.inv_sl with ⟨bb,m,cap,rfl,hp,hc,hn⟩ | ⟨ao,rfl,rfl⟩
       · refine ⟨_,run _ _ _ a b ha hb hab (by omega),?_⟩
         by_cases hca:cap=a
         · have h0:b-a=0:=by omega
           have h1:cap-a=0:=by omega
           rw [h0,h1]
           exact .sl0 _ _ _ _
         · rw [if_neg hca,Option.map_some,Addr.add_mid,← Nat.add_mul]
           have:(off+a) * s+(cap-a) * s=off * s+cap * s:=by rw [← Nat.add_mul,← Nat.add_mul];congr 1;omega
           exact .sl s k (off+a) (b-a) bb m (cap-a) hp (by omega) (by omega)
       · have h0:b=0∧a=0:=by omega
         obtain ⟨rfl,rfl⟩:=h0
         exact ⟨_,run _ _ _ 0 0 ha hb (by omega) (by omega),by simpa using .sl0 s k off ao⟩
     · cases hv
   · cases hv
 · obtain ⟨ao,rfl⟩:=hx.inv_nils
   split at hv
   · rename_i ha hb
     injection hv with hv;subst hv
     exact ⟨_,run ao 0 0 0 0 ha hb (by omega) (by omega),by simpa using .frz (.nils ao)⟩
   · cases hv
 · cases hv
end
end Go.Proofs.YtcmphhedaefcgaaGreatDoor.Av
namespace Go.Proofs.YtcmphhedaefcgaaGreatDoor.Av
def OpR (op:AOp AV) (bx:Bx) (v:AV) (bx':Bx):Prop :=
 match op with
 | .load a n x=>BhZ bx a n x=some v∧bx'=bx
 | .mgetv tk ok z x k=>evMap bx tk ok z x k=some v∧bx'=bx
 | .alloc .. | .box .. | .store .. | .bslm .. | .clr .. | .mkm | .mset .. | .clrm .. | .mkv | .mputv ..=>evW bx op=some (v,bx')
 | .app sz by_ x y=>∃ xs k ys,appBase bx sz x=some (xs,k)∧elemsOf bx sz y=some ys∧(xs.length+ys.length) * by_≤140737488355328∧xs.length+ys.length≤maxLen ∧
  v=.sl sz bx.length 0 (xs.length+ys.length)∧bx'=bxKill bx k++[some (sz,xs++ys)]
 | .mks sz by_ z n c=>∃ k k' m,n=.int k m∧c=.int k' m∧0≤m∧(by_:Int) * m≤281474976710656∧m≤9223372036854775807 ∧
  v=.sl sz bx.length 0 m.toNat∧bx'=bx++[some (sz,List.replicate m.toNat z)]
 | .isnil .. | .call .. | .callv .. | .callm .. | .callo ..=>False
 | _=>evP op=some v∧bx'=bx
section
variable {w0:World} {pr fz:Fz} {pl:Pl} {bx:Bx} {w:World} {P:Program}
theorem places_run:∀ {fs:List Field} {ps:List (Nat × Nat)},places P fs=some ps→(fs.mapM fun f=>do pure (f.offset,← sizeOf f.type):Sem (List (Nat × Nat))).run P w=.ok ps w
 | [],ps,h=>by simp [places] at h;subst h;simp
 |
  f::fs,ps,h=>by
  simp only [places] at h
  split at h
  · rename_i n r hn hr
    injection h with h;subst h
    have ih:=places_run hr
    have hsz:(sizeOf f.type).run P w=.ok n w:=by
     unfold BpZ at hn
     cases hi:P.info? f.type with
     | none=>rw [hi] at hn;cases hn
     | some i=>rw [hi] at hn;simp at hn;simp [sizeOf,typeInfo,hi,hn]
    rw [List.mapM_cons]
    simp only [Sem.run_bind,hsz,Sem.run_pure,Result.andThen_ok]
    rw [ih];rfl
  · cases h
theorem fill_ext {p q:Nat→Option (Nat × Nat)} (h:∀ i x,p i=some x→q i=some x):∀ {ps:List (Nat × Value)} {cs r:Array Value},Instr.fill p cs ps=some r→Instr.fill q cs ps=some r
 | [],cs,r,hf=>hf
 |
  (i,v)::ps,cs,r,hf=>by
  unfold Instr.fill at hf ⊢
  cases hp:p i with
  | none=>simp [hp] at hf
  |
   some x =>
   obtain ⟨off,n⟩:=x
   simp only [hp,h i _ hp] at hf ⊢
   split at hf
   · cases hf
   · rename_i hc
     rw [if_neg hc]
     exact fill_ext h hf
theorem fill_sound {l:List AV} {a:Act} (hT:RepT fz pl l a) {pls:List (Nat × Nat)}:∀ {ps:List (Nat × Operand)} {qs:List (Nat × Nat × AOpd)} (z r:List AV) (cells:Array Value),partsB pls ps=some qs →
 fillA z (qs.map fun p=>(p.1,p.2.1,p.2.2.ev l))=some r→z.length=cells.size→(∀ (i:Nat) c,cells[i]? = some c→c.oneCell'=true)→(∀ (i:Nat) v c,z[i]? = some v→cells[i]? = some c→Rep fz pl v c) →
 ∃ cs,Instr.fill (pls.toArray[·]?) cells (ps.map fun p=>(p.1,a.eval p.2))=some cs∧r.length=cs.size∧(∀ (i:Nat) c,cs[i]? = some c→c.oneCell'=true)∧(∀ (i:Nat) v c,r[i]? = some v→cs[i]? = some c→Rep fz pl v c)
 |
  [],qs,z,r,cells,hp,hf,hl,h1,h=>by
  simp [partsB] at hp;subst hp
  simp [fillA] at hf;subst hf
  exact ⟨cells,rfl,hl,h1,h⟩
 |
  (i,x)::ps,qs,z,r,cells,hp,hf,hl,h1,h=>by
  simp only [partsB] at hp
  split at hp
  · rename_i o n y rr ho hy hr
    injection hp with hp;subst hp
    simp only [List.map_cons,fillA] at hf
    split at hf
    · rename_i hd
      simp only [Bool.and_eq_true,decide_eq_true_eq] at hd
      obtain ⟨⟨hok,hcl⟩,hfit⟩:=hd
      have hR:=AgQ hT hy
      obtain ⟨c1,c2,c3⟩:=hR.cells hok
      obtain ⟨g1,g2⟩:=Great.foldl_set o (a.eval x).cells.toList 0 cells
      have hz:=BtY z o (y.ev l).cells
      have step:∀ (j:Nat) c,(((a.eval x).cells.toList.zipIdx 0).foldl (fun cs (x:Value × Nat)=>cs.setIfInBounds (o+x.2) x.1) cells)[j]? = some c →
       (if o≤j∧j<o+n then (a.eval x).cells[j-o]? else cells[j]?)=some c:=by
       intro j c hc
       rw [g2 j] at hc
       simp only [Nat.add_zero,Array.length_toList] at hc
       by_cases hin:o≤j∧j<o+n
       · rw [if_pos hin]
         rw [if_pos (by omega)] at hc
         simpa using hc
       · rw [if_neg hin]
         rwa [if_neg (by omega)] at hc
      obtain ⟨cs,k1,k2,k3,k4⟩:=fill_sound hT (AmY z o (y.ev l).cells) r (((a.eval x).cells.toList.zipIdx 0).foldl (fun cs (x:Value × Nat)=>cs.setIfInBounds (o+x.2) x.1) cells) hr hf
       (by rw [hz,g1];exact hl)
       (fun j c hc=>by
        have:=step j c hc
        by_cases hin:o≤j∧j<o+n
        · rw [if_pos hin] at this;exact c2 _ _ this
        · rw [if_neg hin] at this;exact h1 _ _ this)
       (fun j v c hv hc=>by
        have:=step j c hc
        by_cases hin:o≤j∧j<o+n
        · rw [if_pos hin] at this
          rw [show j=o+(j-o) by omega,setCells_in _ _ _ _ (by omega) (by omega)] at hv
          exact c3 _ _ _ hv this
        · rw [if_neg hin] at this
          rw [setCells_out _ _ _ _ (by omega)] at hv
          exact h _ _ _ hv this)
      refine ⟨cs,?_,k2,k3,k4⟩
      simp only [List.map_cons,Instr.fill]
      rw [show pls.toArray[i]? = pls[i]? by simp,ho]
      simp only
      have hne:¬ (((a.eval x).cells.size≠n || decide (o+(a.eval x).cells.size > cells.size))=true):=by simp;omega
      rw [if_neg hne,← k1]
      congr 1
      rw [← Array.foldl_toList,Array.toList_zipIdx]
    · cases hf
  · cases hp
theorem rowB_eq:∀ {k:Nat} {ps:List (Nat × Operand)} {xs:List Operand},rowB k ps=some xs→ps=(xs.zipIdx k).map fun x=>(x.2,x.1)
 | k,[],xs,h=>by simp [rowB] at h;subst h;simp
 |
  k,(i,x)::l,xs,h=>by
  simp only [rowB] at h
  split at h
  · rename_i r hd hr
    injection h with h;subst h
    have:i=k:=of_decide_eq_true hd
    subst this
    simp [rowB_eq hr]
  · cases h
theorem okElems_spec:∀ {sz:Nat} {xs:List AV},okElems sz xs=true→∀ x∈xs,x.okSt=true∧x.flat=true∧x.cells.length=sz
 | sz,[],_,x,hx=>by simp at hx
 |
  sz,y::l,h,x,hx=>by
  simp only [okElems,Bool.and_eq_true,decide_eq_true_eq] at h
  rcases List.mem_cons.1 hx with rfl | hx
  · exact ⟨h.1.1.1,h.1.1.2,h.1.2⟩
  · exact okElems_spec h.2 x hx
theorem BgQ:∀ {l:List AV},BdX l=true→∀ x∈l,x.flat=true
 | [],_,x,hx=>by simp at hx
 |
  y::l,h,x,hx=>by
  simp only [BdX,Bool.and_eq_true] at h
  rcases List.mem_cons.1 hx with rfl | hx
  · exact h.1
  · exact BgQ h.2 x hx
theorem Rep.flat {v:AV} {c:Value} (h:Rep fz pl v c):v.flat=true→RepF fz v c:=by
 induction h with
 | frz h=>intro _;exact h
 | fn f l cs hl h ih=>intro hf;exact .fn f l cs hl fun i v c a b=>ih i v c a b (BgQ (by simpa [AV.flat] using hf) v (List.mem_of_getElem? a))
 | fb f l cs hl h ih=>intro hf;exact .fb f l cs hl fun i v c a b=>ih i v c a b (BgQ (by simpa [AV.flat] using hf) v (List.mem_of_getElem? a))
 | agg l cs hl h1 h ih=>intro hf;exact .agg l cs hl h1 fun i v c a b=>ih i v c a b (BgQ (by simpa [AV.flat] using hf) v (List.mem_of_getElem? a))
 | tuple l cs hl h ih=>intro hf;exact .tuple l cs hl fun i v c a b=>ih i v c a b (BgQ (by simpa [AV.flat] using hf) v (List.mem_of_getElem? a))
 | ptr=>intro hf;simp [AV.flat] at hf
 | sl=>intro hf;simp [AV.flat] at hf
 | sl0=>intro hf;simp [AV.flat] at hf
 | mp=>intro hf;simp [AV.flat] at hf
theorem cells_flat {v:AV} (h:v.flat=true):∀ x∈v.cells,x.flat=true:=by
 cases v with
 | agg l=>exact BgQ (l:=l) (by simpa [AV.flat] using h)
 | dat ks vs=>intro x hx;cases hx
 | _=>intro x hx;simp [AV.cells] at hx;subst hx;exact h
theorem bslice_sound {t e:TypeId} {n len:Nat} {ps:Array (Nat × Operand)} {z:Value} {i:TypeInfo} (ht:P.underlying t=some (.slice e)) (hi:P.info? e=some i) (hz:i.zero=some z) (hn:i.size=n) {l:List AV} {a:Act}
 (hT:RepT fz pl l a) {xs:List Operand} {ys:List AOpd} (hp:rowB 0 ps.toList=some xs) (hy:cOs xs=some ys) (hlen:len=ps.size) (hzs:z.cells.size=n) (h24:len * n≤2 ^ 24) (h0:0<n)
 (hS:Sim w0 pr fz pl bx w) (hok:okElems n (ys.map (·.ev l))=true) :
 ∃ cv w' fz',(Instr.buildSlice t len (ps.map fun (i,x)=>(i,a.eval x))).run P w=.ok cv w'∧FzLe fz fz'∧Rep fz' pl (match ys.map (·.ev l) with | []=>.nils | x::r=>.list n (x::r)) cv∧Sim w0 pr fz' pl bx w':=by
 obtain ⟨o1,o2⟩:=cOs_rep hT hy
 have hok':=okElems_spec hok
 generalize hvs:ys.map (·.ev l)=vs at o1 o2 hok' ⊢
 have hps:=rowB_eq hp
 have hxl:len=xs.length:=by rw [hlen,← Array.length_toList,hps];simp
 let cs:=xs.map a.eval
 have hcs:∀ (j:Nat) v c,vs[j]? = some v→cs[j]? = some c→v.cells.length=c.cells.size∧(∀ (i:Nat) y,c.cells[i]? = some y→y.oneCell'=true)∧∀ (i:Nat) x y,v.cells[i]? = some x→c.cells[i]? = some y→RepF fz x y:=by
  intro j v c hv hc
  have hc':∃ x,xs[j]? = some x∧a.eval x=c:=by
   simp only [cs,List.getElem?_map] at hc
   cases hx:xs[j]? with
   | none=>rw [hx] at hc;cases hc
   | some x=>rw [hx] at hc;simp at hc;exact ⟨x,rfl,hc⟩
  obtain ⟨x,hx,rfl⟩:=hc'
  obtain ⟨k1,k2,k3⟩:=(o2 j v x hv hx).cells (hok' v (List.mem_of_getElem? hv)).1
  exact ⟨k1,k2,fun i x y a b=>(k3 i x y a b).flat (cells_flat (hok' v (List.mem_of_getElem? hv)).2.1 x (List.mem_of_getElem? a))⟩
 have hsz:∀ c∈cs,c.cells.size=n:=by
  intro c hc
  obtain ⟨j,hj⟩:=List.getElem?_of_mem hc
  have hjl:j<vs.length:=by
   have:=(List.getElem?_eq_some_iff.1 hj).1
   simp only [cs,List.length_map] at this;omega
  have hv:vs[j]? = some vs[j]:=List.getElem?_eq_getElem hjl
  have:=(hcs j _ c hv hj).1
  rw [← this];exact (hok' _ (List.getElem_mem hjl)).2.2
 have hparts:(ps.map fun (i,x)=>(i,a.eval x)).toList=(cs.zipIdx 0).map fun x=>(x.2,x.1):=by
  rw [Array.toList_map,hps]
  simp only [cs,List.map_map,List.zipIdx_map]
  rfl
 have hfill:=Great.fill_whole h0 cs ((Array.range (len * n)).map (z.cells[· % z.cells.size]!)) hsz (by simp [cs,hxl])
 rw [← hparts] at hfill
 have hrun:(Instr.buildSlice t len (ps.map fun (i,x)=>(i,a.eval x))).run P w=.ok (.slice (some ⟨w.heap.size,0,none⟩) len len) (w.alloc (.cells (cs.flatMap fun v=>v.cells.toList).toArray e)):=by
  have h24':¬ (16777216<len * n):=by omega
  by_cases hl0:len * n=0
  · have hfill0:Instr.fill (fun i=>some (i * n,n)) ((Array.range (len * n)).map ((#[]:Array Value)[· % (#[]:Array Value).size]!)) (ps.map fun (i,x)=>(i,a.eval x)).toList=some (cs.flatMap fun v=>v.cells.toList).toArray:=by
     rw [← hfill];congr 1;simp [hl0]
    simp [Instr.buildSlice,run_underlying ht,sizeOf,typeInfo,hi,hn,hl0,newRow] at hfill0 ⊢
    simp [hfill0]
  · simp [Instr.buildSlice,run_underlying ht,sizeOf,typeInfo,hi,hn,h24',hl0,zeroValue,hz,newRow] at hfill ⊢
    simp [hfill]
 obtain ⟨S1,le⟩:=hS.alloc_frozen (.cells (cs.flatMap fun v=>v.cells.toList).toArray e)
 refine ⟨_,_,_,hrun,le,?_,S1⟩
 cases vs with
 |
  nil =>
  have:len=0:=by rw [hxl,← o1];rfl
  subst this
  exact .frz (.nils _)
 |
  cons v0 vr =>
  have hcells:∀ (j:Nat) v c,(((v0::vr).flatMap AV.cells)[j]? = some v)→(cs.flatMap fun v=>v.cells.toList).toArray[0+j]? = some c→c.oneCell'=true∧RepF fz v c:=by
   intro j v c hv hc
   have hel:∀ x∈(v0::vr),x.cells.length=n:=fun x hx=>(hok' x hx).2.2
   obtain ⟨e1,g1,g2⟩:=BcQ hel hv h0
   simp only [List.getElem?_toArray,Nat.zero_add] at hc
   rw [Great.flat_get h0 cs hsz j] at hc
   cases hcj:cs[j / n]? with
   | none=>rw [hcj] at hc;cases hc
   |
    some c1 =>
    rw [hcj] at hc
    simp only [Option.bind_some] at hc
    obtain ⟨k1,k2,k3⟩:=hcs _ _ _ g1 hcj
    exact ⟨k2 _ _ hc,k3 _ _ _ g2 hc⟩
  have hel:∀ x∈(v0::vr),x.cells.length=n:=fun x hx=>(hok' x hx).2.2
  have hsl:(cs.flatMap fun v=>v.cells.toList).length=len * n:=by
   have:=Great.fill_whole h0 cs (Array.replicate (len * n) (.bool true)) hsz (by simp [cs,hxl])
   obtain ⟨r,hr,hs,_⟩:=Great.fill_dense h0 cs 0 (Array.replicate (len * n) (.bool true)) hsz (by simp [cs,hxl])
   rw [this] at hr
   injection hr with hr
   rw [← hr] at hs
   simpa using hs
  refine .frz (.list n (v0::vr) w.heap.size 0 _ e (0,0) len len (by simp) (by omega) (Nat.le_refl _) hel ?_ (fun j v c a b=>(hcells j v c a b).1) (fun j v c a b=>((hcells j v c a b).2).mono le))
  rw [AeX hel]
  simp only [List.size_toArray,hsl]
  rw [hxl,← o1];simp
theorem bslm_sound {t e:TypeId} {n len:Nat} {ps:Array (Nat × Operand)} {z:Value} {i:TypeInfo} (ht:P.underlying t=some (.slice e)) (hi:P.info? e=some i) (hz:i.zero=some z) (hn:i.size=n) {l:List AV} {a:Act}
 (hT:RepT fz pl l a) {xs:List Operand} {ys:List AOpd} (hp:rowB 0 ps.toList=some xs) (hy:cOs xs=some ys) (hlen:len=ps.size) (hzs:z.cells.size=n) (h24:len * n≤2 ^ 24) (h0:0<n)
 (hS:Sim w0 pr fz pl bx w) (hok':∀ x∈ys.map (·.ev l),x.okSt=true∧x.cells.length=n) :
 ∃ cv w' pl',(Instr.buildSlice t len (ps.map fun (i,x)=>(i,a.eval x))).run P w=.ok cv w'∧pl <+: pl'∧Rep fz pl' (.sl n bx.length 0 (ys.map (·.ev l)).length) cv∧Sim w0 pr fz pl' (bx++[some (n,ys.map (·.ev l))]) w':=by
 obtain ⟨o1,o2⟩:=cOs_rep hT hy
 generalize hvs:ys.map (·.ev l)=vs at o1 o2 hok' ⊢
 have hps:=rowB_eq hp
 have hxl:len=xs.length:=by rw [hlen,← Array.length_toList,hps];simp
 let cs:=xs.map a.eval
 have hcs:∀ (j:Nat) v c,vs[j]? = some v→cs[j]? = some c→v.cells.length=c.cells.size∧(∀ (i:Nat) y,c.cells[i]? = some y→y.oneCell'=true)∧∀ (i:Nat) x y,v.cells[i]? = some x→c.cells[i]? = some y→Rep fz pl x y:=by
  intro j v c hv hc
  have hc':∃ x,xs[j]? = some x∧a.eval x=c:=by
   simp only [cs,List.getElem?_map] at hc
   cases hx:xs[j]? with
   | none=>rw [hx] at hc;cases hc
   | some x=>rw [hx] at hc;simp at hc;exact ⟨x,rfl,hc⟩
  obtain ⟨x,hx,rfl⟩:=hc'
  exact (o2 j v x hv hx).cells (hok' v (List.mem_of_getElem? hv)).1
 have hsz:∀ c∈cs,c.cells.size=n:=by
  intro c hc
  obtain ⟨j,hj⟩:=List.getElem?_of_mem hc
  have hjl:j<vs.length:=by
   have:=(List.getElem?_eq_some_iff.1 hj).1
   simp only [cs,List.length_map] at this;omega
  have hv:vs[j]? = some vs[j]:=List.getElem?_eq_getElem hjl
  have:=(hcs j _ c hv hj).1
  rw [← this];exact (hok' _ (List.getElem_mem hjl)).2
 have hparts:(ps.map fun (i,x)=>(i,a.eval x)).toList=(cs.zipIdx 0).map fun x=>(x.2,x.1):=by
  rw [Array.toList_map,hps]
  simp only [cs,List.map_map,List.zipIdx_map]
  rfl
 have hfill:=Great.fill_whole h0 cs ((Array.range (len * n)).map (z.cells[· % z.cells.size]!)) hsz (by simp [cs,hxl])
 rw [← hparts] at hfill
 have hrun:(Instr.buildSlice t len (ps.map fun (i,x)=>(i,a.eval x))).run P w=.ok (.slice (some ⟨w.heap.size,0,none⟩) len len) (w.alloc (.cells (cs.flatMap fun v=>v.cells.toList).toArray e)):=by
  have h24':¬ (16777216<len * n):=by omega
  by_cases hl0:len * n=0
  · have hfill0:Instr.fill (fun i=>some (i * n,n)) ((Array.range (len * n)).map ((#[]:Array Value)[· % (#[]:Array Value).size]!)) (ps.map fun (i,x)=>(i,a.eval x)).toList=some (cs.flatMap fun v=>v.cells.toList).toArray:=by
     rw [← hfill];congr 1;simp [hl0]
    simp [Instr.buildSlice,run_underlying ht,sizeOf,typeInfo,hi,hn,hl0,newRow] at hfill0 ⊢
    simp [hfill0]
  · simp [Instr.buildSlice,run_underlying ht,sizeOf,typeInfo,hi,hn,h24',hl0,zeroValue,hz,newRow] at hfill ⊢
    simp [hfill]
 have hel:∀ x∈vs,x.cells.length=n:=fun x hx=>(hok' x hx).2
 have hsl:(cs.flatMap fun v=>v.cells.toList).length=len * n:=by
  have:=Great.fill_whole h0 cs (Array.replicate (len * n) (.bool true)) hsz (by simp [cs,hxl])
  obtain ⟨r,hr,hs,_⟩:=Great.fill_dense h0 cs 0 (Array.replicate (len * n) (.bool true)) hsz (by simp [cs,hxl])
  rw [this] at hr
  injection hr with hr
  rw [← hr] at hs
  simpa using hs
 have hcells:∀ (j:Nat) v c,((vs.flatMap AV.cells)[j]? = some v)→(cs.flatMap fun v=>v.cells.toList).toArray[j]? = some c→c.oneCell'=true∧Rep fz pl v c:=by
  intro j v c hv hc
  obtain ⟨e1,g1,g2⟩:=BcQ hel hv h0
  simp only [List.getElem?_toArray] at hc
  rw [Great.flat_get h0 cs hsz j] at hc
  cases hcj:cs[j / n]? with
  | none=>rw [hcj] at hc;cases hc
  |
   some c1 =>
   rw [hcj] at hc
   simp only [Option.bind_some] at hc
   obtain ⟨k1,k2,k3⟩:=hcs _ _ _ g1 hcj
   exact ⟨k2 _ _ hc,k3 _ _ _ g2 hc⟩
 have hvl:vs.length=len:=by rw [o1,hxl]
 have S1:=hS.alloc_box n vs (cs.flatMap fun v=>v.cells.toList).toArray e hel (by rw [AeX hel,hvl,List.size_toArray,hsl];exact Nat.le_refl _) (fun j v c x y=>(hcells j v c x y).1) (fun j v c x y=>(hcells j v c x y).2)
 refine ⟨_,_,_,hrun,List.prefix_append _ _,?_,S1⟩
 have:=Rep.sl (fz:=fz) (pl:=pl++[some (w.heap.size,(cs.flatMap fun v=>v.cells.toList).toArray.size)]) n bx.length 0 len w.heap.size (cs.flatMap fun v=>v.cells.toList).toArray.size len (by rw [← hS.len];simp) (Nat.le_refl _) (by rw [List.size_toArray,hsl];simp)
 rw [hvl]
 simpa using this
def rowV (sz:Nat):List AV→AV
 | []=>.nils
 | v::r=>.list sz (v::r)
theorem appf_sound {t u e e2:TypeId} {i:TypeInfo} {z:Value} (ht:elemB P t=some e) (hu:elemB P u=some e2) (hi:P.info? e=some i) (hz:i.zero=some z) (hzs:z.cells.size=i.size) (h0:0<i.size)
 {y:AV} {cx cy:Value} (hS:Sim w0 pr fz pl bx w) (hx:Rep fz pl .nils cx) (hy:Rep fz pl y cy) {ys:List AV} (he:elemsOf bx i.size y=some ys) (hfl:BdX ys=true)
 (hlen:ys.length * i.bytes≤140737488355328) (hmx:ys.length≤maxLen) (ty:TypeId) :
 ∃ cv w' fz',(Builtin.append_ #[t,u] ty #[cx,cy]).run P w=.ok cv w'∧FzLe fz fz'∧RepF fz' (rowV i.size ys) cv∧Sim w0 pr fz' pl bx w':=by
 have hut:P.underlying t=some (.slice e):=by
  unfold elemB at ht
  split at ht
  · rename_i d hd;injection ht with ht;subst ht;exact hd
  · cases ht
 have huu:P.underlying u=some (.slice e2):=by
  unfold elemB at hu
  split at hu
  · rename_i d hd;injection hu with hu;subst hu;exact hd
  · cases hu
 obtain ⟨yel,ya,ycap,ycs,rfl,ycl,yone,yrep,yrun⟩:=elemsOf_sound hS hy he
 unfold maxLen at hmx
 obtain ⟨xa,rfl⟩:=hx.inv_nils
 cases ys with
 |
  nil =>
  have hyc0:ycs=[]:=List.eq_nil_of_length_eq_zero (by simpa using ycl)
  subst hyc0
  have hf:=yrun P w rfl
  have hrun:(Builtin.append_ #[t,u] ty #[.slice xa 0 0,.slice ya ([]:List AV).length ycap]).run P w=.ok (.slice xa 0 0) w:=by
   simp only [List.length_nil] at hf ⊢
   cases xa with
   | none=>simp [Builtin.append_,run_underlying hut,run_underlying huu,sizeOf,typeInfo,hi,Builtin.lenOf,hf]
   | some a=>simp [Builtin.append_,run_underlying hut,run_underlying huu,sizeOf,typeInfo,hi,Builtin.lenOf,hf,storeCells]
  exact ⟨_,_,fz,hrun,.refl _,.nils _,hS⟩
 |
  cons v0 vr =>
  generalize hvs:v0::vr=ys at *
  have hpos:0<ys.length:=by rw [← hvs];simp
  have h63:¬ (9223372036854775807<(ys.length:Int)):=by omega
  have h48:¬ (281474976710656<Builtin.nextslicecap ys.length 0 * i.bytes):=by
   have:=growslice_fits (bytes:=i.bytes) hpos hlen
   omega
  have hfy:=yrun P w.drew rfl
  have hroom':¬ (ys.length≤0):=by omega
  have hne:¬ ys=[]:=by intro h;rw [h] at hpos;simp at hpos
  have hrun:(Builtin.append_ #[t,u] ty #[.slice xa 0 0,.slice ya ys.length ycap]).run P w =
   .ok (.slice (some ⟨w.heap.size,0,none⟩) ys.length (grownCap w ys.length 0 e))
    (w.drew.alloc (.cells (ycs.toArray++Builtin.zeroCells z.cells (grownCap w ys.length 0 e-ys.length)) e)):=by
   have hfx0:(Builtin.firstCells i.size 0 (.slice xa 0 0)).run P w.drew=.ok #[] w.drew:=by
    have:=(holds_none (fz:=fz) (pl:=pl) (w:=w) (sz:=i.size) (c:=.slice xa 0 0) (ao:=xa) (cap:=0) rfl).cells
    obtain ⟨ao,cap,cs,e1,e2,_,_,e5⟩:=this
    have e6:cs=[]:=List.eq_nil_of_length_eq_zero (by simpa using e2)
    subst e6
    exact e5 P w.drew rfl
   simp [Builtin.append_,run_underlying hut,run_underlying huu,sizeOf,typeInfo,zeroValue,hi,hz,Builtin.lenOf,hroom',hne,h63,h48,Question.forced,hfx0,hfy,newRow,grownCap]
  have hcap:=grownCap_ge w ys.length 0 e
  obtain ⟨S1,le⟩:=hS.drew.alloc_frozen (.cells (ycs.toArray++Builtin.zeroCells z.cells (grownCap w ys.length 0 e-ys.length)) e)
  have hyl:=AeX yel
  refine ⟨_,_,_,hrun,le,?_,S1⟩
  have get:∀ (j:Nat),j<ys.length * i.size→(ycs.toArray++Builtin.zeroCells z.cells (grownCap w ys.length 0 e-ys.length))[0+j]? = ycs[j]?:=by
   intro j hj
   rw [Nat.zero_add,Array.getElem?_append_left (by simp;omega)]
   simp
  have r:RepF (fun b=>if b=w.drew.heap.size then some (.cells (ycs.toArray++Builtin.zeroCells z.cells (grownCap w ys.length 0 e-ys.length)) e) else fz b) (.list i.size ys) (.slice (some ⟨w.heap.size,0,none⟩) ys.length (grownCap w ys.length 0 e)):=by
   refine .list i.size ys w.heap.size 0 _ e (0,0) ys.length _ (if_pos rfl) rfl hcap yel ?_ ?_ ?_
   · rw [hyl];simp only [Array.size_append,List.size_toArray,ycl];omega
   · intro j v c a b
     have hj:=(List.getElem?_eq_some_iff.1 a).1
     rw [get j (by omega)] at b
     exact yone _ (List.mem_of_getElem? b)
   · intro j v c a b
     have hj:=(List.getElem?_eq_some_iff.1 a).1
     rw [get j (by omega)] at b
     refine ((yrep j v c a b).flat ?_).mono le
     obtain ⟨q,g1,g2⟩:=BcQ yel a h0
     exact cells_flat (BgQ hfl q (List.mem_of_getElem? g1)) v (List.mem_of_getElem? g2)
  have e0:rowV i.size ys=.list i.size ys:=by rw [← hvs];rfl
  rw [e0]
  exact r
theorem clr_sound {t e:TypeId} {n:Nat} {z:Value} {i:TypeInfo} {zs:List AV} (ht:elemB P t=some e) (hi:P.info? e=some i) (hz:i.zero=some z) (hn:i.size=n) (hzl:leafs z.cells.toList=some zs) (hzs:z.cells.size=n)
 {s k off m:Nat} {es:List AV} {cx:Value} (hS:Sim w0 pr fz pl bx w) (hx:Rep fz pl (.sl n k off m) cx) (hk:AeZ bx k=some (n,es)) (ty:TypeId) :
 ∃ w',(Builtin.clear_ #[t] ty #[cx]).run P w=.ok (.tuple #[]) w'∧Sim w0 pr fz pl (ArZ bx k (some (n,es.take off))) w':=by
 have hut:P.underlying t=some (.slice e):=by
  unfold elemB at ht
  split at ht
  · rename_i d hd;injection ht with ht;subst ht;exact hd
  · cases ht
 have tk:∀ (j:Nat) v,((es.take off).flatMap AV.cells)[j]? = some v→(es.flatMap AV.cells)[j]? = some v:=by
  intro j v hv
  have e1:es.flatMap AV.cells=(es.take off).flatMap AV.cells++(es.drop off).flatMap AV.cells:=by rw [← List.flatMap_append,List.take_append_drop]
  rw [e1,List.getElem?_append_left (List.getElem?_eq_some_iff.1 hv).1]
  exact hv
 have weak:Sim w0 pr fz pl (ArZ bx k (some (n,es.take off))) w:=by
  refine ⟨hS.lay,hS.os,hS.tape,hS.output,hS.size,hS.frz,hS.prt,hS.dis,by rw [AmQ];exact hS.len,?_,?_⟩
  · intro j q xs hj
    by_cases hkj:k=j
    · subst hkj
      rw [AjZ (AoY hk)] at hj
      injection hj with hj;injection hj with e1 e2;subst e1;subst e2
      rcases hS.box k n es hk with (⟨a1,a2⟩ | ⟨b,o,M⟩) | ⟨b,n',arr,e',B⟩
      · exact .inl (.inl ⟨a1,by rw [a2];simp⟩)
      · exact .inl (.inr ⟨b,o,{ M with cont:=by rcases M.nil with q | q | ⟨_,_,q⟩ <;> (have hM:=M.cont;rw [q] at hM ⊢;cases off <;> simp only [List.take_nil,List.take_zero,List.take_succ_cons] <;> first | exact hM | exact hM.empty) }⟩)
      · have hel:∀ x∈es.take off,x.cells.length=n:=fun x hx=>B.elem x (List.mem_of_mem_take hx)
        refine .inr ⟨b,n',arr,e',{ B with elem:=hel,fits:=?_,one:=fun j v c a d=>B.one j v c (tk j v a) d,rep:=fun j v c a d=>B.rep j v c (tk j v a) d }⟩
        have h1:=B.fits
        rw [AeX B.elem] at h1
        rw [AeX hel,List.length_take]
        exact Nat.le_trans (Nat.mul_le_mul_right _ (Nat.min_le_right _ _)) h1
    · rw [AiX hkj] at hj
      exact hS.box j q xs hj
  · have key:∀ {i z},AeZ (ArZ bx k (some (n,es.take off))) i=some z→∃ z',AeZ bx i=some z':=by
     intro i z hi
     by_cases hki:k=i
     · subst hki;exact ⟨_,hk⟩
     · rw [AiX hki] at hi;exact ⟨_,hi⟩
    intro j j' x y b1 n1 n2 hj hj' p1 p2
    obtain ⟨_,k1⟩:=key hj
    obtain ⟨_,k2⟩:=key hj'
    exact hS.inj j j' _ _ b1 n1 n2 k1 k2 p1 p2
 have zero:∀ ao,cx=.slice ao 0 0∨(∃ c,cx=.slice ao 0 c)→∃ w',(Builtin.clear_ #[t] ty #[cx]).run P w=.ok (.tuple #[]) w'∧Sim w0 pr fz pl (ArZ bx k (some (n,es.take off))) w':=by
  intro ao hc
  refine ⟨w,?_,weak⟩
  rcases hc with rfl | ⟨c,rfl⟩ <;> (cases ao <;> simp [Builtin.clear_,run_underlying hut])
 rcases hx.inv_sl with ⟨b,n',cap,rfl,hp,hc,hfit⟩ | ⟨ao,rfl,h0⟩
 · cases m with
   | zero=>exact zero _ (.inr ⟨_,rfl⟩)
   |
    succ m =>
    rcases hS.box k n es hk with (⟨a1,_⟩ | ⟨b',o',M⟩) | ⟨b',n'',arr,e',B⟩
    · rw [a1] at hp;cases hp
    · have:=M.cap0 hp hfit;omega
    · obtain ⟨rfl,rfl⟩:=B.unique hp
      have hcm:off * n+(m+1) * n≤arr.size:=by
       rw [B.size]
       exact Nat.le_trans (Nat.add_le_add_left (Nat.mul_le_mul_right _ hc) _) hfit
      have hzone:∀ v∈(Builtin.zeroCells z.cells (m+1)).toList,v.oneCell'=true:=by
       intro v hv
       simp only [Builtin.zeroCells,Array.toList_map,List.mem_map] at hv
       obtain ⟨j,hj,rfl⟩:=hv
       simp at hj
       have hpos:0<z.cells.size:=by
        rcases Nat.eq_zero_or_pos z.cells.size with h | h
        · rw [h] at hj;simp at hj
        · exact h
       have hlt:j % z.cells.size<z.cells.size:=Nat.mod_lt _ hpos
       rw [getElem!_pos z.cells _ hlt]
       obtain ⟨_,l2,_⟩:=leafs_rep (fz:=fz) hzl
       exact l2 (j % z.cells.size) _ (by simp [hlt])
      have hzlen:(Builtin.zeroCells z.cells (m+1)).toList.length=(m+1) * n:=by rw [Array.length_toList,size_zeroCells,hzs]
      have hst:=run_storeCells_at (P:=P) b (off * n) e' (Builtin.zeroCells z.cells (m+1)).toList 0 arr w B.heap (by rw [hzlen];omega) hzone
      simp only [Nat.add_zero] at hst
      refine ⟨w.setRow b (arr.toList.take (off * n)++(Builtin.zeroCells z.cells (m+1)).toList++arr.toList.drop (off * n+(Builtin.zeroCells z.cells (m+1)).toList.length)).toArray,?_,?_⟩
      · have hzv:(zeroValue e).run P w=.ok z w:=by simp [zeroValue,typeInfo,hi,hz]
        simp only [Builtin.clear_,Sem.run_bind,run_underlying hut,hzv]
        simp [hut,run_underlying hut,hzv,hst]
      · have hel:∀ x∈es.take off,x.cells.length=n:=fun x hx=>B.elem x (List.mem_of_mem_take hx)
        have hlt:∀ (j:Nat) v,((es.take off).flatMap AV.cells)[j]? = some v→j<off * n:=by
         intro j v hv
         have:=(List.getElem?_eq_some_iff.1 hv).1
         rw [AeX hel,List.length_take] at this
         exact Nat.lt_of_lt_of_le this (Nat.mul_le_mul_right _ (Nat.min_le_left _ _))
        have get:∀ (j:Nat),j<off * n→(arr.toList.take (off * n)++(Builtin.zeroCells z.cells (m+1)).toList++arr.toList.drop (off * n+(Builtin.zeroCells z.cells (m+1)).toList.length)).toArray[j]? = arr[j]?:=by
         intro j hj
         simp only [List.getElem?_toArray,List.append_assoc]
         rw [List.getElem?_append_left (by simp;omega),List.getElem?_take,if_pos hj];simp
        refine hS.setRow hk B ?_ hel ?_ (fun j v c a d=>?_) (fun j v c a d=>?_)
        · rw [List.size_toArray,List.length_append,List.length_append,List.length_take,List.length_drop,hzlen,Array.length_toList];omega
        · have h1:=B.fits
          rw [AeX B.elem] at h1
          rw [AeX hel,List.length_take]
          exact Nat.le_trans (Nat.mul_le_mul_right _ (Nat.min_le_right _ _)) h1
        · rw [get j (hlt j v a)] at d;exact B.one j v c (tk j v a) d
        · rw [get j (hlt j v a)] at d;exact B.rep j v c (tk j v a) d
 · exact zero _ (.inl rfl)
end
end Go.Proofs.YtcmphhedaefcgaaGreatDoor.Av
namespace Go.Proofs.YtcmphhedaefcgaaGreatDoor.Av
theorem insS_mem {x:Nat}:∀ {l:List Nat},x∈l→l.Pairwise (·<·)→insS x l=l
 |
  y::l,h,hs=>by
  obtain ⟨h1,h2⟩:=List.pairwise_cons.1 hs
  unfold insS
  rcases List.mem_cons.1 h with rfl | h
  · rw [if_neg (by omega),if_pos rfl]
  · have:=h1 x h
    rw [if_neg (by omega),if_neg (by omega),insS_mem h h2]
theorem insS_perm {x:Nat}:∀ {l:List Nat},x ∉ l→(insS x l).Perm (x::l)
 | [],_=>List.Perm.refl _
 |
  y::l,h=>by
  have h1:x≠y:=fun e=>h (by simp [e])
  have h2:x ∉ l:=fun e=>h (by simp [e])
  unfold insS
  simp only [h1,if_false]
  split
  · exact List.Perm.refl _
  · exact (List.Perm.cons y (insS_perm h2)).trans (List.Perm.swap x y l)
theorem insS_all {x y:Nat}:∀ {l:List Nat},y∈insS x l→y=x∨y∈l
 | [],h=>by simp [insS] at h;exact .inl h
 |
  z::l,h=>by
  unfold insS at h
  split at h
  · rcases List.mem_cons.1 h with h | h
    · exact .inl h
    · exact .inr h
  · split at h
    · exact .inr h
    · rcases List.mem_cons.1 h with h | h
      · exact .inr (by simp [h])
      · rcases insS_all h with h | h
        · exact .inl h
        · exact .inr (List.mem_cons_of_mem _ h)
theorem insS_sorted {x:Nat}:∀ {l:List Nat},l.Pairwise (·<·)→(insS x l).Pairwise (·<·)
 | [],_=>by simp [insS]
 |
  y::l,hs=>by
  obtain ⟨h1,h2⟩:=List.pairwise_cons.1 hs
  unfold insS
  split
  · rename_i h
    refine List.pairwise_cons.2 ⟨fun z hz=>?_,hs⟩
    rcases List.mem_cons.1 hz with rfl | hz
    · exact h
    · have:=h1 z hz;omega
  · split
    · exact hs
    · refine List.pairwise_cons.2 ⟨fun z hz=>?_,insS_sorted h2⟩
      rcases insS_all hz with rfl | hz
      · omega
      · exact h1 z hz
abbrev kV (x:Nat):Value:=.int .i64 (Int.ofNat x)
theorem findNow_keys {x:Nat}:∀ {es:List MapEntry} {xs:List Nat} {i:Nat},es.map (·.key)=xs.map kV →
 (x ∉ xs∧Instr.findNow (.int .i64) (kV x) es i=some none)∨(∃ j v e,Instr.findNow (.int .i64) (kV x) es i=some (some (i+j,v))∧es[j]? = some e∧e.key=kV x∧x∈xs)
 |
  [],xs,i,h=>by
  have:xs=[]:=by simpa using h.symm
  subst this
  exact .inl ⟨by simp,rfl⟩
 | e::es,[],i,h=>by simp at h
 |
  e::es,y::xs,i,h=>by
  simp only [List.map_cons,List.cons.injEq] at h
  obtain ⟨h1,h2⟩:=h
  by_cases hxy:x=y
  · subst hxy
    refine .inr ⟨0,e.val,e,?_,by simp,h1,by simp⟩
    simp [Instr.findNow,h1,Instr.sameNow]
  · have step:Instr.findNow (.int .i64) (kV x) (e::es) i=Instr.findNow (.int .i64) (kV x) es (i+1):=by
     conv=>lhs;unfold Instr.findNow
     rw [h1]
     have:(Int.ofNat x == Int.ofNat y)=false:=by
      rw [beq_eq_false_iff_ne];intro h;exact hxy (Int.ofNat.inj h)
     simp only [Instr.sameNow,if_true,this]
    rcases findNow_keys (x:=x) (i:=i+1) h2 with ⟨k1,k2⟩ | ⟨j,v,e',k1,k2,k3,k4⟩
    · exact .inl ⟨by simp [hxy,k1],by rw [step,k2]⟩
    · refine .inr ⟨j+1,v,e',?_,by simpa using k2,k3,List.mem_cons_of_mem _ k4⟩
      rw [step,k1,Nat.add_assoc,Nat.add_comm 1 j]
theorem BtQ {α β:Type} (f:α→β) (g:α→α):∀ (l:List α) (j:Nat),(∀ e,l[j]? = some e→f (g e)=f e)→(l.modify j g).map f=l.map f
 | [],j,h=>by simp
 | x::l,0,h=>by simp [h x (by simp)]
 | x::l,j+1,h=>by simp [BtQ f g l j (fun e he=>h e (by simpa using he))]
theorem MapKeys.put {es:Array MapEntry} {clock:Nat} {ks:List Nat} (h:MapKeys es clock ks) (x:Nat) (v:Value) {P:Program} {w:World} {t kt e:TypeId} {b:Nat}
 (ht:P.underlying t=some (.map kt e)) (hk:P.underlying kt=some (.int .i64)) (hb:w.heap[b]? = some (.map es clock)) :
 ∃ es' clock',(Instr.mapUpdate t (.map (some b)) (kV x) v).run P w=.ok () { w with heap:=w.heap.setIfInBounds b (.map es' clock') }∧MapKeys es' clock' (insS x ks):=by
 obtain ⟨⟨xs,h1,h2⟩,h3,h4,h5⟩:=h
 have hget:(getObj b).run P w=.ok (.map es clock) w:=by simp [getObj,Sem.run,hb]
 have hset:∀ o:Obj,(setObj b o).run P w=.ok () { w with heap:=w.heap.setIfInBounds b o }:=fun o=>by simp [setObj,Sem.run,hb]
 have hck:(Instr.checkKey false 10000 kt (kV x)).run P w=.ok () w:=by
  unfold Instr.checkKey
  simp [run_underlying hk]
 rcases findNow_keys (x:=x) (i:=0) h1 with ⟨k1,k2⟩ | ⟨j,v0,e0,k1,k2,k3,k4⟩
 · have hf:(Instr.findKey kt (kV x) es.toList).run P w=.ok none w:=by
    unfold Instr.findKey
    simp [run_underlying hk,k2]
   refine ⟨es.push { key:=kV x,val:=v,born:=clock },clock+1,?_,?_⟩
   · unfold Instr.mapUpdate
     simp only [Sem.run_bind,run_underlying ht,hget,hck,hf,Result.andThen_ok]
     exact hset _
   · have hx:x ∉ ks:=fun hm=>k1 (h2.mem_iff.2 hm)
     refine ⟨⟨xs++[x],by simp [h1],?_⟩,insS_sorted h3,?_,?_⟩
     · exact (List.perm_append_comm.trans (List.Perm.cons x h2)).trans (insS_perm hx).symm
     · simp only [Array.toList_push,List.map_append,List.map_cons,List.map_nil]
       refine List.nodup_append.2 ⟨h4,by simp,?_⟩
       intro a ha c hc
       simp at hc;subst hc
       obtain ⟨e,he,rfl⟩:=List.mem_map.1 ha
       have:=h5 e he;omega
     · intro e he
       simp only [Array.toList_push,List.mem_append,List.mem_singleton] at he
       rcases he with he | rfl
       · have:=h5 e he;omega
       · simp
 · have hf:(Instr.findKey kt (kV x) es.toList).run P w=.ok (some (j,v0)) w:=by
    unfold Instr.findKey
    simp only [Nat.zero_add] at k1
    simp [run_underlying hk,k1]
   have hx:x∈ks:=h2.mem_iff.1 k4
   have hst:(Instr.keyThatStays (((es[j]?).map (·.key)).getD (kV x)) (kV x)).run P w=.ok (kV x) w:=by
    have:es[j]? = some e0:=by simpa using k2
    rw [this]
    simp only [Option.map_some,Option.getD_some,k3]
    unfold Instr.keyThatStays
    simp [Instr.sameBits]
   refine ⟨es.modify j fun e=>{ e with key:=kV x,val:=v },clock,?_,?_⟩
   · unfold Instr.mapUpdate
     simp only [Sem.run_bind,run_underlying ht,hget,hck,hf,hst,Result.andThen_ok]
     exact hset _
   · rw [insS_mem hx h3]
     have hej:es.toList[j]? = some e0:=k2
     refine ⟨⟨xs,?_,h2⟩,h3,?_,?_⟩
     · rw [Array.toList_modify,BtQ,h1]
       intro e he
       rw [hej] at he;injection he with he;subst he;exact k3.symm
     · rw [Array.toList_modify,BtQ MapEntry.born (fun e:MapEntry=>({ key:=kV x,val:=v,born:=e.born }:MapEntry)) _ _ (fun e _=>rfl)];exact h4
     · intro e he
       rw [Array.toList_modify] at he
       have hm:e.born∈(es.toList.modify j fun e=>{ key:=kV x,val:=v,born:=e.born }).map (·.born):=List.mem_map_of_mem he
       rw [BtQ MapEntry.born (fun e:MapEntry=>({ key:=kV x,val:=v,born:=e.born }:MapEntry)) _ _ (fun e _=>rfl)] at hm
       obtain ⟨e',he',hb'⟩:=List.mem_map.1 hm
       have:=h5 e' he';omega
section
variable {w0:World} {pr fz:Fz} {pl:Pl} {bx:Bx} {w:World} {P:Program}
theorem Sim.setMap (h:Sim w0 pr fz pl bx w) {k sz sz':Nat} {es es':List AV} {b:Nat} {o o':Obj} (hk:AeZ bx k=some (sz,es)) (M:BoxM pr fz pl w k sz es b o) (hm:BoxC fz sz' es' o') (hp:0<sz') :
 Sim w0 pr fz pl (ArZ bx k (some (sz',es'))) { w with heap:=w.heap.setIfInBounds b o' }:=by
 have hlt:b<w.heap.size:=(Array.getElem?_eq_some_iff.1 M.heap).1
 have oth:∀ {b':Nat} {x},b'≠b→w.heap[b']? = some x→(w.heap.setIfInBounds b o')[b']? = some x:=fun hne ho=>by
  rw [Array.getElem?_setIfInBounds_ne (fun e=>hne e.symm)];exact ho
 have nb:∀ {g:Fz} {b' x},g b=none→g b'=some x→b'≠b:=fun hn hg e=>by rw [e,hn] at hg;cases hg
 refine ⟨h.lay,h.os,h.tape,h.output,by simp;exact h.size,fun b' x a=>oth (nb M.nfz a) (h.frz _ _ a),fun b' x a=>oth (nb M.npr a) (h.prt _ _ a),h.dis,by rw [AmQ];exact h.len,?_,?_⟩
 · intro j s xs hj
   by_cases hkj:k=j
   · subst hkj
     rw [AjZ (AoY hk)] at hj
     injection hj with hj;injection hj with e1 e2;subst e1;subst e2
     exact .inl (.inr ⟨b,o',⟨M.plc,M.nfz,M.npr,by simp [hlt],hp,hm⟩⟩)
   · rw [AiX hkj] at hj
     rcases h.box j s xs hj with (h2 | ⟨b',x',M'⟩) | ⟨b',n',ar,e',B'⟩
     · exact .inl (.inl h2)
     · refine .inl (.inr ⟨b',x',{ M' with heap:=oth ?_ M'.heap }⟩)
       intro hbb;subst hbb
       exact hkj (h.inj k j _ _ b' 0 0 hk hj M.plc M'.plc)
     · refine .inr ⟨b',n',ar,e',{ B' with heap:=oth ?_ B'.heap }⟩
       intro hbb;subst hbb
       exact hkj (h.inj k j _ _ b' 0 n' hk hj M.plc B'.plc)
 · intro j j' x y b1 n1 n2 hj hj' p1 p2
   have key:∀ {i z},AeZ (ArZ bx k (some (sz',es'))) i=some z→∃ z',AeZ bx i=some z':=by
    intro i z hi
    by_cases hki:k=i
    · subst hki;exact ⟨_,hk⟩
    · rw [AiX hki] at hi;exact ⟨_,hi⟩
   obtain ⟨_,k1⟩:=key hj
   obtain ⟨_,k2⟩:=key hj'
   exact h.inj j j' _ _ b1 n1 n2 k1 k2 p1 p2
theorem Sim.mapBox (h:Sim w0 pr fz pl bx w) {k sz:Nat} {c:Value} (hk:AeZ bx k=some (sz,[.agg []])) (h0:0<sz) (hc:Rep fz pl (.mp k) c):∃ b o,c=.map (some b)∧BoxM pr fz pl w k sz [.agg []] b o:=by
 obtain ⟨b,n,rfl,hp⟩:=hc.inv_mp
 rcases h.box k sz _ hk with (⟨h1,h2⟩ | ⟨b',o,M⟩) | ⟨b',n',ar,e',B⟩
 · cases h2
 · obtain ⟨rfl,rfl⟩:=M.unique hp
   exact ⟨b,o,rfl,M⟩
 · have:=B.elem (.agg []) (by simp)
   simp [AV.cells] at this;omega
theorem clrm_sound {t:TypeId} (ht:isMapB P t=true) (hS:Sim w0 pr fz pl bx w) {x v:AV} {c:Value} {bx':Bx} (hx:Rep fz pl x c) (hr:evW bx (.clrm x)=some (v,bx')) {ty:TypeId} :
 ∃ w',(Builtin.clear_ #[t] ty #[c]).run P w=.ok (.tuple #[]) w'∧Sim w0 pr fz pl bx' w':=by
 simp only [evW] at hr
 split at hr
 · rename_i k
   split at hr
   · rename_i s hk
     split at hr
     · rename_i hd
       injection hr with hr;injection hr with e1 e2;subst e2
       obtain ⟨b,o,rfl,M⟩:=hS.mapBox hk (of_decide_eq_true hd) hx
       obtain ⟨es,clock,ks,rfl,-,hks⟩:=M.cont.agg
       have hu:∃ d,P.underlying t=some d:=by
        unfold isMapB at ht
        split at ht
        · exact ⟨_,by assumption⟩
        · cases ht
       obtain ⟨d,hu⟩:=hu
       have hget:(getObj b).run P w=.ok (.map es clock) w:=by simp [getObj,Sem.run,M.heap]
       have hset:∀ o:Obj,(setObj b o).run P w=.ok () { w with heap:=w.heap.setIfInBounds b o }:=fun o=>by simp [setObj,Sem.run,M.heap]
       refine ⟨_,?_,hS.setMap (sz':=1) (o':=.map #[] clock) hk M (.inl ⟨⟨#[],clock,[],rfl,rfl,⟨[],rfl,List.Perm.refl _⟩,List.Pairwise.nil,by simp,by simp⟩,.inr rfl⟩) (by omega)⟩
       simp [Builtin.clear_,run_underlying hu,hget,hset]
     · cases hr
   · cases hr
 · cases hr
theorem clrm_val {x v:AV} {bx':Bx} (hr:evW bx (.clrm x)=some (v,bx')):v=.tuple []:=by
 simp only [evW] at hr
 split at hr
 · split at hr
   · split at hr
     · injection hr with hr;injection hr with e1 e2;exact e1.symm
     · cases hr
   · cases hr
 · cases hr
theorem mset_sound {t:TypeId} (ht:keyB P t=true) (hS:Sim w0 pr fz pl bx w) {x k v:AV} {c ck:Value} {bx':Bx} (hx:Rep fz pl x c) (hk:Rep fz pl k ck) (cv:Value) (hr:evW bx (.mset x k)=some (v,bx')) :
 ∃ w',(Instr.mapUpdate t c ck cv).run P w=.ok () w'∧Sim w0 pr fz pl bx' w':=by
 simp only [evW] at hr
 split at hr
 · rename_i b n
   split at hr
   · rename_i s hn hkb
     split at hr
     · rename_i hd
       injection hr with hr;injection hr with e1 e2;subst e2
       obtain ⟨b,o,rfl,M⟩:=hS.mapBox hkb (of_decide_eq_true hd) hx
       obtain ⟨es,clock,ks,rfl,hsz,hks⟩:=M.cont.agg
       rw [hk.inv_int]
       unfold keyB at ht
       split at ht
       · rename_i kt e hu
         split at ht
         · rename_i hkt
           obtain ⟨m,rfl⟩:=Int.eq_ofNat_of_zero_le (of_decide_eq_true hn)
           obtain ⟨es',clock',hrun,hmk⟩:=hks.put m cv hu hkt M.heap
           have hsz2:∀ s',s'=encK (insS m ks)+1→0<s':=fun s' h=>by omega
           refine ⟨_,hrun,hS.setMap hkb M (.inl ⟨⟨es',clock',insS m ks,rfl,?_,hmk⟩,.inr rfl⟩) (hsz2 _ ?_)⟩
           · rw [hsz,Int.toNat_natCast,insK_enc]
           · rw [hsz,Int.toNat_natCast,insK_enc]
         · cases ht
       · cases ht
     · cases hr
   · cases hr
 · cases hr
theorem mset_val {x k v:AV} {bx':Bx} (hr:evW bx (.mset x k)=some (v,bx')):v=.tuple []:=by
 simp only [evW] at hr
 split at hr
 · split at hr
   · split at hr
     · injection hr with hr;injection hr with e1 e2;exact e1.symm
     · cases hr
   · cases hr
 · cases hr
theorem map_new {t:TypeId} (hS:Sim w0 pr fz pl bx w) (es0:List AV) (hC:BoxC fz 1 es0 (.map #[] 0)) :
 ∃ cv w' pl',(Instr.makeMap t none).run P w=.ok cv w'∧pl <+: pl'∧Rep fz pl' (.mp bx.length) cv∧Sim w0 pr fz pl' (bx++[some (1,es0)]) w':=by
 have lt:∀ b x,w.heap[b]? = some x→b<w.heap.size:=fun b x e=>(Array.getElem?_eq_some_iff.1 e).1
 have old:∀ b x,w.heap[b]? = some x→(w.alloc (.map #[] 0)).heap[b]? = some x:=fun b x a=>by rw [heap_alloc_old w _ b (lt b x a)];exact a
 have pre:pl <+: pl++[some (w.heap.size,0)]:=List.prefix_append _ _
 have getL:∀ {k:Nat},k<bx.length→(pl++[some (w.heap.size,0)])[k]? = pl[k]?:=fun hk=>List.getElem?_append_left (by rw [hS.len];exact hk)
 have getN:(pl++[some (w.heap.size,0)])[bx.length]? = some (some (w.heap.size,0)):=by rw [← hS.len];simp
 have split:∀ {j x},AeZ (bx++[some (1,es0)]) j=some x→(j<bx.length∧AeZ bx j=some x)∨(j=bx.length∧x=(1,es0)):=by
  intro j x hj
  have:=AoY hj
  simp only [List.length_append,List.length_singleton] at this
  by_cases hjl:j<bx.length
  · rw [AjX hjl] at hj;exact .inl ⟨hjl,hj⟩
  · have:j=bx.length:=by omega
    subst this
    rw [BrZ] at hj;injection hj with hj;exact .inr ⟨rfl,hj.symm⟩
 refine ⟨_,_,_,rfl,pre,.mp _ _ 0 getN,?_⟩
 refine ⟨hS.lay,hS.os,hS.tape,hS.output,Nat.le_trans hS.size (by simp),fun b x a=>old _ _ (hS.frz b x a),fun b x a=>old _ _ (hS.prt b x a),hS.dis,by simp [hS.len],?_,?_⟩
 · intro j s xs hj
   rcases split hj with ⟨hjl,hj'⟩ | ⟨rfl,hx⟩
   · rcases hS.box j s xs hj' with (h1 | ⟨b',o',M⟩) | ⟨b',n',ar,e',B⟩
     · exact .inl (.inl ⟨by rw [getL hjl];exact h1.1,h1.2⟩)
     · exact .inl (.inr ⟨b',o',{ M with plc:=by rw [getL hjl];exact M.plc,heap:=old _ _ M.heap }⟩)
     · exact .inr ⟨b',n',ar,e',{ B with plc:=by rw [getL hjl];exact B.plc,heap:=old _ _ B.heap,rep:=fun i v c a d=>(B.rep i v c a d).mono (.refl _) pre }⟩
   · injection hx with e1 e2;subst e1;subst e2
     refine .inl (.inr ⟨w.heap.size,.map #[] 0,⟨getN,?_,?_,heap_alloc_new w _,by omega,hC⟩⟩)
     · cases hp:fz w.heap.size with
       | none=>rfl
       | some y=>have:=lt _ _ (hS.frz _ _ hp);omega
     · cases hp:pr w.heap.size with
       | none=>rfl
       | some y=>have:=lt _ _ (hS.prt _ _ hp);omega
 · intro k k' x y b n n' hk hk' hp hp'
   have blk:∀ {j:Nat} {z m},j<bx.length→AeZ bx j=some z→(pl++[some (w.heap.size,0)])[j]? = some (some (b,m))→b<w.heap.size:=by
    intro j z m hj hz hm
    rw [getL hj] at hm
    rcases hS.box j z.1 z.2 hz with (h1 | ⟨b',o',M⟩) | ⟨b',n',ar,e',B⟩
    · rw [h1.1] at hm;cases hm
    · obtain ⟨rfl,_⟩:=M.unique hm;exact lt _ _ M.heap
    · have:=B.plc;rw [hm] at this;injection this with this;injection this with this;injection this with t1 t2;subst t1;exact lt _ _ B.heap
   rcases split hk with ⟨h1,q1⟩ | ⟨rfl,_⟩
   · rcases split hk' with ⟨h2,q2⟩ | ⟨rfl,_⟩
     · rw [getL h1] at hp;rw [getL h2] at hp'
       exact hS.inj k k' x y b n n' q1 q2 hp hp'
     · have:=blk h1 q1 hp
       rw [getN] at hp';simp at hp';omega
   · rcases split hk' with ⟨h2,q2⟩ | ⟨rfl,_⟩
     · have:=blk h2 q2 hp'
       rw [getN] at hp;simp at hp;omega
     · rfl
theorem mkm_sound {t:TypeId} (hS:Sim w0 pr fz pl bx w) {v:AV} {bx':Bx} (hr:evW bx .mkm=some (v,bx')) :
 ∃ cv w' pl',(Instr.makeMap t none).run P w=.ok cv w'∧pl <+: pl'∧Rep fz pl' v cv∧Sim w0 pr fz pl' bx' w':=by
 simp only [evW,Option.some.injEq,Prod.mk.injEq] at hr
 obtain ⟨rfl,rfl⟩:=hr
 exact map_new hS _ (.inl ⟨⟨#[],0,[],rfl,rfl,⟨[],rfl,List.Perm.refl _⟩,List.Pairwise.nil,by simp,by simp⟩,.inr rfl⟩)
theorem mkv_sound {t:TypeId} (hS:Sim w0 pr fz pl bx w) {v:AV} {bx':Bx} (hr:evW bx .mkv=some (v,bx')) :
 ∃ cv w' pl',(Instr.makeMap t none).run P w=.ok cv w'∧pl <+: pl'∧Rep fz pl' v cv∧Sim w0 pr fz pl' bx' w':=by
 simp only [evW,Option.some.injEq,Prod.mk.injEq] at hr
 obtain ⟨rfl,rfl⟩:=hr
 exact map_new hS _ (.inr ⟨[],[],.inr rfl,#[],0,rfl,rfl,rfl,fun i e h=>by simp at h⟩)
theorem Sim.datBox (h:Sim w0 pr fz pl bx w) {k sz:Nat} {ks vs:List AV} {c:Value} (hk:AeZ bx k=some (sz,[.dat ks vs])) (h0:0<sz) (hc:Rep fz pl (.mp k) c):∃ b o,c=.map (some b)∧BoxM pr fz pl w k sz [.dat ks vs] b o:=by
 obtain ⟨b,n,rfl,hp⟩:=hc.inv_mp
 rcases h.box k sz _ hk with (⟨h1,h2⟩ | ⟨b',o,M⟩) | ⟨b',n',ar,e',B⟩
 · cases h2
 · obtain ⟨rfl,rfl⟩:=M.unique hp
   exact ⟨b,o,rfl,M⟩
 · have:=B.elem (.dat ks vs) (by simp)
   simp [AV.cells] at this;omega
def kdesc:Bool→TypeDesc
 | true=>.string
 | false=>.int .i64
theorem keyD_under {t:TypeId} {tk:Bool} (h:keyD P t=some tk):∃ kt e,P.underlying t=some (.map kt e)∧P.underlying kt=some (kdesc tk):=by
 unfold keyD at h
 split at h
 · rename_i kt e hu
   split at h
   · rename_i hk;injection h with h;subst h;exact ⟨kt,e,hu,hk⟩
   · rename_i hk;injection h with h;subst h;exact ⟨kt,e,hu,hk⟩
   · cases h
 · cases h
theorem sameK_now {tk:Bool} {k a:AV} {c ca:Value} (hk:keyOf k=some c) (ha:keyOf a=some ca) {r:Bool} (h:sameK tk k a=some r):Instr.sameNow (kdesc tk) c ca=some r:=by
 unfold sameK at h
 split at h
 · injection h with h;subst h
   injection hk with hk;injection ha with ha;subst hk;subst ha
   simp only [kdesc,Instr.sameNow]
   congr 1
   rename_i a b
   have hb:(a == b)=(a.data == b.data):=by cases a;cases b;rfl
   rw [hb]
   by_cases hab:a=b
   · subst hab;simp
   · rw [decide_eq_false hab]
     rw [beq_eq_false_iff_ne]
     intro h;apply hab;cases a;cases b;simp at h;simp [h]
 · injection h with h;subst h
   injection hk with hk;injection ha with ha;subst hk;subst ha
   simp only [kdesc,Instr.sameNow,if_true]
   congr 1
 · cases h
theorem key_rep {tk:Bool} {k:AV} {c:Value} (h:isKey tk k=true) (hr:Rep fz pl k c):keyOf k=some c:=by
 unfold isKey at h
 split at h
 · rw [hr.inv_str];rfl
 · rw [hr.inv_int];rfl
 · cases h
theorem lookD_find {tk:Bool} {k:AV} {c:Value} (hk:keyOf k=some c):∀ {es:List MapEntry} {ks vs:List AV} {r:Option AV} {i:Nat},lookD tk k ks vs=some r→ks.length=es.length→vs.length=es.length →
 (∀ (j:Nat) e,es[j]? = some e→∃ a v,ks[j]? = some a∧vs[j]? = some v∧keyOf a=some e.key∧RepF fz v e.val) →
 (r=none∧Instr.findNow (kdesc tk) c es i=some none)∨(∃ j e v,r=some v∧Instr.findNow (kdesc tk) c es i=some (some (i+j,e.val))∧es[j]? = some e∧RepF fz v e.val∧(∃ a,ks[j]? = some a∧keyOf a=some e.key∧sameK tk k a=some true))
 | [],[],[],r,i,h,_,_,_=>by simp [lookD] at h;exact .inl ⟨h.symm,rfl⟩
 | [],a::ks,vs,r,i,h,h1,_,_=>by simp at h1
 | [],[],v::vs,r,i,h,_,h2,_=>by simp at h2
 | e::es,[],vs,r,i,h,h1,_,_=>by simp at h1
 | e::es,a::ks,[],r,i,h,_,h2,_=>by simp at h2
 |
  e::es,a::ks,v::vs,r,i,h,h1,h2,hh=>by
  obtain ⟨a',v',q1,q2,q3,q4⟩:=hh 0 e rfl
  simp at q1 q2;subst q1;subst q2
  unfold lookD at h
  split at h
  · rename_i hs
    injection h with h;subst h
    refine .inr ⟨0,e,v,rfl,?_,rfl,q4,a,rfl,q3,hs⟩
    unfold Instr.findNow
    rw [sameK_now hk q3 hs];rfl
  · rename_i hs
    have:=lookD_find hk (es:=es) (ks:=ks) (vs:=vs) (r:=r) (i:=i+1) h (by simpa using h1) (by simpa using h2) (fun j e' he=>hh (j+1) e' (by simpa using he))
    have step:Instr.findNow (kdesc tk) c (e::es) i=Instr.findNow (kdesc tk) c es (i+1):=by
     conv=>lhs;unfold Instr.findNow
     rw [sameK_now hk q3 hs]
    rcases this with ⟨k1,k2⟩ | ⟨j,e',v',k1,k2,k3,k4,a',k5,k6,k7⟩
    · exact .inl ⟨k1,by rw [step,k2]⟩
    · exact .inr ⟨j+1,e',v',k1,by rw [step,k2,Nat.add_assoc,Nat.add_comm 1 j],by simpa using k3,k4,a',by simpa using k5,k6,k7⟩
  · cases h
theorem checkKey_d {tk:Bool} {kt:TypeId} (h:P.underlying kt=some (kdesc tk)) (b:Bool) (c:Value):(Instr.checkKey b 10000 kt c).run P w=.ok () w:=by
 unfold Instr.checkKey
 cases tk <;> simp [run_underlying h,kdesc]
theorem mgetv_sound {t:TypeId} {tk ok:Bool} {z:AV} (ht:keyD P t=some tk) (hz:elemZ P t=some z) (hS:Sim w0 pr fz pl bx w) {x k v:AV} {c ck:Value} (hx:Rep fz pl x c) (hk:Rep fz pl k ck) (hr:evMap bx tk ok z x k=some v) :
 ∃ cv,(Instr.lookup t c ck ok).run P w=.ok cv w∧Rep fz pl v cv:=by
 obtain ⟨kt,e,hu,hkt⟩:=keyD_under ht
 unfold evMap at hr
 split at hr
 · rename_i b
   split at hr
   · rename_i s ks vs hkb
     split at hr
     · rename_i r hd hik hlk
       injection hr with hr;subst hr
       obtain ⟨b',o,rfl,M⟩:=hS.datBox hkb (of_decide_eq_true hd) hx
       obtain ⟨es,clock,rfl,l1,l2,hh⟩:=M.cont.dat
       have hget:(getObj b').run P w=.ok (.map es clock) w:=by simp [getObj,Sem.run,M.heap]
       have hko:=key_rep hik hk
       have hck:=checkKey_d (w:=w) hkt es.isEmpty ck
       have hzv:∃ zv,(zeroValue e).run P w=.ok zv w∧RepF fz z zv:=by
        unfold elemZ at hz
        rw [hu] at hz
        simp only at hz
        cases hi:P.info? e with
        | none=>rw [hi] at hz;cases hz
        |
         some inf =>
         rw [hi] at hz
         simp only [Option.bind_some] at hz
         cases hzz:inf.zero with
         | none=>rw [hzz] at hz;cases hz
         |
          some zv =>
          rw [hzz] at hz
          refine ⟨zv,?_,constV_rep hz⟩
          simp [zeroValue,typeInfo,hi,hzz]
       obtain ⟨zv,z1,z2⟩:=hzv
       have hf:∀ q,Instr.findNow (kdesc tk) ck es.toList 0=some q→(Instr.findKey kt ck es.toList).run P w=.ok q w:=by
        intro q hq
        unfold Instr.findKey
        simp [run_underlying hkt,hq]
       rcases lookD_find (fz:=fz) (i:=0) hko hlk (by rw [Array.length_toList];exact l1) (by rw [Array.length_toList];exact l2) (fun j e' he=>hh j e' (by simpa using he)) with ⟨rfl,k2⟩ | ⟨j,e',v',rfl,k2,k3,k4,_⟩
       · refine ⟨if ok then .tuple #[zv,.bool false] else zv,?_,?_⟩
         · unfold Instr.lookup
           simp only [Sem.run_bind,run_underlying hu,hget,Sem.run_pure,Result.andThen_ok,hck,hf _ k2,z1]
         · cases ok with
           |
            true =>
            refine .frz (.tuple _ _ rfl ?_)
            intro i a b ha hb
            match i,ha,hb with
            | 0,ha,hb=>simp at ha hb;subst ha;subst hb;exact z2
            | 1,ha,hb=>simp at ha hb;subst ha;subst hb;exact .bool _
           | false=>exact .frz z2
       · refine ⟨if ok then .tuple #[e'.val,.bool true] else e'.val,?_,?_⟩
         · unfold Instr.lookup
           simp only [Sem.run_bind,run_underlying hu,hget,Sem.run_pure,Result.andThen_ok,hck,hf _ k2]
         · cases ok with
           |
            true =>
            refine .frz (.tuple _ _ rfl ?_)
            intro i a b ha hb
            match i,ha,hb with
            | 0,ha,hb=>simp at ha hb;subst ha;subst hb;exact k4
            | 1,ha,hb=>simp at ha hb;subst ha;subst hb;exact .bool _
           | false=>exact .frz k4
     · cases hr
   · cases hr
 · cases hr
theorem putD_find {tk:Bool} {k v:AV} {c cv:Value} {b0 clock:Nat} (hk:keyOf k=some c) (hv:RepF fz v cv):∀ {es:List MapEntry} {ks vs ks' vs':List AV} {i:Nat},putD tk k v ks vs=some (ks',vs')→ks.length=es.length→vs.length=es.length →
 (∀ (j:Nat) e,es[j]? = some e→∃ a v,ks[j]? = some a∧vs[j]? = some v∧keyOf a=some e.key∧RepF fz v e.val) →
 (Instr.findNow (kdesc tk) c es i=some none∧ks'=ks++[k]∧vs'=vs++[v])∨(∃ j e,Instr.findNow (kdesc tk) c es i=some (some (i+j,e.val))∧es[j]? = some e∧e.key=c∧ks'=ks∧vs'=vs.set j v)
 | [],[],[],ks',vs',i,h,_,_,_=>by simp [putD] at h;obtain ⟨rfl,rfl⟩:=h;exact .inl ⟨rfl,rfl,rfl⟩
 | [],a::ks,vs,_,_,i,h,h1,_,_=>by simp at h1
 | [],[],v::vs,_,_,i,h,_,h2,_=>by simp at h2
 | e::es,[],vs,_,_,i,h,h1,_,_=>by simp at h1
 | e::es,a::ks,[],_,_,i,h,_,h2,_=>by simp at h2
 |
  e::es,a::ks,u::vs,ks',vs',i,h,h1,h2,hh=>by
  obtain ⟨a',v',q1,q2,q3,q4⟩:=hh 0 e rfl
  simp at q1 q2;subst q1;subst q2
  unfold putD at h
  split at h
  · rename_i hs
    injection h with h;injection h with e1 e2;subst e1;subst e2
    have hke:e.key=c:=by
     unfold sameK at hs
     split at hs
     · injection hs with hs
       have:=of_decide_eq_true hs;subst this
       rw [hk] at q3;injection q3 with q3;exact q3.symm
     · injection hs with hs
       have:=of_decide_eq_true hs;subst this
       rw [hk] at q3;injection q3 with q3;exact q3.symm
     · cases hs
    refine .inr ⟨0,e,?_,rfl,hke,rfl,rfl⟩
    unfold Instr.findNow
    rw [sameK_now hk q3 hs];rfl
  · rename_i hs
    split at h
    · rename_i r hr
      injection h with h;injection h with e1 e2;subst e1;subst e2
      obtain ⟨r1,r2⟩:=r
      have step:Instr.findNow (kdesc tk) c (e::es) i=Instr.findNow (kdesc tk) c es (i+1):=by
       conv=>lhs;unfold Instr.findNow
       rw [sameK_now hk q3 hs]
      rcases putD_find (b0:=b0) (clock:=clock) hk hv (es:=es) (ks:=ks) (vs:=vs) (i:=i+1) hr (by simpa using h1) (by simpa using h2) (fun j e' he=>hh (j+1) e' (by simpa using he)) with ⟨k1,rfl,rfl⟩ | ⟨j,e',k1,k2,k3,rfl,rfl⟩
      · exact .inl ⟨by rw [step,k1],rfl,rfl⟩
      · exact .inr ⟨j+1,e',by rw [step,k1,Nat.add_assoc,Nat.add_comm 1 j],by simpa using k2,k3,rfl,rfl⟩
    · cases h
  · cases h
theorem keyStays {tk:Bool} {k:AV} {c:Value} (hik:isKey tk k=true) (hk:keyOf k=some c):(Instr.keyThatStays c c).run P w=.ok c w:=by
 unfold Instr.keyThatStays
 unfold isKey at hik
 split at hik
 · injection hk with hk;subst hk
   rename_i s
   have:(s == s)=true:=by cases s with | mk d=>show (d == d)=true;simp
   simp [Instr.sameBits,this]
 · injection hk with hk;subst hk;simp [Instr.sameBits]
 · cases hik
theorem mputv_sound {t:TypeId} {tk:Bool} (ht:keyD P t=some tk) (hS:Sim w0 pr fz pl bx w) {x k v r:AV} {c ck cv:Value} {bx':Bx} (hx:Rep fz pl x c) (hk:Rep fz pl k ck) (hv:Rep fz pl v cv) (hr:evW bx (.mputv tk x k v)=some (r,bx')) :
 r=.tuple []∧∃ w',(Instr.mapUpdate t c ck cv).run P w=.ok () w'∧Sim w0 pr fz pl bx' w':=by
 obtain ⟨kt,e,hu,hkt⟩:=keyD_under ht
 simp only [evW] at hr
 split at hr
 · rename_i b
   split at hr
   · rename_i s ks vs hkb
     split at hr
     · rename_i ks' vs' hd hfl hik hpd
       injection hr with hr;injection hr with e1 e2;subst e1;subst e2
       refine ⟨rfl,?_⟩
       obtain ⟨b',o,rfl,M⟩:=hS.datBox hkb (of_decide_eq_true hd) hx
       obtain ⟨es,clock,rfl,l1,l2,hh⟩:=M.cont.dat
       have hget:(getObj b').run P w=.ok (.map es clock) w:=by simp [getObj,Sem.run,M.heap]
       have hset:∀ o:Obj,(setObj b' o).run P w=.ok () { w with heap:=w.heap.setIfInBounds b' o }:=fun o=>by simp [setObj,Sem.run,M.heap]
       have hko:=key_rep hik hk
       have hck:=checkKey_d (w:=w) hkt false ck
       have hvf:=hv.flat hfl
       have hf:∀ q,Instr.findNow (kdesc tk) ck es.toList 0=some q→(Instr.findKey kt ck es.toList).run P w=.ok q w:=by
        intro q hq
        unfold Instr.findKey
        simp [run_underlying hkt,hq]
       rcases putD_find (fz:=fz) (b0:=0) (clock:=clock) (i:=0) hko hvf hpd (by rw [Array.length_toList];exact l1) (by rw [Array.length_toList];exact l2) (fun j e' he=>hh j e' (by simpa using he)) with ⟨k1,rfl,rfl⟩ | ⟨j,e',k1,k2,k3,rfl,rfl⟩
       · refine ⟨_,?_,hS.setMap (o':=.map (es.push { key:=ck,val:=cv,born:=clock }) (clock+1)) hkb M (.inr ⟨ks++[k],vs++[v],.inr rfl,_,_,rfl,by simp [l1],by simp [l2],?_⟩) (of_decide_eq_true hd)⟩
         · unfold Instr.mapUpdate
           simp only [Sem.run_bind,run_underlying hu,hget,hck,hf _ k1,Result.andThen_ok]
           exact hset _
         · intro i e' he
           rw [Array.getElem?_push] at he
           split at he
           · rename_i hi
             injection he with he;subst he
             subst hi
             exact ⟨k,v,by rw [← l1];simp,by rw [← l2];simp,hko,hvf⟩
           · obtain ⟨a,u,q1,q2,q3,q4⟩:=hh i e' he
             exact ⟨a,u,by rw [List.getElem?_append_left (List.getElem?_eq_some_iff.1 q1).1];exact q1,by rw [List.getElem?_append_left (List.getElem?_eq_some_iff.1 q2).1];exact q2,q3,q4⟩
       · have hj:es[j]? = some e':=by simpa using k2
         refine ⟨_,?_,hS.setMap (o':=.map (es.modify j fun e=>{ e with key:=ck,val:=cv }) clock) hkb M (.inr ⟨ks',vs.set j v,.inr rfl,_,_,rfl,by simp [l1],by simp [l2],?_⟩) (of_decide_eq_true hd)⟩
         · unfold Instr.mapUpdate
           simp only [Nat.zero_add] at k1
           simp only [Sem.run_bind,run_underlying hu,hget,hck,hf _ k1,Result.andThen_ok,hj,Option.map_some,Option.getD_some,k3,keyStays hik hko]
           exact hset _
         · intro i e2 he
           rw [Array.getElem?_modify] at he
           split at he
           · rename_i hi
             subst hi
             rw [hj] at he
             simp only [Option.map_some,Option.some.injEq] at he
             subst he
             obtain ⟨a,u,q1,q2,q3,q4⟩:=hh j e' hj
             exact ⟨a,v,q1,by rw [List.getElem?_set_self (List.getElem?_eq_some_iff.1 q2).1],by rw [q3,k3],hvf⟩
           · rename_i hi
             obtain ⟨a,u,q1,q2,q3,q4⟩:=hh i e2 he
             exact ⟨a,u,q1,by rw [List.getElem?_set_ne hi];exact q2,q3,q4⟩
     · cases hr
   · cases hr
 · cases hr
end
end Go.Proofs.YtcmphhedaefcgaaGreatDoor.Av
namespace Go.Proofs.YtcmphhedaefcgaaGreatDoor.Av
set_option maxHeartbeats 1000000
section
variable {w0:World} {pr fz:Fz} {pl:Pl} {bx:Bx} {w:World} {P:Program}
theorem part_sound {t:TypeId} {agg:Bool} {n off:Nat} (ha:isRowB P t=some agg) (hn:BpZ P t=some n) {l:List AV} {v:AV} {cs:Array Value} (hl:l.length=cs.size)
 (h1:∀ (i:Nat) c,cs[i]? = some c→c.oneCell'=true) (h:∀ (i:Nat) v c,l[i]? = some v→cs[i]? = some c→Rep fz pl v c) (hv:cutCells agg n off l=some v) :
 ∃ cv,(part t cs off).run P w=.ok cv w∧Rep fz pl v cv:=by
 unfold isRowB at ha
 unfold BpZ at hn
 cases hu:P.underlying t with
 | none=>rw [hu] at ha;cases ha
 |
  some d =>
  rw [hu] at ha
  simp only [Option.map_some,Option.some.injEq] at ha
  have hagg:(isAgg t).run P w=.ok agg w:=by
   unfold isAgg
   rw [Sem.run_bind,run_underlying hu w]
   subst ha
   cases d <;> rfl
  cases hi:P.info? t with
  | none=>rw [hi] at hn;cases hn
  |
   some inf =>
   rw [hi] at hn
   simp only [Option.map_some,Option.some.injEq] at hn
   rcases cutCells_rep hv with ⟨rfl,hle,rfl⟩ | ⟨rfl,hg⟩
   · refine ⟨.agg (cs.extract off (off+n)),by simp [part,hagg,sizeOf,typeInfo,hi,hn],.agg _ _ ?_ ?_ ?_⟩
     · simp;omega
     · intro i c hc
       rw [Array.getElem?_extract] at hc
       split at hc
       · exact h1 _ _ hc
       · cases hc
     · intro i x c hx hc
       rw [Array.getElem?_extract] at hc
       split at hc
       · rw [List.getElem?_take] at hx
         split at hx
         · rw [List.getElem?_drop] at hx;exact h _ _ _ hx hc
         · cases hx
       · cases hc
   · have hlt:off<l.length:=(List.getElem?_eq_some_iff.1 hg).1
     have hc:cs[off]? = some cs[off]:=Array.getElem?_eq_getElem (by omega)
     refine ⟨cs[off],?_,h _ _ _ hg hc⟩
     simp [part,hagg,hc]
theorem list_ptr_sound {s n:Nat} {l:List AV} {e:AV} {b off:Nat} {arr:Array Value} {et:TypeId} {fr:Nat × Nat} (hb:fz b=some (.cells arr et fr)) (hs:∀ x∈l,x.cells.length=s) (hlen:off+(l.flatMap AV.cells).length≤arr.size)
 (h1:∀ (i:Nat) v c,(l.flatMap AV.cells)[i]? = some v→arr[off+i]? = some c→c.oneCell'=true)
 (h:∀ (i:Nat) v c,(l.flatMap AV.cells)[i]? = some v→arr[off+i]? = some c→RepF fz v c) (he:l[n]? = some e):RepF fz (.rptr e.cells) (.pointer (some ⟨b,off+n * s,none⟩)):=by
 have hcl:e.cells.length=s:=hs e (List.mem_of_getElem? he)
 have hil:=(List.getElem?_eq_some_iff.1 he).1
 have hle:n * s+s≤l.length * s:=by rw [← Nat.succ_mul];exact Nat.mul_le_mul_right _ hil
 rw [AeX hs] at hlen
 refine .rptr _ b (off+n * s) arr et fr hb (by omega) ?_ ?_
 · intro i v c hv hc
   exact h1 _ _ _ (flat_get hs he hv) (by rw [← Nat.add_assoc];exact hc)
 · intro i v c hv hc
   exact h _ _ _ (flat_get hs he hv) (by rw [← Nat.add_assoc];exact hc)
theorem size_run {e:TypeId} {n:Nat} (h:BpZ P e=some n):(sizeOf e).run P w=.ok n w:=by
 unfold BpZ at h
 cases hi:P.info? e with
 | none=>rw [hi] at h;cases h
 | some i=>rw [hi] at h;simp at h;simp [sizeOf,typeInfo,hi,h]
theorem elemB_eq {t e:TypeId} (h:elemB P t=some e):P.underlying t=some (.slice e):=by
 unfold elemB at h
 split at h
 · rename_i d hd;injection h with h;subst h;exact hd
 · cases h
theorem optRep_of {l:List AV} {a:Act} (hT:RepT fz pl l a) {x:Option Operand} {y:Option AOpd} (h:cOo x=some y):OptRep fz pl (y.map (·.ev l)) (x.map a.eval):=by
 cases x with
 | none=>simp [cOo] at h;subst h;trivial
 |
  some x =>
  simp only [cOo] at h
  cases hx:cO x with
  | none=>rw [hx] at h;cases h
  | some z=>rw [hx] at h;injection h with h;subst h;exact AgQ hT hx
theorem isZero_eval {x:Operand} (h:isZero x=true) (a:Act):∃ k,a.eval x=.int k 0:=by
 unfold isZero at h
 split at h
 · exact ⟨_,rfl⟩
 · cases h
theorem op_sound {mt:FuncId→Nat} {o:Oper} {p:AOp AOpd} (hc:cOp P mt o=some p) {l:List AV} {a:Act} (hT:RepT fz pl l a) (hS:Sim w0 pr fz pl bx w) {v:AV} {bx':Bx} (hr:OpR (p.map (·.ev l)) bx v bx') :
 Yld P w0 pr fz pl bx' v o a w:=by
 obtain ⟨dst,op,type,pos,after,guard⟩:=o
 unfold cOp at hc
 cases op <;> simp only at hc
 case move x =>
  cases hx:cO x with
  | none=>rw [hx] at hc;cases hc
  |
   some y =>
   rw [hx] at hc;injection hc with hc;subst hc
   obtain ⟨hv,rfl⟩:=hr
   simp only [AOp.map,evP,Option.some.injEq] at hv;subst hv
   exact .same hS (by simp [execOp]) (AgQ hT hx)
 case assign x =>
  cases hx:cO x with
  | none=>rw [hx] at hc;cases hc
  |
   some y =>
   rw [hx] at hc;injection hc with hc;subst hc
   obtain ⟨hv,rfl⟩:=hr
   simp only [AOp.map,evP,Option.some.injEq] at hv;subst hv
   exact .same hS (by simp [execOp]) (AgQ hT hx)
 case pick c x y =>
  split at hc
  · rename_i c' x' y' h1 h2 h3
    injection hc with hc;subst hc
    obtain ⟨hv,rfl⟩:=hr
    simp only [AOp.map,evP] at hv
    have hcR:=AgQ hT h1
    split at hv
    · rename_i hb;rw [hb] at hcR;injection hv with hv;subst hv
      exact .same hS (by simp [execOp,hcR.inv_bool,asBool]) (AgQ hT h2)
    · rename_i hb;rw [hb] at hcR;injection hv with hv;subst hv
      exact .same hS (by simp [execOp,hcR.inv_bool,asBool]) (AgQ hT h3)
    · cases hv
  · cases hc
 case alloc t =>
  split at hc
  · rename_i z hz
    split at hc
    · rename_i y hy
      injection hc with hc;subst hc
      simp only [OpR,AOp.map,evW,Option.some.injEq,Prod.mk.injEq] at hr
      obtain ⟨rfl,rfl⟩:=hr
      cases hi:P.info? t with
      | none=>rw [hi] at hz;cases hz
      |
       some i =>
       rw [hi] at hz
       simp only [Option.bind_some] at hz
       have hR:Rep fz pl y z:=.frz (constV_rep hy)
       have hok:y.okSt=true:=by
        unfold constV at hy
        split at hy
        · cases hl:leafs _ with
          | none=>rw [hl] at hy;cases hy
          | some r=>rw [hl] at hy;injection hy with hy;subst hy;rfl
        · unfold leafV at hy
          split at hy <;> first | (cases hy;done) | (injection hy with hy;subst hy;rfl)
       obtain ⟨c1,c2,c3⟩:=hR.cells hok
       have S1:=hS.alloc_box y.cells.length [y] z.cells t (by simp) (by simp [c1]) (fun i v c a b=>c2 i c b) (fun i v c a b=>c3 i v c (by simpa using a) b)
       refine ⟨.pointer (some ⟨w.heap.size,0,none⟩),_,fz,_,.inl ?_,.refl _,List.prefix_append _ _,?_,S1⟩
       · simp [execOp,Instr.alloc,zeroValue,typeInfo,hi,hz,newVar,newRow]
       · have:=Rep.ptr (fz:=fz) (pl:=pl++[some (w.heap.size,z.cells.size)]) y.cells.length bx.length 0 0 w.heap.size z.cells.size (by rw [← hS.len];simp)
         simpa using this
    · cases hc
  · cases hc
 case box t x =>
  split at hc
  · rename_i n y hn hy
    injection hc with hc;subst hc
    simp only [OpR,AOp.map,evW] at hr
    split at hr
    · rename_i hd
      simp only [Bool.and_eq_true,decide_eq_true_eq] at hd
      simp only [Option.some.injEq,Prod.mk.injEq] at hr
      obtain ⟨rfl,rfl⟩:=hr
      have hR:=AgQ hT hy
      obtain ⟨c1,c2,c3⟩:=hR.cells hd.1
      have S1:=hS.alloc_box n [y.ev l] (a.eval x).cells t (by simp [hd.2]) (by simp [c1]) (fun i v c a b=>c2 i c b) (fun i v c a b=>c3 i v c (by simpa using a) b)
      refine ⟨.pointer (some ⟨w.heap.size,0,none⟩),_,fz,_,.inl ?_,.refl _,List.prefix_append _ _,?_,S1⟩
      · simp [execOp,Instr.box,newVar,newRow]
      · have:=Rep.ptr (fz:=fz) (pl:=pl++[some (w.heap.size,(a.eval x).cells.size)]) n bx.length 0 0 w.heap.size (a.eval x).cells.size (by rw [← hS.len];simp)
        simpa using this
    · cases hr
  · cases hc
 case build t ps =>
  split at hc
  · rename_i fs z hu hz
    split at hc
    · rename_i pls zs hp hzs
      cases hq:partsB pls ps.toList with
      | none=>rw [hq] at hc;cases hc
      |
       some qs =>
       rw [hq] at hc;injection hc with hc;subst hc
       obtain ⟨hv,rfl⟩:=hr
       simp only [AOp.map,evP] at hv
       cases hf:fillA zs (qs.map fun p=>(p.1,p.2.1,p.2.2.ev l)) with
       | none=>rw [hf] at hv;cases hv
       |
        some r =>
        rw [hf] at hv;injection hv with hv;subst hv
        cases hi:P.info? t with
        | none=>rw [hi] at hz;cases hz
        |
         some i =>
         rw [hi] at hz
         simp only [Option.bind_some] at hz
         obtain ⟨l1,l2,l3⟩:=leafs_rep (fz:=fz) hzs
         obtain ⟨cs,k1,k2,k3,k4⟩:=fill_sound hT zs r z.cells hq hf (by simpa using l1) (fun i c a=>l2 i c (by simpa using a)) (fun i v c a b=>.frz (l3 i v c a (by simpa using b)))
         have hpl:(fs.mapM fun f=>do pure (f.offset,← sizeOf f.type):Sem (Array (Nat × Nat))).run P w=.ok pls.toArray w:=by
          rw [Array.mapM_eq_mapM_toList,Sem.run_map,places_run hp];rfl
         refine .same hS (cv:=.agg cs) ?_ (.agg r cs k2 k3 k4)
         simp only [execOp,Instr.build,Sem.run_bind,zeroValue,typeInfo,run_program,hi,Sem.run_pure,Result.andThen_ok,hz,run_underlying hu,hpl]
         rw [show (ps.map fun x=>(x.1,a.eval x.2)).toList=ps.toList.map fun p=>(p.1,a.eval p.2) by simp,k1]
         rfl
    · cases hc
  · rename_i n e z hu hz
    split at hc
    · rename_i sz zs hp hzs
      cases hq:partsB ((List.range n).map fun i=>(i * sz,sz)) ps.toList with
      | none=>rw [hq] at hc;cases hc
      |
       some qs =>
       rw [hq] at hc;injection hc with hc;subst hc
       obtain ⟨hv,rfl⟩:=hr
       simp only [AOp.map,evP] at hv
       cases hf:fillA zs (qs.map fun p=>(p.1,p.2.1,p.2.2.ev l)) with
       | none=>rw [hf] at hv;cases hv
       |
        some r =>
        rw [hf] at hv;injection hv with hv;subst hv
        cases hi:P.info? t with
        | none=>rw [hi] at hz;cases hz
        |
         some i =>
         rw [hi] at hz
         simp only [Option.bind_some] at hz
         obtain ⟨l1,l2,l3⟩:=leafs_rep (fz:=fz) hzs
         obtain ⟨cs,k1,k2,k3,k4⟩:=fill_sound hT zs r z.cells hq hf (by simpa using l1) (fun i c a=>l2 i c (by simpa using a)) (fun i v c a b=>.frz (l3 i v c a (by simpa using b)))
         have k1:Instr.fill (fun i=>some (i * sz,sz)) z.cells (ps.toList.map fun p=>(p.1,a.eval p.2))=some cs:=by
          refine fill_ext (fun i x hx=>?_) k1
          simp only [List.getElem?_toArray,List.getElem?_map] at hx
          rw [Option.map_eq_some_iff] at hx
          obtain ⟨j,hj,rfl⟩:=hx
          rw [List.getElem?_range] at hj
          · injection hj with hj;subst hj;rfl
          · have:=(List.getElem?_eq_some_iff.1 hj).1;simpa using this
         refine .same hS (cv:=.agg cs) ?_ (.agg r cs k2 k3 k4)
         simp only [execOp,Instr.build,Sem.run_bind,zeroValue,typeInfo,run_program,hi,Sem.run_pure,Result.andThen_ok,hz,run_underlying hu,size_run hp]
         rw [show (ps.map fun x=>(x.1,a.eval x.2)).toList=ps.toList.map fun p=>(p.1,a.eval p.2) by simp,k1]
         rfl
    · cases hc
  · cases hc
 case buildSlice t len ps =>
  split at hc
  · rename_i e he
    split at hc
    · rename_i z n xs hz hn hxs
      split at hc
      · rename_i ys hys
        split at hc
        · rename_i hd
          simp only [Bool.and_eq_true,decide_eq_true_eq] at hd
          obtain ⟨⟨⟨d1,d2⟩,d3⟩,d4⟩:=hd
          split at hc
          case h_2 =>
           injection hc with hc;subst hc
           simp only [OpR,AOp.map,evW] at hr
           split at hr
           · rename_i hok
             simp only [Option.some.injEq,Prod.mk.injEq] at hr
             obtain ⟨rfl,rfl⟩:=hr
             cases hi:P.info? e with
             | none=>rw [hi] at hz;cases hz
             |
              some i =>
              rw [hi] at hz
              simp only [Option.bind_some] at hz
              have hni:i.size=n:=by simp [BpZ,hi] at hn;exact hn
              obtain ⟨cv,w',pl',k1,k2,k3,k4⟩:=bslm_sound (elemB_eq he) hi hz hni hT hxs hys d1 d2 d3 d4 hS (fun x hx=>by
               have:=List.all_eq_true.1 hok x hx
               simpa using this)
              exact ⟨cv,w',fz,pl',.inl (by simp only [execOp,Sem.run_bind];rw [k1];rfl),.refl _,k2,k3,k4⟩
           · cases hr
          injection hc with hc;subst hc
          obtain ⟨hv,rfl⟩:=hr
          simp only [AOp.map,evP] at hv
          split at hv
          · rename_i hok
            cases hi:P.info? e with
            | none=>rw [hi] at hz;cases hz
            |
             some i =>
             rw [hi] at hz
             simp only [Option.bind_some] at hz
             have hni:i.size=n:=by simp [BpZ,hi] at hn;exact hn
             obtain ⟨cv,w',fz',k1,k2,k3,k4⟩:=bslice_sound (elemB_eq he) hi hz hni hT hxs hys d1 d2 d3 d4 hS hok
             refine ⟨cv,w',fz',pl,.inl ?_,k2,List.prefix_refl _,?_,k4⟩
             · simp only [execOp,Sem.run_bind];rw [k1];rfl
             · revert k3 hv
               generalize ys.map (·.ev l)=vs
               intro hv k3
               cases vs with
               | nil=>injection hv with hv;subst hv;exact k3
               | cons x r=>injection hv with hv;subst hv;exact k3
          · cases hv
        · cases hc
      · cases hc
    · cases hc
  · cases hc
 case load t x =>
  split at hc
  · rename_i ag n y h1 h2 h3
    split at hc
    · injection hc with hc;subst hc
      obtain ⟨hv,rfl⟩:=hr
      obtain ⟨cv,k1,k2⟩:=load_sound h1 h2 hS (AgQ hT h3) hv
      exact .same hS (by simp only [execOp,Sem.run_bind,k1];rfl) k2
    · injection hc with hc;subst hc
      have hv0:=hr.1
      have hv:BhZ bx ag n (y.ev l)=some v:=by
       simp only [AOp.map,evP] at hv0
       split at hv0
       · rename_i cs hx
         rw [hx]
         exact hv0
       · cases hv0
      obtain ⟨-,rfl⟩:=hr
      obtain ⟨cv,k1,k2⟩:=load_sound h1 h2 hS (AgQ hT h3) hv
      exact .same hS (by simp only [execOp,Sem.run_bind,k1];rfl) k2
  · cases hc
 case store t x y =>
  split at hc
  · rename_i n x' y' h1 h2 h3
    injection hc with hc;subst hc
    simp only [OpR,AOp.map,evW] at hr
    split at hr
    · rename_i sz k i off hp hd
      simp only [Bool.and_eq_true,decide_eq_true_eq] at hd
      split at hr
      · rename_i s es hk
        split at hr
        · rename_i e hs he
          have hs:s=sz:=of_decide_eq_true hs
          subst hs
          split at hr
          · rename_i ho
            simp only [Option.some.injEq,Prod.mk.injEq] at hr
            obtain ⟨rfl,rfl⟩:=hr
            obtain ⟨w',k1,k2⟩:=store_sound h1 hS (AgQ hT h2) (AgQ hT h3) hp hd.1 hd.2 hk he (of_decide_eq_true ho)
            refine ⟨undef,w',fz,pl,.inr ⟨?_,rfl⟩,.refl _,List.prefix_refl _,.frz (.tuple [] #[] rfl (by simp)),k2⟩
            simp only [execOp,Sem.run_bind,k1];rfl
          · cases hr
        · cases hr
      · cases hr
    · cases hr
  · cases hc
 case nilCheck x =>
  cases hx:cO x with
  | none=>rw [hx] at hc;cases hc
  |
   some y =>
   rw [hx] at hc;injection hc with hc;subst hc
   obtain ⟨hv,rfl⟩:=hr
   simp only [AOp.map,evP] at hv
   have hR:=AgQ hT hx
   split at hv
   · rename_i sz k i off he;injection hv with hv;subst hv
     rw [he] at hR ⊢
     obtain ⟨b,n,hb,_⟩:=hR.inv_ptr
     exact .same hS (by simp [execOp,hb]) hR
   · rename_i ls he;injection hv with hv;subst hv
     rw [he] at hR ⊢
     have hRF:=hR.inv_rptr
     generalize hg:a.eval x=cc at hR hRF
     cases hRF with
     | rptr=>exact .same hS (by simp [execOp,hg]) hR
   · rename_i f ls he;injection hv with hv;subst hv
     rw [he] at hR ⊢
     obtain ⟨cs,hb,_⟩:=hR.inv_fn
     refine .same hS (cv:=a.eval x) ?_ hR
     rw [hb]
     simp only [execOp,hb]
     cases f <;> simp
   · cases hv
 case binOp op t x y yt =>
  split at hc
  · rename_i k x' y' h1 h2 h3
    injection hc with hc;subst hc
    obtain ⟨hv,rfl⟩:=hr
    obtain ⟨cv,k1,k2⟩:=evBin_sound (P:=P) (w:=w) (AgQ hT h2) (AgQ hT h3) hv t x y
    refine .same hS (cv:=cv) ?_ k2
    simp only [execOp]
    rw [Sem.run_bind,k1];rfl
  · rename_i x' y' h1 h2 h3
    injection hc with hc;subst hc
    obtain ⟨hv,rfl⟩:=hr
    obtain ⟨cv,k1,k2⟩:=evBin_sound (P:=P) (w:=w) (AgQ hT h2) (AgQ hT h3) hv t x y
    refine .same hS (cv:=cv) ?_ k2
    simp only [execOp]
    rw [Sem.run_bind,k1];rfl
  · split at hc
    · injection hc with hc;subst hc;exact hr.elim
    · injection hc with hc;subst hc;exact hr.elim
    · cases hc
  · rename_i el x' h1 h2 h3
    have hyv:a.eval y=.pointer none:=by
     cases y with
     |
      const c =>
      simp only [cO] at h3
      cases hk:constV c with
      | none=>rw [hk] at h3;cases h3
      |
       some z =>
       rw [hk] at h3
       simp only [Option.map_some,Option.some.injEq,AOpd.val.injEq] at h3
       subst h3
       unfold constV at hk
       split at hk
       · cases hl:leafs _ with
         | none=>rw [hl] at hk;cases hk
         | some r=>rw [hl] at hk;cases hk
       · unfold leafV at hk
         split at hk <;> first | (cases hk;done) | rfl
     | tmp _=>cases h3
     | global _=>cases h3
     | func _=>cases h3
    have hR:=AgQ hT h2
    have fin:∀ (neg:Bool) (op:BinOp),(op=if neg then .neq else .eql)→OpR (.isnp neg (x'.ev l)) bx v bx'→Yld P w0 pr fz pl bx' v ⟨dst,.binOp op t x y yt,type,pos,after,guard⟩ a w:=by
     intro neg op ho hr
     obtain ⟨hv,rfl⟩:=hr
     have he:∃ b,(Op.equal t (a.eval x) (.pointer none)).run P w=.ok b w∧v=.bool (xor neg b):=by
      have:∀ d,∃ b,(Op.equalIn (d+1) t (a.eval x) (.pointer none)).run P w=.ok b w∧v=.bool (xor neg b):=by
       intro d
       simp only [evP] at hv
       split at hv
       · rename_i e1
         rw [e1] at hR
         have gen:∀ c,Rep fz pl .nilp c→c=.pointer none:=fun c h=>by cases h with | frz h=>cases h;rfl
         have hx:a.eval x=.pointer none:=gen _ hR
         injection hv with hv
         exact ⟨true,by rw [hx];simp [Op.equalIn,run_underlying h1],by rw [← hv];cases neg <;> rfl⟩
       · rename_i sz k i off e1
         rw [e1] at hR
         obtain ⟨b,n,hx,_⟩:=hR.inv_ptr
         injection hv with hv
         exact ⟨false,by rw [hx];simp [Op.equalIn,run_underlying h1],by rw [← hv];cases neg <;> rfl⟩
       · rename_i ll e1
         rw [e1] at hR
         have hRF:=hR.inv_rptr
         injection hv with hv
         generalize a.eval x=cx at hRF
         cases hRF with
         | rptr _ b off arr e fr hb hlen g1 g2=>exact ⟨false,by simp [Op.equalIn,run_underlying h1],by rw [← hv];cases neg <;> rfl⟩
       · cases hv
      exact this 9999
     obtain ⟨b,he,rfl⟩:=he
     refine .same hS (cv:=.bool (xor neg b)) ?_ (.frz (.bool _))
     subst ho
     have hg:∀ op,(eqGuard op t x y (a.eval x) (.pointer none)).run P w=.ok () w:=by
      intro op
      unfold eqGuard
      cases op <;> simp
     cases neg <;> simp [execOp,hyv,hg,binOp,he]
    split at hc
    · injection hc with hc;subst hc;exact fin false _ rfl hr
    · injection hc with hc;subst hc;exact fin true _ rfl hr
    · cases hc
  · rename_i ms x' h1 h2 h3
    have hyv:a.eval y=.nilIface∧∃ c,y=.const c:=by
     cases y with
     |
      const c =>
      simp only [cO] at h3
      cases hk:constV c with
      | none=>rw [hk] at h3;cases h3
      |
       some z =>
       rw [hk] at h3
       simp only [Option.map_some,Option.some.injEq,AOpd.val.injEq] at h3
       subst h3
       unfold constV at hk
       split at hk
       · cases hl:leafs _ with
         | none=>rw [hl] at hk;cases hk
         | some r=>rw [hl] at hk;cases hk
       · unfold leafV at hk
         split at hk <;> first | (cases hk;done) | exact ⟨rfl,_,rfl⟩
     | tmp _=>cases h3
     | global _=>cases h3
     | func _=>cases h3
    obtain ⟨hyv,cy,rfl⟩:=hyv
    have hR:=AgQ hT h2
    have fin:∀ (neg:Bool) (op:BinOp),(op=if neg then .neq else .eql)→OpR (.isni neg (x'.ev l)) bx v bx'→Yld P w0 pr fz pl bx' v ⟨dst,.binOp op t x (.const cy) yt,type,pos,after,guard⟩ a w:=by
     intro neg op ho hr
     obtain ⟨hv,rfl⟩:=hr
     have he:∃ b,(Op.equal t (a.eval x) .nilIface).run P w=.ok b w∧v=.bool (xor neg b)∧∀ op,(eqGuard op t x (.const cy) (a.eval x) .nilIface).run P w=.ok () w:=by
      have key:∃ b,(∀ d,(Op.equalIn (d+1) t (a.eval x) .nilIface).run P w=.ok b w)∧v=.bool (xor neg b)∧∀ op,(eqGuard op t x (.const cy) (a.eval x) .nilIface).run P w=.ok () w:=by
       simp only [evP] at hv
       split at hv
       · rename_i e1
         rw [e1] at hR
         injection hv with hv
         refine ⟨true,fun d=>by rw [hR.inv_ifn];simp [Op.equalIn,run_underlying h1],by rw [← hv];cases neg <;> rfl,fun op=>?_⟩
         rw [hR.inv_ifn]
         unfold eqGuard
         cases op <;> simp
       · rename_i e1
         rw [e1] at hR
         obtain ⟨tt,vv,hx⟩:=hR.inv_ifc
         injection hv with hv
         refine ⟨false,fun d=>by rw [hx];simp [Op.equalIn,run_underlying h1],by rw [← hv];cases neg <;> rfl,fun op=>?_⟩
         rw [hx]
         unfold eqGuard
         cases op <;> simp
       · cases hv
      obtain ⟨b,k1,k2,k3⟩:=key
      exact ⟨b,k1 9999,k2,k3⟩
     obtain ⟨b,he,rfl,hg⟩:=he
     refine .same hS (cv:=.bool (xor neg b)) ?_ (.frz (.bool _))
     subst ho
     cases neg <;> simp [execOp,hyv,hg,binOp,he]
    split at hc
    · injection hc with hc;subst hc;exact fin false _ rfl hr
    · injection hc with hc;subst hc;exact fin true _ rfl hr
    · cases hc
  · rename_i x' y' h1 h2 h3
    have main:∀ (neg:Bool),OpR (.eqb neg (x'.ev l) (y'.ev l)) bx v bx'→bx'=bx∧∃ p q,x'.ev l=.bool p∧y'.ev l=.bool q∧v=.bool (xor neg (p == q)):=by
     intro neg hr
     obtain ⟨hv,hb⟩:=hr
     refine ⟨hb,?_⟩
     simp only [evP] at hv
     split at hv
     · rename_i p q e1 e2;injection hv with hv;exact ⟨p,q,e1,e2,hv.symm⟩
     · cases hv
    have fin:∀ (neg:Bool) (op:BinOp),(op=if neg then .neq else .eql)→OpR (.eqb neg (x'.ev l) (y'.ev l)) bx v bx'→Yld P w0 pr fz pl bx' v ⟨dst,.binOp op t x y yt,type,pos,after,guard⟩ a w:=by
     intro neg op ho hr
     obtain ⟨rfl,p,q,e1,e2,rfl⟩:=main neg hr
     have r1:=AgQ hT h2
     have r2:=AgQ hT h3
     rw [e1] at r1;rw [e2] at r2
     refine .same hS (cv:=.bool (xor neg (p == q))) ?_ (.frz (.bool _))
     subst ho
     have he:(Op.equal t (.bool p) (.bool q)).run P w=.ok (p == q) w:=run_equalIn_bool (P:=P) w 9999 t p q h1
     cases neg <;> simp [execOp,r1.inv_bool,r2.inv_bool,eqGuard,binOp,he]
    split at hc
    · injection hc with hc;subst hc;exact fin false _ rfl hr
    · injection hc with hc;subst hc;exact fin true _ rfl hr
    · cases hc
  · rename_i fs x' y' h1 h2 h3
    split at hc
    · rename_i hd
      simp only [Bool.and_eq_true,Bool.not_eq_true'] at hd
      obtain ⟨⟨d1,d2⟩,d3⟩:=hd
      have main:∀ (neg:Bool),OpR (.eqs neg fs.size (x'.ev l) (y'.ev l)) bx v bx'→bx'=bx∧∃ p q b,x'.ev l=.agg p∧y'.ev l=.agg q∧p.length=fs.size∧eqInts p q=some b∧v=.bool (xor neg b):=by
       intro neg hr
       obtain ⟨hv,hb⟩:=hr
       refine ⟨hb,?_⟩
       simp only [evP] at hv
       split at hv
       · rename_i p q e1 e2
         split at hv
         · rename_i b e3 e4;injection hv with hv;exact ⟨p,q,b,e1,e2,of_decide_eq_true e3,e4,hv.symm⟩
         · cases hv
       · cases hv
      split at hc
      · injection hc with hc;subst hc
        obtain ⟨rfl,p,q,b,e1,e2,e3,e4,rfl⟩:=main false hr
        have r1:=AgQ hT h2
        have r2:=AgQ hT h3
        rw [e1] at r1;rw [e2] at r2
        have:=(eqs_sound (P:=P) (w:=w) h1 d1 d2 d3 r1 r2 e3 e4 x y).1
        refine .same hS (cv:=.bool (xor false b)) ?_ (.frz (.bool _))
        simp only [execOp]
        rw [Sem.run_bind,this];simp
      · injection hc with hc;subst hc
        obtain ⟨rfl,p,q,b,e1,e2,e3,e4,rfl⟩:=main true hr
        have r1:=AgQ hT h2
        have r2:=AgQ hT h3
        rw [e1] at r1;rw [e2] at r2
        have:=(eqs_sound (P:=P) (w:=w) h1 d1 d2 d3 r1 r2 e3 e4 x y).2
        refine .same hS (cv:=.bool (xor true b)) ?_ (.frz (.bool _))
        simp only [execOp]
        rw [Sem.run_bind,this];simp
      · cases hc
    · cases hc
  · cases hc
 case unOp op t x =>
  cases hx:cO x with
  | none=>rw [hx] at hc;cases hc
  |
   some y =>
   rw [hx] at hc;injection hc with hc;subst hc
   obtain ⟨hv,rfl⟩:=hr
   simp only [AOp.map,evP,evUn] at hv
   have hR:=AgQ hT hx
   split at hv
   · rename_i k n he;rw [he] at hR;injection hv with hv;subst hv
     exact .same hS (by simp [execOp,hR.inv_int,Op.unary,Op.intArith]) (.frz (.int _ _))
   · rename_i b he;rw [he] at hR;injection hv with hv;subst hv
     exact .same hS (by simp [execOp,hR.inv_bool,Op.unary]) (.frz (.bool _))
   · cases hv
 case convert s d x =>
  split at hc
  · rename_i ks kd x' h1 h2 h3
    injection hc with hc;subst hc
    obtain ⟨hv,rfl⟩:=hr
    simp only [AOp.map,evP] at hv
    have hR:=AgQ hT h3
    split at hv
    · rename_i k n he;rw [he] at hR;injection hv with hv;subst hv
      exact .same hS (by simp [execOp,hR.inv_int,convert,run_underlying h1,run_underlying h2,Conv.intToInt]) (.frz (.int _ _))
    · cases hv
  · cases hc
 case fieldAddr t x f =>
  split at hc
  · rename_i fs hu
    split at hc
    · rename_i fd hf
      split at hc
      · rename_i n y hn hy
        split at hc
        · rename_i h0
          have h0:¬ n=0:=of_decide_eq_false h0
          injection hc with hc;subst hc
          obtain ⟨hv,rfl⟩:=hr
          simp only [AOp.map,evP] at hv
          have hR:=AgQ hT hy
          have run:∀ b off,a.eval x=.pointer (some ⟨b,off,none⟩)→(Instr.fieldAt t (a.eval x) f).run P w=.ok (.pointer (some ⟨b,off+fd.offset,none⟩)) w:=by
           intro b off hb
           rw [hb]
           simp [Instr.fieldAt,run_underlying hu,hf,Instr.sureAddr,fieldPlace,size_run hn,h0,Addr.add_mid]
          split at hv
          · rename_i ls he
            split at hv
            case h_2=>cases hv
            rename_i hle
            have hle:fd.offset≤ls.length:=of_decide_eq_true hle
            injection hv with hv;subst hv
            rw [he] at hR
            have hRF:=hR.inv_rptr
            generalize hg:a.eval x=cc at hR hRF
            cases hRF with
            |
             rptr _ b off arr et fr hb hlen h1 h =>
             refine .same hS (cv:=.pointer (some ⟨b,off+fd.offset,none⟩)) (by simp only [execOp,Sem.run_bind,run b off hg];rfl) ?_
             refine .frz (.rptr _ b (off+fd.offset) arr et fr hb (by simp;omega) ?_ ?_)
             · intro i v c hv hc
               rw [List.getElem?_drop] at hv
               exact h1 _ _ _ hv (by rw [← Nat.add_assoc];exact hc)
             · intro i v c hv hc
               rw [List.getElem?_drop] at hv
               exact h _ _ _ hv (by rw [← Nat.add_assoc];exact hc)
          · rename_i sz k i o he;injection hv with hv;subst hv
            rw [he] at hR
            obtain ⟨b,m,hb,hp⟩:=hR.inv_ptr
            refine .same hS (cv:=.pointer (some ⟨b,i * sz+o+fd.offset,none⟩)) (by simp only [execOp,Sem.run_bind,run b _ hb];rfl) ?_
            have:=Rep.ptr (fz:=fz) sz k i (o+fd.offset) b m hp
            rwa [← Nat.add_assoc] at this
          · cases hv
        · cases hc
      · cases hc
    · cases hc
  · cases hc
 case field t x f =>
  split at hc
  · rename_i fs hu
    split at hc
    · rename_i fd hf
      split at hc
      · rename_i ag n y h1 hn hy
        injection hc with hc;subst hc
        obtain ⟨hv,rfl⟩:=hr
        simp only [AOp.map,evP] at hv
        have hR:=AgQ hT hy
        split at hv
        · rename_i ls he
          rw [he] at hR
          obtain ⟨cs,hcs,k1,k2,k3⟩:=hR.inv_agg
          obtain ⟨cv,r1,r2⟩:=part_sound (P:=P) (w:=w) h1 hn k1 k2 k3 hv
          refine .same hS (cv:=cv) ?_ r2
          simp [execOp,hcs,Instr.field,run_underlying hu,hf,asAgg,r1]
        · cases hv
      · cases hc
    · cases hc
  · cases hc
 case indexAddr t x i =>
  split at hc
  · rename_i e he
    split at hc
    · rename_i n x' i' hn hx hi
      injection hc with hc;subst hc
      obtain ⟨hv,rfl⟩:=hr
      simp only [AOp.map,evP] at hv
      have hR:=AgQ hT hx
      have hI:=AgQ hT hi
      have run:∀ k z b off len cap,a.eval i=.int k z→a.eval x=.slice (some ⟨b,off,none⟩) len cap→0≤z→z.toNat<len →
       (Instr.indexAt t (a.eval x) (a.eval i)).run P w=.ok (.pointer (some ⟨b,off+z.toNat * n,none⟩)) w:=by
       intro k z b off len cap h1 h2 h3 h4
       rw [h1,h2]
       have:0≤z∧z<(len:Int):=⟨h3,by omega⟩
       simp [Instr.indexAt,asIntOf,run_underlying (elemB_eq he),this,size_run hn,Addr.add_mid]
      split at hv
      · rename_i s ls j e1 e2
        obtain ⟨k,z,ez,z0,rfl⟩:=natOf_some e2
        rw [ez] at hI
        rw [e1] at hR
        split at hv
        · rename_i hd
          have hs:s=n:=of_decide_eq_true hd
          subst hs
          split at hv
          · rename_i el hel
            injection hv with hv;subst hv
            have hRF:=hR.inv_list
            generalize hg:a.eval x=cc at hR hRF
            cases hRF with
            |
             list _ _ b off arr et fr m cap hb hn' hcp hs hlen h1 h =>
             have hlt:=(List.getElem?_eq_some_iff.1 hel).1
             refine .same hS (cv:=.pointer (some ⟨b,off+z.toNat * s,none⟩)) (by simp only [execOp,Sem.run_bind,run k z b off m cap hI.inv_int hg z0 (by omega)];rfl) (.frz (list_ptr_sound hb hs hlen h1 h hel))
            | list0=>simp at hel
          · cases hv
        · cases hv
      · rename_i s k off len j e1 e2
        obtain ⟨kk,z,ez,z0,rfl⟩:=natOf_some e2
        rw [ez] at hI
        rw [e1] at hR
        split at hv
        · rename_i hd1 hd2
          have hs:s=n:=of_decide_eq_true hd1
          subst hs
          have hlt:z.toNat<len:=of_decide_eq_true hd2
          injection hv with hv;subst hv
          rcases hR.inv_sl with ⟨b,m,cap,hb,hp,hcp,hn'⟩ | ⟨ao,_,h0⟩
          · refine .same hS (cv:=.pointer (some ⟨b,off * s+z.toNat * s,none⟩)) (by simp only [execOp,Sem.run_bind,run kk z b _ len cap hI.inv_int hb z0 hlt];rfl) ?_
            have:=Rep.ptr (fz:=fz) s k (off+z.toNat) 0 b m hp
            rwa [Nat.add_zero,Nat.add_mul] at this
          · omega
        · cases hv
      · cases hv
    · cases hc
  · split at hc
    · rename_i len e kk z hu
      split at hc
      · rename_i n y hn hy hd
        have hz:0≤z∧z<(len:Int):=of_decide_eq_true hd
        injection hc with hc;subst hc
        obtain ⟨hv,rfl⟩:=hr
        simp only [AOp.map,evP] at hv
        have hR:=AgQ hT hy
        have run:∀ b off,a.eval x=.pointer (some ⟨b,off,none⟩)→(Instr.indexAt t (a.eval x) (a.eval (.const (.int kk z)))).run P w=.ok (.pointer (some ⟨b,off+z.toNat * n,none⟩)) w:=by
         intro b off hb
         rw [hb]
         have he:a.eval (.const (.int kk z))=.int kk z:=rfl
         rw [he]
         simp [Instr.indexAt,asIntOf,run_underlying hu,Instr.sureAddr,hz,size_run hn,Addr.add_mid]
        split at hv
        · rename_i ls he
          split at hv
          case h_2=>cases hv
          rename_i hle
          have hle:z.toNat * n≤ls.length:=of_decide_eq_true hle
          injection hv with hv;subst hv
          rw [he] at hR
          have hRF:=hR.inv_rptr
          generalize hg:a.eval x=cc at hR hRF
          cases hRF with
          |
           rptr _ b off arr et fr hb hlen h1 h =>
           refine .same hS (cv:=.pointer (some ⟨b,off+z.toNat * n,none⟩)) (by simp only [execOp,Sem.run_bind,run b off hg];rfl) ?_
           refine .frz (.rptr _ b (off+z.toNat * n) arr et fr hb (by simp;omega) ?_ ?_)
           · intro i v c hv hc
             rw [List.getElem?_drop] at hv
             exact h1 _ _ _ hv (by rw [← Nat.add_assoc];exact hc)
           · intro i v c hv hc
             rw [List.getElem?_drop] at hv
             exact h _ _ _ hv (by rw [← Nat.add_assoc];exact hc)
        · rename_i sz k i o he;injection hv with hv;subst hv
          rw [he] at hR
          obtain ⟨b,m,hb,hp⟩:=hR.inv_ptr
          refine .same hS (cv:=.pointer (some ⟨b,i * sz+o+z.toNat * n,none⟩)) (by simp only [execOp,Sem.run_bind,run b _ hb];rfl) ?_
          have:=Rep.ptr (fz:=fz) sz k i (o+z.toNat * n) b m hp
          rwa [← Nat.add_assoc] at this
        · cases hv
      · cases hc
    · cases hc
 case slice t x lo hi mx =>
  split at hc
  · rename_i e he
    split at hc
    · rename_i n x' lo' hi' hn hx hlo hhi
      injection hc with hc;subst hc
      obtain ⟨hv,rfl⟩:=hr
      obtain ⟨cv,k1,k2⟩:=evSlc_sound (P:=P) (w:=w) (elemB_eq he) hn (AgQ hT hx) (optRep_of hT hlo) (optRep_of hT hhi) hv
      exact .same hS (by simp only [execOp,Sem.run_bind,Option.map_none,k1];rfl) k2
    · rename_i n x' m hn hx
      split at hc
      · rename_i hd
        simp only [Bool.and_eq_true] at hd
        obtain ⟨⟨d1,d2⟩,d3⟩:=hd
        injection hc with hc;subst hc
        obtain ⟨hv,rfl⟩:=hr
        simp only [AOp.map,evP] at hv
        have hR:=AgQ hT hx
        obtain ⟨km,hm⟩:=isZero_eval d3 a
        have run:∀ ao len cap,a.eval x=.slice ao len cap→(Instr.sliceAt t (a.eval x) (lo.map a.eval) (hi.map a.eval) (some (a.eval m))).run P w=.ok (.slice ao 0 0) w:=by
         intro ao len cap hb
         have hb0:∀ (k:IntKind) (m:Nat) code,(Instr.sliceBound (.int k 0) m code).run P w=.ok 0 w:=fun k m code=>by
          have:(0:Int)≤(m:Int):=by omega
          simp [Instr.sliceBound,asIntOf,this]
         cases hi with
         | none=>simp at d2
         |
          some h =>
          obtain ⟨kh,hh⟩:=isZero_eval d2 a
          cases lo with
          | none=>simp [hb,hm,hh,Instr.sliceAt,Instr.slice,run_underlying (elemB_eq he),Instr.sliceBounds,hb0,size_run hn]
          |
           some q =>
           obtain ⟨kl,hl⟩:=isZero_eval d1 a
           simp [hb,hm,hh,hl,Instr.sliceAt,Instr.slice,run_underlying (elemB_eq he),Instr.sliceBounds,hb0,size_run hn]
        have fin:∀ ao len cap,a.eval x=.slice ao len cap→v=.nils→Yld P w0 pr fz pl bx' v ⟨dst,.slice t x lo hi (some m),type,pos,after,guard⟩ a w:=by
         intro ao len cap hb hv
         subst hv
         exact .same hS (cv:=.slice ao 0 0) (by simp only [execOp,Sem.run_bind,Option.map_some,run ao len cap hb];rfl) (.frz (.nils ao))
        split at hv
        · rename_i s ls e1;injection hv with hv
          rw [e1] at hR
          obtain ⟨ao,cap,hb⟩:=hR.inv_list.list_len
          exact fin _ _ _ hb hv.symm
        · rename_i e1;injection hv with hv
          rw [e1] at hR
          rcases hR.inv_sl with ⟨b,q,cap,hb,_⟩ | ⟨ao,hb,_⟩
          · exact fin _ _ _ hb hv.symm
          · exact fin _ _ _ hb hv.symm
        · rename_i e1;injection hv with hv
          rw [e1] at hR
          obtain ⟨ao,hb⟩:=hR.inv_nils
          exact fin _ _ _ hb hv.symm
        · cases hv
      · cases hc
    · cases hc
  · split at hc
    · rename_i hu
      split at hc
      · rename_i x' lo' hi' hx hlo hhi
        injection hc with hc;subst hc
        obtain ⟨hv,rfl⟩:=hr
        simp only [AOp.map,evP] at hv
        have hR:=AgQ hT hx
        split at hv
        · rename_i s e1
          rw [e1] at hR
          split at hv
          · rename_i p q ep eq
            split at hv
            · rename_i d1 d2
              injection hv with hv;subst hv
              have hrun:=bounds_run (fl:=false) (P:=P) (w:=w) (optRep_of hT hlo) (optRep_of hT hhi) ep eq (of_decide_eq_true d1) (of_decide_eq_true d2)
              refine .same hS (cv:=.string (s.extract p q)) ?_ (.frz (.str _))
              simp [execOp,hR.inv_str,Instr.sliceAt,Instr.slice,run_underlying hu,hrun]
            · cases hv
          · cases hv
        · cases hv
      · cases hc
    · rename_i n e hu
      split at hc
      · rename_i x' hn hx
        injection hc with hc;subst hc
        obtain ⟨hv,rfl⟩:=hr
        simp only [AOp.map,evP] at hv
        have hR:=AgQ hT hx
        split at hv
        · rename_i ls e1
          split at hv
          · rename_i hd
            injection hv with hv;subst hv
            simp only [Bool.and_eq_true,decide_eq_true_eq,List.all_eq_true] at hd
            obtain ⟨d1,d2⟩:=hd
            rw [e1] at hR
            have hcl:∀ v∈ls,v.cells=[v]:=fun v hv=>by have:=d2 v hv;cases v <;> first | rfl | (simp [AV.isInt] at this)
            have hfm:ls.flatMap AV.cells=ls:=by
             have:∀ m:List AV,(∀ v∈m,v.cells=[v])→m.flatMap AV.cells=m:=by
              intro m
              induction m with
              | nil=>intro _;rfl
              | cons v m ih=>intro h;rw [List.flatMap_cons,h v (by simp),ih (fun u hu=>h u (by simp [hu]))];rfl
             exact this ls hcl
            have hRf:=hR.inv_rptr
            cases hq:a.eval x <;> rw [hq] at hRf <;> cases hRf
            rename_i b off arr ee fr hb hlen h1 h
            refine .same hS (cv:=.slice (some ⟨b,off,none⟩) n n) ?_ (.frz (.list 1 ls b off arr ee fr n n hb d1.symm (Nat.le_refl _) (fun v hv=>by rw [hcl v hv];rfl) (by rw [hfm];exact hlen) (by rw [hfm];exact h1) (by rw [hfm];exact h)))
            have ha0:(⟨b,off,none⟩:Addr).add (0 * 1)=⟨b,off,none⟩:=rfl
            simp [execOp,hq,Instr.sliceAt,run_underlying hu,Instr.sureAddr,Instr.sliceBounds,size_run hn]
            try (intro _;rfl)
          · cases hv
        · cases hv
      · cases hc
    · cases hc
 case extract x i =>
  cases hx:cO x with
  | none=>rw [hx] at hc;cases hc
  |
   some y =>
   rw [hx] at hc;injection hc with hc;subst hc
   obtain ⟨hv,rfl⟩:=hr
   simp only [AOp.map,evP] at hv
   have hR:=AgQ hT hx
   split at hv
   · rename_i ls he
     rw [he] at hR
     obtain ⟨cs,hcs,k1,k2⟩:=hR.inv_tuple
     have hlt:i<cs.size:=by rw [← k1];exact (List.getElem?_eq_some_iff.1 hv).1
     have hcc:cs[i]? = some cs[i]:=Array.getElem?_eq_getElem hlt
     refine .same hS (cv:=cs[i]) ?_ (k2 _ _ _ hv hcc)
     simp [execOp,hcs,Instr.extract,hcc]
   · cases hv
 case makeFunc f fs cs =>
  split at hc
  · rename_i ys h1 h2
    injection hc with hc;subst hc
    obtain ⟨hv,rfl⟩:=hr
    simp only [AOp.map,evP] at hv
    injection hv with hv;subst hv
    obtain ⟨o1,o2⟩:=cOs_rep hT h2
    have hfs:fs=#[]:=by cases fs;simp_all
    subst hfs
    refine .same hS (cv:=.func f #[] (cs.map a.eval)) (by simp [execOp,Instr.makeFunc]) (.fn _ _ _ (by simpa using o1) ?_)
    intro i v c hv hcv
    simp only [Array.getElem?_map] at hcv
    cases hci:cs[i]? with
    | none=>rw [hci] at hcv;cases hcv
    | some x=>rw [hci] at hcv;simp at hcv;subst hcv;exact o2 i v x hv (by simpa using hci)
  · rename_i g r hfs0 h2
    cases hy:cOs (g::r) with
    | none=>rw [hy] at hc;cases hc
    |
     some ys =>
     rw [hy] at hc;injection hc with hc;subst hc
     obtain ⟨hv,rfl⟩:=hr
     simp only [AOp.map,evP] at hv
     injection hv with hv;subst hv
     rw [← hfs0] at hy
     obtain ⟨o1,o2⟩:=cOs_rep hT hy
     have hcs:cs=#[]:=by
      have:cs.toList=[]:=by
       cases hl:cs.toList with
       | nil=>rfl
       |
        cons p q =>
        rw [hl] at h2
        unfold cOs at h2
        split at h2 <;> simp at h2
      cases cs;simp_all
     subst hcs
     refine .same hS (cv:=.func f (fs.map a.eval) #[]) (by simp [execOp,Instr.makeFunc]) (.fb _ _ _ (by simpa using o1) ?_)
     intro i v c hv hcv
     simp only [Array.getElem?_map] at hcv
     cases hci:fs[i]? with
     | none=>rw [hci] at hcv;cases hcv
     | some x=>rw [hci] at hcv;simp at hcv;subst hcv;exact o2 i v x hv (by simpa using hci)
  · cases hc
 case index t x i =>
  split at hc
  · rename_i x' i' hu hx hi
    injection hc with hc;subst hc
    obtain ⟨hv,rfl⟩:=hr
    simp only [AOp.map,evP] at hv
    have hR:=AgQ hT hx
    have hI:=AgQ hT hi
    split at hv
    · rename_i s n e1 e2
      rw [e1] at hR
      split at hv
      · rename_i b hb
        injection hv with hv;subst hv
        obtain ⟨k,z,e3,h0,rfl⟩:=natOf_some e2
        rw [e3] at hI
        refine .same hS (cv:=.int .u8 b.toNat) ?_ (.frz (.int _ _))
        simp [execOp,hR.inv_str,hI.inv_int,Instr.index,asIntOf,run_underlying hu,h0,hb]
      · cases hv
    · cases hv
  · cases hc
 case makeSlice t n c =>
  split at hc
  · rename_i e he
    split at hc
    · rename_i inf n' c' hi hn hcc
      split at hc
      · rename_i z hz
        split at hc
        · rename_i zv hzv
          split at hc
          · rename_i hd
            simp only [Bool.and_eq_true,decide_eq_true_eq] at hd
            injection hc with hc;subst hc
            simp only [OpR,AOp.map] at hr
            obtain ⟨k,k',m,e1,e2,m0,mb,m63,rfl,rfl⟩:=hr
            have r1:=AgQ hT hn
            have r2:=AgQ hT hcc
            rw [e1] at r1;rw [e2] at r2
            have hrun:=run_make (P:=P) w t e inf z (elemB_eq he) hi hz k k' m m m0 (Int.le_refl _) mb m63
            have hR:Rep fz pl zv z:=.frz (constV_rep hzv)
            have hok:zv.okSt=true:=by
             unfold constV at hzv
             split at hzv
             · cases hl:leafs _ with
               | none=>rw [hl] at hzv;cases hzv
               | some r=>rw [hl] at hzv;injection hzv with hzv;subst hzv;rfl
             · unfold leafV at hzv
               split at hzv <;> first | (cases hzv;done) | (injection hzv with hzv;subst hzv;rfl)
            obtain ⟨c1,c2,c3⟩:=hR.cells hok
            have hel:∀ x∈List.replicate m.toNat zv,x.cells.length=inf.size:=by
             intro x hx
             rw [List.eq_of_mem_replicate hx];exact hd.1.symm
            have key:∀ (i:Nat) v c,((List.replicate m.toNat zv).flatMap AV.cells)[i]? = some v→(madeCells z.cells (m.toNat * inf.size))[i]? = some c→c.oneCell'=true∧Rep fz pl v c:=by
             intro i v c hv hcv
             by_cases hz0:0<inf.size
             · obtain ⟨e1,g1,g2⟩:=BcQ hel hv hz0
               rw [List.getElem?_replicate] at g1
               split at g1
               · injection g1 with g1;subst g1
                 have hlt:=Nat.mod_lt i hz0
                 have:c=z.cells[i % inf.size]!:=by
                  simp only [madeCells,Array.getElem?_map,Array.getElem?_range] at hcv
                  split at hcv
                  · simp [hd.2] at hcv;exact hcv.symm
                  · simp at hcv
                 have hcz:z.cells[i % inf.size]? = some c:=by
                  rw [this,getElem!_pos z.cells (i % inf.size) (by omega)]
                  exact Array.getElem?_eq_getElem (by omega)
                 exact ⟨c2 _ _ hcz,c3 _ _ _ g2 hcz⟩
               · cases g1
             · have h0:inf.size=0:=by omega
               have:=(List.getElem?_eq_some_iff.1 hv).1
               rw [AeX hel,h0] at this
               simp at this
            have S1:=hS.alloc_box inf.size (List.replicate m.toNat zv) (madeCells z.cells (m.toNat * inf.size)) e hel (by rw [AeX hel,size_madeCells];simp) (fun i v c a b=>(key i v c a b).1) (fun i v c a b=>(key i v c a b).2)
            refine ⟨.slice (some ⟨w.heap.size,0,none⟩) m.toNat m.toNat,_,fz,_,.inl ?_,.refl _,List.prefix_append _ _,?_,S1⟩
            · simp only [execOp,Sem.run_bind,r1.inv_int,r2.inv_int,hrun];rfl
            · have:=Rep.sl (fz:=fz) (pl:=pl++[some (w.heap.size,(madeCells z.cells (m.toNat * inf.size)).size)]) inf.size bx.length 0 m.toNat w.heap.size (madeCells z.cells (m.toNat * inf.size)).size m.toNat (by rw [← hS.len];simp) (Nat.le_refl _) (by rw [size_madeCells];simp)
              simpa using this
          · cases hc
        · cases hc
      · cases hc
    · cases hc
  · cases hc
 case call c =>
  obtain ⟨callee,args,argTypes⟩:=c
  simp only at hc
  split at hc
  · -- len
    rename_i x t h1 h2
    have ha:args=#[x]:=by cases args;simp_all
    have ht:argTypes=#[t]:=by cases argTypes;simp_all
    subst ha;subst ht
    split at hc
    · rename_i e hu
      cases hy:cO x with
      | none=>rw [hy] at hc;cases hc
      |
       some y =>
       rw [hy] at hc;injection hc with hc;subst hc
       obtain ⟨hv,rfl⟩:=hr
       simp only [AOp.map,evP] at hv
       have hR:=AgQ hT hy
       have fin:∀ ao (n:Nat) cap,a.eval x=.slice ao n cap→v=.int .i64 n→Yld P w0 pr fz pl bx' v ⟨dst,.call ⟨.builtin .len,#[x],#[t]⟩,type,pos,after,guard⟩ a w:=by
        intro ao n cap hb hv
        subst hv
        exact .same hS (cv:=.int .i64 n) (by simp [execOp,resolve,invoke,builtin,Builtin.len_,run_underlying hu,hb,goInt]) (.frz (.int _ _))
       split at hv
       · rename_i s ls _ e1;injection hv with hv
         rw [e1] at hR
         obtain ⟨ao,cap,hb⟩:=hR.inv_list.list_len
         exact fin _ _ _ hb hv.symm
       · rename_i s k off n _ e1;injection hv with hv
         rw [e1] at hR
         rcases hR.inv_sl with ⟨b,q,cap,hb,_⟩ | ⟨ao,hb,h0⟩
         · exact fin _ _ _ hb hv.symm
         · subst h0;exact fin _ _ _ hb hv.symm
       · rename_i e1;injection hv with hv
         rw [e1] at hR
         obtain ⟨ao,hb⟩:=hR.inv_nils
         exact fin _ 0 _ hb hv.symm
       · rename_i e0 e1;cases e0
       · cases hv
    · rename_i hu
      cases hy:cO x with
      | none=>rw [hy] at hc;cases hc
      |
       some y =>
       rw [hy] at hc;injection hc with hc;subst hc
       obtain ⟨hv,rfl⟩:=hr
       simp only [AOp.map,evP] at hv
       have hR:=AgQ hT hy
       split at hv
       · rename_i e0 e1;cases e0
       · rename_i e0 e1;cases e0
       · rename_i e0 e1;cases e0
       · rename_i s _ e1;injection hv with hv;subst hv
         rw [e1] at hR
         exact .same hS (cv:=.int .i64 s.size) (by simp [execOp,resolve,invoke,builtin,Builtin.len_,run_underlying hu,hR.inv_str,goInt]) (.frz (.int _ _))
       · cases hv
    · cases hc
  · -- append
    rename_i x y t u h1 h2
    have ha:args=#[x,y]:=by cases args;simp_all
    have ht:argTypes=#[t,u]:=by cases argTypes;simp_all
    subst ha;subst ht
    split at hc
    · rename_i e e2 he he2
      split at hc
      · rename_i inf x' y' hi hx hy
        split at hc
        · rename_i z hz
          split at hc
          · rename_i hd
            simp only [Bool.and_eq_true,decide_eq_true_eq] at hd
            split at hc
            case h_2 =>
             injection hc with hc;subst hc
             obtain ⟨hv,rfl⟩:=hr
             simp only [AOp.map,evP] at hv
             have rx:=AgQ hT hx
             have ry:=AgQ hT hy
             split at hv
             · rename_i q ls e1 e2
               split at hv
               · rename_i hq
                 simp only [Bool.and_eq_true,decide_eq_true_eq] at hq
                 obtain ⟨⟨⟨q1,q2⟩,q3⟩,q4⟩:=hq
                 injection hv with hv;subst hv
                 rw [e1] at rx;rw [e2] at ry
                 obtain ⟨cv,w',fz',k1,k2,k3,k4⟩:=appf_sound (P:=P) he he2 hi hz hd.1 hd.2 hS rx ry (ys:=ls) (by simp [elemsOf,q1]) q2 q3 (by unfold maxLen;omega) type
                 refine ⟨cv,w',fz',pl,.inl (by simp [execOp,resolve,invoke,builtin,k1]),k2,List.prefix_refl _,?_,k4⟩
                 subst q1
                 cases ls with
                 |
                  nil =>
                  obtain ⟨ao,rfl⟩:=(Rep.frz (pl:=pl) k3:Rep fz' pl .nils cv).inv_nils
                  exact .frz (.list0 _ _ _)
                 | cons v r=>exact .frz k3
               · cases hv
             · rename_i e1 e2
               injection hv with hv;subst hv
               rw [e1] at rx;rw [e2] at ry
               obtain ⟨cv,w',fz',k1,k2,k3,k4⟩:=appf_sound (P:=P) he he2 hi hz hd.1 hd.2 hS rx ry (ys:=[]) rfl rfl (by simp) (by simp) type
               exact ⟨cv,w',fz',pl,.inl (by simp [execOp,resolve,invoke,builtin,k1]),k2,List.prefix_refl _,.frz k3,k4⟩
             · cases hv
            injection hc with hc;subst hc
            simp only [OpR,AOp.map] at hr
            obtain ⟨xs,k,ys,r1,r2,r3,r4,rfl,rfl⟩:=hr
            obtain ⟨cv,w',pl',k1,k2,k3,k4⟩:=app_sound (P:=P) he he2 hi hz hd.1 hd.2 hS (AgQ hT hx) (AgQ hT hy) r1 r2 r3 r4 type
            refine ⟨cv,w',fz,pl',.inl ?_,.refl _,k2,k3,k4⟩
            simp [execOp,resolve,invoke,builtin,k1]
          · cases hc
        · cases hc
      · cases hc
    · cases hc
  · -- clear
    rename_i x t h1 h2
    have ha:args=#[x]:=by cases args;simp_all
    have ht:argTypes=#[t]:=by cases argTypes;simp_all
    subst ha;subst ht
    split at hc
    · rename_i hm
      cases hx:cO x with
      | none=>rw [hx] at hc;cases hc
      |
       some y =>
       rw [hx] at hc;injection hc with hc;subst hc
       simp only [OpR,AOp.map] at hr
       obtain ⟨w',k1,k2⟩:=clrm_sound hm hS (AgQ hT hx) hr (ty:=type)
       have hvt:=clrm_val hr
       subst hvt
       exact ⟨.tuple #[],w',fz,pl,.inl (by simp [execOp,resolve,invoke,builtin,k1]),.refl _,List.prefix_refl _,.frz (.tuple [] #[] rfl (by simp)),k2⟩
    · rename_i e hmm he
      split at hc
      · rename_i z n x' hz hn hx
        split at hc
        · rename_i zs hzs hd
          injection hc with hc;subst hc
          simp only [OpR,AOp.map,evW] at hr
          cases hi:P.info? e with
          | none=>rw [hi] at hz;cases hz
          |
           some i =>
           rw [hi] at hz
           simp only [Option.bind_some] at hz
           have hni:i.size=n:=by simp [BpZ,hi] at hn;exact hn
           have rx:=AgQ hT hx
           split at hr
           · rename_i s k off m e1
             split at hr
             · rename_i s' es hs hk
               split at hr
               · rename_i hs'
                 have q1:s=n:=of_decide_eq_true hs
                 have q2:s'=n:=of_decide_eq_true hs'
                 subst q1;subst q2
                 simp only [Option.some.injEq,Prod.mk.injEq] at hr
                 obtain ⟨rfl,rfl⟩:=hr
                 rw [e1] at rx
                 obtain ⟨w',k1,k2⟩:=clr_sound (P:=P) (s:=0) he hi hz hni hzs (of_decide_eq_true hd) hS rx hk type
                 exact ⟨.tuple #[],w',fz,pl,.inl (by simp [execOp,resolve,invoke,builtin,k1]),.refl _,List.prefix_refl _,.frz (.tuple [] #[] rfl (by simp)),k2⟩
               · cases hr
             · cases hr
           · rename_i e1
             simp only [Option.some.injEq,Prod.mk.injEq] at hr
             obtain ⟨rfl,rfl⟩:=hr
             rw [e1] at rx
             obtain ⟨ao,hb⟩:=rx.inv_nils
             refine .same hS (cv:=.tuple #[]) ?_ (.frz (.tuple [] #[] rfl (by simp)))
             have hu:=elemB_eq he
             cases ao <;> simp [execOp,resolve,invoke,builtin,Builtin.clear_,run_underlying hu,hb]
           · cases hr
        · cases hc
      · cases hc
    · cases hc
  · -- max
    rename_i x xs h1
    have ha:args=(x::xs).toArray:=by cases args;simp_all
    subst ha
    split at hc
    · rename_i x' xs' hx hxs
      injection hc with hc;subst hc
      obtain ⟨hv,rfl⟩:=hr
      simp only [AOp.map,evP] at hv
      split at hv
      · rename_i hint
        obtain ⟨o1,o2⟩:=cOs_rep hT hxs
        obtain ⟨cv,k1,k2⟩:=maxA_sound (P:=P) (w:=w) (xs'.map (·.ev l)) (x'.ev l) v hv hint (a.eval x) (xs.map a.eval) (AgQ hT hx) (by simpa using o1) (fun i y z h1 h2=>by
         rw [List.getElem?_map] at h2
         cases hq:xs[i]? with
         | none=>rw [hq] at h2;cases h2
         | some q=>rw [hq] at h2;simp at h2;subst h2;exact o2 i y q h1 hq)
        refine .same hS (cv:=cv) ?_ k2
        simp [execOp,resolve,invoke,builtin,Builtin.max_,k1]
      · cases hv
    · cases hc
  · -- min
    rename_i x xs h1
    have ha:args=(x::xs).toArray:=by cases args;simp_all
    subst ha
    split at hc
    · rename_i x' xs' hx hxs
      injection hc with hc;subst hc
      obtain ⟨hv,rfl⟩:=hr
      simp only [AOp.map,evP] at hv
      split at hv
      · rename_i hint
        obtain ⟨o1,o2⟩:=cOs_rep hT hxs
        obtain ⟨cv,k1,k2⟩:=minA_sound (P:=P) (w:=w) (xs'.map (·.ev l)) (x'.ev l) v hv hint (a.eval x) (xs.map a.eval) (AgQ hT hx) (by simpa using o1) (fun i y z h1 h2=>by
         rw [List.getElem?_map] at h2
         cases hq:xs[i]? with
         | none=>rw [hq] at h2;cases h2
         | some q=>rw [hq] at h2;simp at h2;subst h2;exact o2 i y q h1 hq)
        refine .same hS (cv:=cv) ?_ k2
        simp [execOp,resolve,invoke,builtin,Builtin.min_,k1]
      · cases hv
    · cases hc
  · -- a call of a function
    split at hc
    · split at hc
      · injection hc with hc;subst hc;exact hr.elim
      · injection hc with hc;subst hc;exact hr.elim
      · injection hc with hc;subst hc;exact hr.elim
      · injection hc with hc;subst hc;exact hr.elim
    · cases hc
  · cases hc
 case makeMap t r =>
  cases r with
  | some r=>cases hc
  |
   none =>
   simp only at hc
   split at hc
   · injection hc with hc;subst hc
     simp only [OpR,AOp.map] at hr
     obtain ⟨cv,w',pl',k1,k2,k3,k4⟩:=mkm_sound (P:=P) (t:=t) hS hr
     refine ⟨cv,w',fz,pl',.inl ?_,.refl _,k2,k3,k4⟩
     simp [execOp,k1]
   · injection hc with hc;subst hc
     simp only [OpR,AOp.map] at hr
     obtain ⟨cv,w',pl',k1,k2,k3,k4⟩:=mkv_sound (P:=P) (t:=t) hS hr
     refine ⟨cv,w',fz,pl',.inl ?_,.refl _,k2,k3,k4⟩
     simp [execOp,k1]
 case mapUpdate t m k v =>
  split at hc
  · split at hc
    · rename_i m' k' hkb hm hk
      injection hc with hc;subst hc
      simp only [OpR,AOp.map] at hr
      obtain ⟨w',k1,k2⟩:=mset_sound hkb hS (AgQ hT hm) (AgQ hT hk) (a.eval v) hr
      have hvt:=mset_val hr
      subst hvt
      refine ⟨undef,w',fz,pl,.inr ⟨?_,rfl⟩,.refl _,List.prefix_refl _,.frz (.tuple [] #[] rfl (by simp)),k2⟩
      simp only [execOp,Sem.run_bind,k1];rfl
    · cases hc
  · split at hc
    · rename_i tk m' k' v' hkd hm hk hv'
      injection hc with hc;subst hc
      simp only [OpR,AOp.map] at hr
      obtain ⟨rfl,w',k1,k2⟩:=mputv_sound hkd hS (AgQ hT hm) (AgQ hT hk) (AgQ hT hv') hr
      refine ⟨undef,w',fz,pl,.inr ⟨?_,rfl⟩,.refl _,List.prefix_refl _,.frz (.tuple [] #[] rfl (by simp)),k2⟩
      simp only [execOp,Sem.run_bind,k1];rfl
    · cases hc
 case lookup t m k ok =>
  split at hc
  · rename_i tk z m' k' hkd hz hm hk
    injection hc with hc;subst hc
    simp only [OpR,AOp.map] at hr
    obtain ⟨hr,rfl⟩:=hr
    obtain ⟨cv,k1,k2⟩:=mgetv_sound hkd hz hS (AgQ hT hm) (AgQ hT hk) hr
    refine ⟨cv,w,fz,pl,.inl ?_,.refl _,List.prefix_refl _,k2,hS⟩
    simp [execOp,k1]
  · cases hc
 all_goals cases hc
end
end Go.Proofs.YtcmphhedaefcgaaGreatDoor.Av
end
