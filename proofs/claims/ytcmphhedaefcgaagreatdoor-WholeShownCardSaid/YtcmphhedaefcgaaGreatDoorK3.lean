/- Rules of a walk; texts, parser, printer and builder as plain functions; a printed text is read as what was printed. -/
import Derived.IntWalk
import Derived.Deep.Slices
import Derived.WideShapes
import Derived.OpenShut
import Derived.RowKit
import Derived.Lib.IndexAny
import Derived.Lib.ParseIntB
import Derived.Lib.ItoaNum
import Derived.Lib.ItoaLen
import Derived.Lib.Join
import Derived.Shelf.SlSortCmp.WholeK
import Derived.Ground.SlsfProg
import Derived.Test.YtcmphhedaefcgaaGreatDoorProg
import Derived.Shelf.SlSortCmp.NoneTotal
import Derived.WalkKit
import Derived.Handy
import Derived.ProofKit
import Derived.Deep.Draws
import Derived.Deep.QuietTactic
import Derived.BigQuiet
import Derived.LoopTactic
import Derived.Deep.RegionHeld3
import Derived.Shelf.Strings.Builder1
import Derived.Shelf.Strings.Builder2
import Derived.Shelf.Strings.OnBuilder
import Derived.Shelf.Small.Bits
import Derived.Shelf.Small.Strs
import Derived.Shelf.Strings.BuilderF
import Derived.Shelf.Strings.BuilderK
import Derived.Shelf.Strconv.Itoa0
import Derived.Shelf.Strconv.Itoa1
import Derived.Shelf.LaysM
import Derived.Shelf.Strconv.Itoa2
import Derived.Shelf.Strconv.Itoa3
import Derived.Shelf.Strconv.Itoa4
import Derived.Shelf.Strconv.ParseIntEmpty
import Derived.Shelf.Strconv.Clone
import Derived.Shelf.Strconv.SyntaxError
import Derived.Shelf.LaysC
import Derived.Shelf.Strconv.ToError
import Derived.Shelf.Strconv.Lower
import Derived.Shelf.Strconv.ParseUint10
import Derived.Shelf.Strconv.ParseUint10Empty
import Derived.Shelf.Strconv.ParseUint10Any
import Derived.Shelf.Strconv.ParseInt10
import Derived.Shelf.Strconv.RangeError
import Derived.Shelf.Strconv.ToErrorRange
import Derived.Shelf.Strconv.ParseUintEmpty
import Derived.Shelf.Strconv.ParseUint10b64
import Derived.Shelf.Strconv.ParseUint10b32
import Derived.Shelf.Strconv.ParseUint10b16
import Derived.Shelf.Strconv.ParseUint10b8
import Derived.Shelf.Strconv.ParseUint10At
import Derived.Shelf.Strconv.ParseInt10At64
import Derived.Shelf.Strconv.ParseInt10At32
import Derived.Shelf.Strconv.ParseInt10At16
import Derived.Shelf.Strconv.ParseInt10At8
import Derived.Shelf.Strconv.ParseInt10All
import Derived.Shelf.Strconv.ParseIntPublic10
import Derived.Shelf.Strconv.ErrVarParseInt
import Derived.Shelf.Strings.Search1
import Derived.Shelf.Strings.Prefix
import Derived.Shelf.Bits.Mul64
import Derived.Shelf.Slices.Turned
import Derived.Below
import Derived.Test.YtcmphhedaefcgaaGreatDoorK2
set_option linter.unusedVariables false
set_option linter.unusedSimpArgs false
section
namespace Go.Proofs.YtcmphhedaefcgaaGreatDoor.Av
abbrev Rg:=Int × Int
def eI (n:Int):AV:=.int .i64 n
def eRg (r:Rg):AV:=.agg [.int .i64 r.1,.int .i64 r.2]
def eIs (l:List Int):AV:=.list 1 (l.map eI)
def eRgs (l:List Rg):AV:=.list 2 (l.map eRg)
def eDoms (d:List (List Rg)):AV:=.list 1 (d.map eRgs)
abbrev Con:=Int × List Int × List Int × Int
def eCon (c:Con):AV:=.agg [.int .i64 c.1,eIs c.2.1,eIs c.2.2.1,.int .i64 c.2.2.2]
theorem flatL_map {α:Type} (f:α→AV) (h:∀ x,(f x).flat=true):∀ l:List α,BdX (l.map f)=true
 | []=>rfl
 | x::l=>by simp [BdX,h x,flatL_map f h l]
theorem flatL_eI (l:List Int):BdX (l.map eI)=true:=flatL_map _ (fun _=>rfl) l
theorem AdQ (l:List Rg):BdX (l.map eRg)=true:=flatL_map _ (fun _=>rfl) l
theorem AdY (l:List (List Rg)):BdX (l.map eRgs)=true:=flatL_map _ (fun _=>rfl) l
theorem wk_same (v:AV):wk v v=True:=eq_true (wk_refl v)
theorem wkL_same (v:List AV):wkL v v=True:=eq_true (AaQ v)
theorem wkEs_same (v:List AV):wkEs v v=True:=eq_true (wkEs_refl v)
theorem om_I (n:Int):Option.map eI (some n)=some (.int .i64 n):=rfl
theorem om_Rg (x y:Int):Option.map eRg (some (x,y))=some (.agg [.int .i64 x,.int .i64 y]):=rfl
theorem om_Rgs (l:List Rg):Option.map eRgs (some l)=some (.list 2 (l.map eRg)):=rfl
theorem AdZ (l:List Con):BdX (l.map eCon)=true:=flatL_map _ (fun _=>rfl) l
theorem snoc_Rg (l:List Rg) (x y:Int):l.map eRg++[.agg [.int .i64 x,.int .i64 y]]=(l++[(x,y)]).map eRg:=by simp [eRg]
theorem snoc_Rgs (l:List (List Rg)) (r:List Rg):l.map eRgs++[.list 2 (r.map eRg)]=(l++[r]).map eRgs:=by simp [eRgs]
theorem BqQ {α:Type} (f:α→AV) (l:List α):(l.map f).take l.length=l.map f:=by
 have:=List.take_length (l:=l.map f)
 rwa [List.length_map] at this
theorem om_agg (l:List AV):Option.map AV.agg (some l)=some (.agg l):=rfl
def tm (n:Nat) (l:List (Nat × AV)):List AV:=l.foldl (fun s p=>setT s p.1 p.2) (List.replicate n .any)
theorem BbZ {m:Nat} {body:AwZ→List AV→Bx→Prop} {Q:AwZ} {l:List AV} {bx:Bx} {β:Type} (J:β→Prop) (S:β→List AV) (B:β→Bx) (μ:β→Nat) (b0:β) (h0:J b0) (hE:Emb m (S b0) (B b0) l bx)
 (h:∀ b,J b→body (seqQ (fun l' bx'=>∃ b',J b'∧μ b'<μ b∧Emb m (S b') (B b') l' bx') Q) (S b) (B b)):LoopK m body Q l bx:=⟨[],Emb,fun _ _ _ _ _ h=>h.toW,[],[],β,J,S,B,μ,b0,rfl,rfl,h0,hE,h⟩
theorem loop_ruleV {m:Nat} {body:AwZ→List AV→Bx→Prop} {Q:AwZ} {l:List AV} {bx:Bx} {β:Type} (ts:List (Nat × Nat)) (J:β→Prop) (S:β→List AV) (B:β→Bx) (μ:β→Nat) (b0:β) (hv:virtOk ts l bx.length=true) (h0:J b0) (hE:Emb m (S b0) (B b0) (virtL ts l bx.length) (virtB ts bx))
 (h:∀ b,J b→body (seqQ (fun l' bx'=>∃ b',J b'∧μ b'<μ b∧Emb m (S b') (B b') l' bx') Q) (S b) (B b)):LoopK m body Q l bx:=⟨[],Emb,fun _ _ _ _ _ h=>h.toW,[],ts,β,J,S,B,μ,b0,rfl,hv,h0,hE,h⟩
theorem loop_ruleF {m:Nat} {body:AwZ→List AV→Bx→Prop} {Q:AwZ} {l:List AV} {bx:Bx} {β:Type} (fs:List (Nat × Nat × Nat)) (ts:List (Nat × Nat)) (J:β→Prop) (S:β→List AV) (B:β→Bx) (μ:β→Nat) (b0:β) (hf:virtFok fs bx=true) (hv:virtOk ts l (virtF fs bx).length=true) (h0:J b0) (hE:Emb m (S b0) (B b0) (virtL ts l (virtF fs bx).length) (virtB ts (virtF fs bx)))
 (h:∀ b,J b→body (seqQ (fun l' bx'=>∃ b',J b'∧μ b'<μ b∧Emb m (S b') (B b') l' bx') Q) (S b) (B b)):LoopK m body Q l bx:=⟨[],Emb,fun _ _ _ _ _ h=>h.toW,fs,ts,β,J,S,B,μ,b0,hf,hv,h0,hE,h⟩
theorem loop_ruleW {m:Nat} {body:AwZ→List AV→Bx→Prop} {Q:AwZ} {l:List AV} {bx:Bx} {β:Type} (ts:List (Nat × Nat)) (J:β→Prop) (S:β→List AV) (B:β→Bx) (μ:β→Nat) (b0:β) (hv:virtOk ts l bx.length=true) (h0:J b0) (hE:EmbW m (S b0) (B b0) (virtL ts l bx.length) (virtB ts bx))
 (h:∀ b,J b→body (seqQ (fun l' bx'=>∃ b',J b'∧μ b'<μ b∧EmbW m (S b') (B b') l' bx') Q) (S b) (B b)):LoopK m body Q l bx:=⟨[],EmbW,fun _ _ _ _ _ h=>h,[],ts,β,J,S,B,μ,b0,rfl,hv,h0,hE,h⟩
theorem loop_ruleWF {m:Nat} {body:AwZ→List AV→Bx→Prop} {Q:AwZ} {l:List AV} {bx:Bx} {β:Type} (fs:List (Nat × Nat × Nat)) (ts:List (Nat × Nat)) (J:β→Prop) (S:β→List AV) (B:β→Bx) (μ:β→Nat) (b0:β) (hf:virtFok fs bx=true) (hv:virtOk ts l (virtF fs bx).length=true) (h0:J b0) (hE:EmbW m (S b0) (B b0) (virtL ts l (virtF fs bx).length) (virtB ts (virtF fs bx)))
 (h:∀ b,J b→body (seqQ (fun l' bx'=>∃ b',J b'∧μ b'<μ b∧EmbW m (S b') (B b') l' bx') Q) (S b) (B b)):LoopK m body Q l bx:=⟨[],EmbW,fun _ _ _ _ _ h=>h,fs,ts,β,J,S,B,μ,b0,hf,hv,h0,hE,h⟩
theorem loop_freeze {m:Nat} {body:AwZ→List AV→Bx→Prop} {Q:AwZ} {l:List AV} {bx:Bx} (zs:List Nat) (h:frzSs zs (LoopK m body Q) l bx):LoopK m body Q l bx:=by
 suffices ∀ (zs:List Nat) (l:List AV) (bx:Bx),frzSs zs (LoopK m body Q) l bx→∃ ys,frzSs ys (LoopK0 m body Q) l bx from this zs l bx h
 intro zs
 induction zs with
 | nil=>intro l bx h;exact h
 |
  cons t r ih =>
  intro l bx h
  have key:∀ {K:List AV→Bx→Prop} {l' bx'},frzS t K l' bx'→∃ l2 bx2,K l2 bx2∧∀ K':List AV→Bx→Prop,K' l2 bx2→frzS t K' l' bx':=by
   intro K l' bx' hk
   unfold frzS at hk ⊢
   split at hk
   · exact ⟨_,_,hk,fun K' h=>h⟩
   · exact ⟨_,_,hk,fun K' h=>h⟩
   · split at hk
     · split at hk
       · exact ⟨_,_,hk,fun K' h=>h⟩
       · exact hk.elim
     · exact hk.elim
   · exact hk.elim
  obtain ⟨l2,bx2,h1,h2⟩:=key (K:=frzSs r (LoopK m body Q)) h
  obtain ⟨ys,h3⟩:=ih l2 bx2 h1
  exact ⟨t::ys,h2 (frzSs ys (LoopK0 m body Q)) h3⟩
theorem AaY {P:Program} {fid:FuncId} {args' args:List AV} {K:AV→Bx→Prop} {bx:Bx} {v:AV} (hc:Ctr P fid args' [] v []) (hw:wkL args' args) (hf:BdX args=true) (h:K v bx):CallAK P (.fn (.func fid) []) args K bx :=
 ⟨v,⟨fid,[],args',rfl,hc,by rw [List.append_nil];exact hw,by rw [List.append_nil];exact hf⟩,h⟩
theorem wkN_sl (s k o n:Nat) (t k' o' n':Nat):wkN (.sl s k o n) (.sl t k' o' n')=(AV.sl s k o n=.sl t k' o' n'):=by
 cases n <;> simp [wkN,wk]
theorem wkN_nil (s k o:Nat):wkN (.sl s k o 0) .nils=True:=rfl
theorem wkN_tuple (l:List AV) (u:AV):wkN (.tuple l) u=wk (.tuple l) u:=rfl
theorem wkN_int (k:IntKind) (n:Int) (u:AV):wkN (.int k n) u=wk (.int k n) u:=rfl
theorem wkN_bool (b:Bool) (u:AV):wkN (.bool b) u=wk (.bool b) u:=rfl
theorem wkN_agg (l:List AV) (u:AV):wkN (.agg l) u=wk (.agg l) u:=rfl
def reB (ix:List Nat):Option (Nat × List AV)→Option (Nat × List AV)
 | some (s,es)=>some (s,renEs ix es)
 | none=>none
theorem reB_eq (ix:List Nat) (b:Option (Nat × List AV)):reB ix b=b.map fun x=>(x.1,renEs ix x.2):=by cases b <;> rfl
theorem mg_cons (ix js:List Nat) (j:Nat) (b:Option (Nat × List AV)) (bs bx:Bx):mergeB ix (j::js) (b::bs) bx=match decide (j<bx.length) with
 | true=>mergeB ix js bs (ArZ bx j (reB ix b))
 | false=>mergeB ix js bs (bx++[reB ix b]):=by rw [reB_eq];rfl
theorem mg_nil2 (ix js:List Nat) (bx:Bx):mergeB ix js [] bx=bx:=by cases js <;> rfl
theorem nn_nil (s:Nat):AV.nonNil (.list s [])=false:=rfl
theorem om_ev (l:List AV) (x:AOpd):Option.map (fun x=>AOpd.ev l x) (some x)=some (x.ev l):=rfl
theorem AaX {P:Program} {fid:FuncId} {args' args:List AV} {K:AV→Bx→Prop} {bx bs bs':Bx} {r:AV} (ix:List Nat) (hc:Ctr P fid args' bs r bs') (hn:ix.Nodup) (hE:embB bs.length ix bx ix bs)
 (ho:args'.all (okR bs.length)=true) (hw:wkL (args'.map (ren ix)) args) (h1:okR bs'.length r=true) (h2:okBx bs'.length bs'=true)
 (h:K (ren (ix++BiX bx.length (bs'.length-bs.length)) r) (mergeB (ix++BiX bx.length (bs'.length-bs.length)) (ix++BiX bx.length (bs'.length-bs.length)) bs' bx)):CallMK P (.fn (.func fid) []) args K bx :=
 ⟨_,_,⟨fid,args,ix,args',bs,r,bs',.inl ⟨[],rfl,(List.append_nil _).symm⟩,hc,hE,hn,ho,hw,h1,h2,rfl,rfl⟩,h⟩
theorem callO_rule {P:Program} {fid:FuncId} {args' args:List AV} {K:AV→Bx→Prop} {bx bn:Bx} {r:AV} (hc:Ctr P fid args' [] r bn)
 (ho:args'.all (okR 0)=true) (hw:wkL (args'.map (ren [])) args) (h1:okR bn.length r=true) (h2:okBx bn.length bn=true)
 (h:K (ren (BiX bx.length bn.length) r) (bx++bn.map (reB (BiX bx.length bn.length)))):CallOK P (.fn (.func fid) []) args K bx:=by
 have e0:bn.map (reB (BiX bx.length bn.length))=bn.map (reBox (BiX bx.length bn.length)):=List.map_congr_left fun b _=>reB_eq _ b
 rw [e0] at h
 have e:mergeB (BiX bx.length bn.length) (BiX bx.length bn.length) bn bx=bx++bn.map (reBox (BiX bx.length bn.length)):=merge_push _ _ _ _ rfl
 refine ⟨_,_,⟨⟨fid,args,[],args',[],r,bn,.inl ⟨[],rfl,(List.append_nil _).symm⟩,hc,trivial,List.nodup_nil,ho,hw,h1,h2,rfl,rfl⟩,?_⟩,?_⟩
 · simp only [List.nil_append,List.length_nil,Nat.sub_zero,e]
   exact List.prefix_append _ _
 · simp only [List.nil_append,List.length_nil,Nat.sub_zero,e]
   exact h
theorem AfZ {P:Program} {fid:FuncId} {args' args:List AV} {K:AV→Bx→Prop} {bx:Bx} {v:AV} (hc:Ctr P fid args' [] v []) (hw:wkL args' (args.map (view 8 bx))) (hs:v.scal=true) (h:K v bx):CallVK P (.fn (.func fid) []) args K bx :=
 ⟨v,⟨8,fid,[],args',rfl,hc,by rw [List.append_nil];exact hw,hs⟩,h⟩
theorem AiY {n:Int} (h1:-9223372036854775808≤n) (h2:n≤9223372036854775807):IntKind.i64.wrap n=n:=IntWalk.i64_in n (by omega)
end Go.Proofs.YtcmphhedaefcgaaGreatDoor.Av
namespace Go.Proofs.YtcmphhedaefcgaaGreatDoor.Av
section
variable (P:Program) (m:Nat) (Q:AwZ) (x:AV) (l:List AV) (bx:Bx)
theorem w_skip:awp P m .skip Q (x::l) bx=Q .normal (x::l) bx:=rfl
theorem w_region (ops:List AOper):awp P m (.region ops) Q (x::l) bx=AbX P ops (Q .normal) (x::l) bx:=rfl
theorem w_seq (a b:ACode):awp P m (.seq a b) Q (x::l) bx=awp P m a (seqQ (awp P m b Q) Q) (x::l) bx:=rfl
theorem w_cond (c:AOpd) (a b:ACode):awp P m (.cond c a b) Q (x::l) bx=match c.ev (x::l) with
 | .bool t=>if t=true then awp P m a Q (x::l) bx else awp P m b Q (x::l) bx
 | _=>False:=rfl
theorem w_block (id:Nat) (c:ACode):awp P m (.block id c) Q (x::l) bx=awp P m c (blockQ id Q) (x::l) bx:=rfl
theorem w_loop (c:ACode):awp P m (.loop c) Q (x::l) bx=LoopK m (awp P m c) Q (x::l) bx:=rfl
theorem w_exit (id:Nat):awp P m (.exit id) Q (x::l) bx=Q (.exit id) (x::l) bx:=rfl
theorem w_ret:awp P m .ret Q (x::l) bx=Q .ret (x::l) bx:=rfl
theorem w_nil (K:List AV→Bx→Prop):AbX P [] K (x::l) bx=K (x::l) bx:=rfl
theorem w_cons (o:AOper) (os:List AOper) (K:List AV→Bx→Prop):AbX P (o::os) K (x::l) bx=awpOper P o (AbX P os K) (x::l) bx:=rfl
theorem q_normal (K:List AV→Bx→Prop):seqQ K Q .normal (x::l) bx=K (x::l) bx:=rfl
theorem q_exit (K:List AV→Bx→Prop) (id:Nat):seqQ K Q (.exit id) (x::l) bx=Q (.exit id) (x::l) bx:=rfl
theorem q_ret (K:List AV→Bx→Prop):seqQ K Q .ret (x::l) bx=Q .ret (x::l) bx:=rfl
theorem b_normal (id:Nat):blockQ id Q .normal (x::l) bx=Q .normal (x::l) bx:=rfl
theorem b_exit (id i:Nat):blockQ id Q (.exit i) (x::l) bx=match decide (i=id) with
 | true=>Q .normal (x::l) bx
 | false=>Q (.exit i) (x::l) bx:=rfl
theorem b_ret (id:Nat):blockQ id Q .ret (x::l) bx=Q .ret (x::l) bx:=rfl
theorem f_ret (res:List ARes) (r:AV):finP res r .ret (x::l) bx=match resV (x::l) bx res with
 | some vs=>wk r (view 8 bx (tupV vs))
 | none=>False:=rfl
theorem g_normal (res:List ARes) (r:AV) (bs':Bx):finM res m r bs' .normal (x::l) bx=match resV (x::l) bx res with
 | some vs=>∃ (zs ix:List Nat),ix.Nodup∧ix.take m=List.range m∧embB bs'.length ix (hol zs bx) ix bs'∧okR bs'.length r=true∧wkN (ren ix r) (tupV vs)
 | none=>False:=rfl
theorem g_ret (res:List ARes) (r:AV) (bs':Bx):finM res m r bs' .ret (x::l) bx=match resV (x::l) bx res with
 | some vs=>∃ (zs ix:List Nat),ix.Nodup∧ix.take m=List.range m∧embB bs'.length ix (hol zs bx) ix bs'∧okR bs'.length r=true∧wkN (ren ix r) (tupV vs)
 | none=>False:=rfl
section
variable (F:List AV→Bx→Prop) (d:Option Nat)
theorem r_int (k:IntKind) (n:Int):AxY F (x::l) d (.int k n) bx=F (putT (x::l) d (.int k n)) bx:=rfl
theorem r_bool (b:Bool):AxY F (x::l) d (.bool b) bx=F (putT (x::l) d (.bool b)) bx:=rfl
theorem r_str (b:ByteArray):AxY F (x::l) d (.str b) bx=F (putT (x::l) d (.str b)) bx:=rfl
theorem r_any:AxY F (x::l) d .any bx=F (putT (x::l) d .any) bx:=rfl
theorem r_nils:AxY F (x::l) d .nils bx=F (putT (x::l) d .nils) bx:=rfl
theorem r_fn (f:Fn) (c:List AV):AxY F (x::l) d (.fn f c) bx=F (putT (x::l) d (.fn f c)) bx:=rfl
theorem r_agg (c:List AV):AxY F (x::l) d (.agg c) bx=F (putT (x::l) d (.agg c)) bx:=rfl
theorem r_tuple (c:List AV):AxY F (x::l) d (.tuple c) bx=F (putT (x::l) d (.tuple c)) bx:=rfl
theorem r_list (s:Nat) (c:List AV):AxY F (x::l) d (.list s c) bx=F (putT (x::l) d (.list s c)) bx:=rfl
theorem r_rptr (c:List AV):AxY F (x::l) d (.rptr c) bx=F (putT (x::l) d (.rptr c)) bx:=rfl
theorem r_ptr (a b c e:Nat):AxY F (x::l) d (.ptr a b c e) bx=F (putT (x::l) d (.ptr a b c e)) bx:=rfl
theorem r_sl (a b c e:Nat):AxY F (x::l) d (.sl a b c e) bx=F (putT (x::l) d (.sl a b c e)) bx:=rfl
end
end
theorem t_get0 (a0:AV) (l:List AV):getT (a0::l) 0=a0:=rfl
theorem t_set0 (a0 v:AV) (l:List AV):setT (a0::l) 0 v=v::l:=rfl
theorem t_get1 (a0 a1:AV) (l:List AV):getT (a0::a1::l) 1=a1:=rfl
theorem t_set1 (a0 a1 v:AV) (l:List AV):setT (a0::a1::l) 1 v=a0::v::l:=rfl
theorem t_get2 (a0 a1 a2:AV) (l:List AV):getT (a0::a1::a2::l) 2=a2:=rfl
theorem t_set2 (a0 a1 a2 v:AV) (l:List AV):setT (a0::a1::a2::l) 2 v=a0::a1::v::l:=rfl
theorem t_get3 (a0 a1 a2 a3:AV) (l:List AV):getT (a0::a1::a2::a3::l) 3=a3:=rfl
theorem t_set3 (a0 a1 a2 a3 v:AV) (l:List AV):setT (a0::a1::a2::a3::l) 3 v=a0::a1::a2::v::l:=rfl
theorem t_get4 (a0 a1 a2 a3 a4:AV) (l:List AV):getT (a0::a1::a2::a3::a4::l) 4=a4:=rfl
theorem t_set4 (a0 a1 a2 a3 a4 v:AV) (l:List AV):setT (a0::a1::a2::a3::a4::l) 4 v=a0::a1::a2::a3::v::l:=rfl
theorem t_get5 (a0 a1 a2 a3 a4 a5:AV) (l:List AV):getT (a0::a1::a2::a3::a4::a5::l) 5=a5:=rfl
theorem t_set5 (a0 a1 a2 a3 a4 a5 v:AV) (l:List AV):setT (a0::a1::a2::a3::a4::a5::l) 5 v=a0::a1::a2::a3::a4::v::l:=rfl
theorem t_get6 (a0 a1 a2 a3 a4 a5 a6:AV) (l:List AV):getT (a0::a1::a2::a3::a4::a5::a6::l) 6=a6:=rfl
theorem t_set6 (a0 a1 a2 a3 a4 a5 a6 v:AV) (l:List AV):setT (a0::a1::a2::a3::a4::a5::a6::l) 6 v=a0::a1::a2::a3::a4::a5::v::l:=rfl
theorem t_get7 (a0 a1 a2 a3 a4 a5 a6 a7:AV) (l:List AV):getT (a0::a1::a2::a3::a4::a5::a6::a7::l) 7=a7:=rfl
theorem t_set7 (a0 a1 a2 a3 a4 a5 a6 a7 v:AV) (l:List AV):setT (a0::a1::a2::a3::a4::a5::a6::a7::l) 7 v=a0::a1::a2::a3::a4::a5::a6::v::l:=rfl
theorem t_get8 (a0 a1 a2 a3 a4 a5 a6 a7:AV) (l:List AV) (n:Nat):getT (a0::a1::a2::a3::a4::a5::a6::a7::l) (n+8)=getT l n:=rfl
theorem t_set8 (a0 a1 a2 a3 a4 a5 a6 a7 v:AV) (l:List AV) (n:Nat):setT (a0::a1::a2::a3::a4::a5::a6::a7::l) (n+8) v=a0::a1::a2::a3::a4::a5::a6::a7::setT l n v:=rfl
theorem t_put (l:List AV) (d:Nat) (v:AV):putT l (some d) v=setT l d v:=rfl
theorem t_put0 (l:List AV) (v:AV):putT l none v=l:=rfl
theorem t_tmp (l:List AV) (t:Nat):AOpd.ev l (.tmp t)=getT l t:=rfl
theorem t_val (l:List AV) (v:AV):AOpd.ev l (.val v)=v:=rfl
end Go.Proofs.YtcmphhedaefcgaaGreatDoor.Av
namespace Go.Proofs.YtcmphhedaefcgaaGreatDoor.Av
open Go.ChangeShapes
section
variable {H:Type} {enc:TypeId × Value→H} {P:Program} {w:World} {base:Nat} {spare:Nat→Bool} {held:Bool}
end
end Go.Proofs.YtcmphhedaefcgaaGreatDoor.Av
namespace Go.Proofs.YtcmphhedaefcgaaGreatDoor.Av
open Go.RowKit
theorem reps_nil {fz:Fz}:∀ (i:Nat) v c,([]:List AV)[i]? = some v→([]:List Value)[i]? = some c→RepF fz v c:=by simp
theorem reps_cons {fz:Fz} {v:AV} {c:Value} {l:List AV} {cs:List Value} (h:RepF fz v c) (k:∀ (i:Nat) v c,l[i]? = some v→cs[i]? = some c→RepF fz v c):∀ (i:Nat) v' c',(v::l)[i]? = some v'→(c::cs)[i]? = some c'→RepF fz v' c':=by
 intro i v' c' hv hc
 cases i with
 | zero=>simp at hv hc;subst hv hc;exact h
 | succ i=>exact k i v' c' (by simpa using hv) (by simpa using hc)
theorem law_top {P:Program} {f:FuncId} {args:List AV} {cs:List Value} {W:World} {r:AV} (hC:Ctr P f args [] r []) (hl:args.length=cs.length) (h:∀ (i:Nat) v c,args[i]? = some v→cs[i]? = some c→RepF (fun b=>W.heap[b]?) v c) (hlay:LayF (fun b=>W.heap[b]?)) :
 Calls P f cs.toArray W fun e W'=>(∃ v fz,e=.returned v∧Rep fz [] r v)∧Below W.heap.size W W':=by
 have S:Sim W (fun _=>none) (fun b=>W.heap[b]?) [] [] W:=by
  refine ⟨hlay,rfl,rfl,rfl,Nat.le_refl _,fun b o h=>h,fun b o h=>(nomatch h),fun b o h=>rfl,rfl,fun k sz es h=>(by rw [AlZ] at h;cases h),fun k k' x y b n n' h=>(by rw [AlZ] at h;cases h)⟩
 refine (hC.2 W _ _ [] W cs.toArray S (by simpa using hl) (fun i v c hv hc=>.frz (h i v c hv (by simpa using hc)))).mono ?_
 rintro e W' ⟨cv,fz',pl',rfl,hle,hpl,hrep,S'⟩
 have hpl':pl'=[]:=List.eq_nil_of_length_eq_zero (by rw [S'.len];rfl)
 subst hpl'
 refine ⟨⟨cv,fz',rfl,hrep⟩,S'.os,S'.tape,S'.output,S'.size,fun k hk=>?_⟩
 have:W.heap[k]? = some W.heap[k]:=Array.getElem?_eq_getElem hk
 rw [this]
 exact S'.frz _ _ (hle _ _ this)
theorem law_true {P:Program} {f:FuncId} {args:List AV} {cs:List Value} {W:World} (hC:Ctr P f args [] (.bool true) []) (hl:args.length=cs.length) (h:∀ (i:Nat) v c,args[i]? = some v→cs[i]? = some c→RepF (fun b=>W.heap[b]?) v c) (hlay:LayF (fun b=>W.heap[b]?)) :
 Calls P f cs.toArray W fun e W'=>e=.returned (.bool true)∧Below W.heap.size W W':=by
 refine (law_top hC hl h hlay).mono ?_
 rintro e W' ⟨⟨v,fz,rfl,hr⟩,hb⟩
 rw [hr.inv_bool]
 exact ⟨rfl,hb⟩
end Go.Proofs.YtcmphhedaefcgaaGreatDoor.Av
namespace Go.Proofs.YtcmphhedaefcgaaGreatDoor.Av
set_option maxRecDepth 100000
end Go.Proofs.YtcmphhedaefcgaaGreatDoor.Av
namespace Go.Proofs.YtcmphhedaefcgaaGreatDoor.Av
set_option maxRecDepth 100000
theorem n_AV_cells_any:AV.cells (AV.any)=[(AV.any)]:=rfl
theorem n_AV_cells_int (k:IntKind) (n:Int):AV.cells (AV.int k n)=[(AV.int k n)]:=rfl
theorem n_AV_cells_bool (b:Bool):AV.cells (AV.bool b)=[(AV.bool b)]:=rfl
theorem n_AV_cells_str (s:ByteArray):AV.cells (AV.str s)=[(AV.str s)]:=rfl
theorem n_AV_cells_nils:AV.cells (AV.nils)=[(AV.nils)]:=rfl
theorem n_AV_cells_list (sz:Nat) (l:List AV):AV.cells (AV.list sz l)=[(AV.list sz l)]:=rfl
theorem n_AV_cells_sl (sz k off len:Nat):AV.cells (AV.sl sz k off len)=[(AV.sl sz k off len)]:=rfl
theorem n_AV_okSt_int (k:IntKind) (n:Int):AV.okSt (AV.int k n)=true:=rfl
theorem n_AV_okSt_bool (b:Bool):AV.okSt (AV.bool b)=true:=rfl
theorem n_AV_okSt_str (s:ByteArray):AV.okSt (AV.str s)=true:=rfl
theorem n_AV_okSt_nils:AV.okSt (AV.nils)=true:=rfl
theorem n_AV_okSt_agg (l:List AV):AV.okSt (AV.agg l)=true:=rfl
theorem n_AV_okSt_list (sz:Nat) (l:List AV):AV.okSt (AV.list sz l)=true:=rfl
theorem n_AV_okSt_sl (sz k off len:Nat):AV.okSt (AV.sl sz k off len)=true:=rfl
theorem n_okL_any (m:Nat):okL m (AV.any)=AV.flat (AV.any):=rfl
theorem n_okL_int (m:Nat) (k:IntKind) (n:Int):okL m (AV.int k n)=AV.flat (AV.int k n):=rfl
theorem n_okL_bool (m:Nat) (b:Bool):okL m (AV.bool b)=AV.flat (AV.bool b):=rfl
theorem n_okL_str (m:Nat) (s:ByteArray):okL m (AV.str s)=AV.flat (AV.str s):=rfl
theorem n_okL_nils (m:Nat):okL m (AV.nils)=AV.flat (AV.nils):=rfl
theorem n_okL_list (m:Nat) (sz:Nat) (l:List AV):okL m (AV.list sz l)=AV.flat (AV.list sz l):=rfl
theorem n_okC_int (m:Nat) (k:IntKind) (n:Int):okC m (AV.int k n)=okL m (AV.int k n):=rfl
theorem n_okC_bool (m:Nat) (b:Bool):okC m (AV.bool b)=okL m (AV.bool b):=rfl
theorem n_okC_str (m:Nat) (s:ByteArray):okC m (AV.str s)=okL m (AV.str s):=rfl
theorem n_okC_list (m:Nat) (sz:Nat) (l:List AV):okC m (AV.list sz l)=okL m (AV.list sz l):=rfl
theorem n_okC_ptr (m:Nat) (sz k i off:Nat):okC m (AV.ptr sz k i off)=okL m (AV.ptr sz k i off):=rfl
theorem n_okC_sl (m:Nat) (sz k off len:Nat):okC m (AV.sl sz k off len)=okL m (AV.sl sz k off len):=rfl
theorem n_okR_int (m:Nat) (k:IntKind) (n:Int):okR m (AV.int k n)=okC m (AV.int k n):=rfl
theorem n_okR_bool (m:Nat) (b:Bool):okR m (AV.bool b)=okC m (AV.bool b):=rfl
theorem n_okR_str (m:Nat) (s:ByteArray):okR m (AV.str s)=okC m (AV.str s):=rfl
theorem n_okR_agg (m:Nat) (l:List AV):okR m (AV.agg l)=okC m (AV.agg l):=rfl
theorem n_okR_list (m:Nat) (sz:Nat) (l:List AV):okR m (AV.list sz l)=okC m (AV.list sz l):=rfl
theorem n_okR_ptr (m:Nat) (sz k i off:Nat):okR m (AV.ptr sz k i off)=okC m (AV.ptr sz k i off):=rfl
theorem n_okR_sl (m:Nat) (sz k off len:Nat):okR m (AV.sl sz k off len)=okC m (AV.sl sz k off len):=rfl
theorem n_renL_any (ix:List Nat):renL ix (AV.any)=(AV.any):=rfl
theorem n_renL_int (ix:List Nat) (k:IntKind) (n:Int):renL ix (AV.int k n)=(AV.int k n):=rfl
theorem n_renL_bool (ix:List Nat) (b:Bool):renL ix (AV.bool b)=(AV.bool b):=rfl
theorem n_renL_str (ix:List Nat) (s:ByteArray):renL ix (AV.str s)=(AV.str s):=rfl
theorem n_renL_nils (ix:List Nat):renL ix (AV.nils)=(AV.nils):=rfl
theorem n_renL_list (ix:List Nat) (sz:Nat) (l:List AV):renL ix (AV.list sz l)=(AV.list sz l):=rfl
theorem n_renC_int (ix:List Nat) (k:IntKind) (n:Int):renC ix (AV.int k n)=renL ix (AV.int k n):=rfl
theorem n_renC_bool (ix:List Nat) (b:Bool):renC ix (AV.bool b)=renL ix (AV.bool b):=rfl
theorem n_renC_str (ix:List Nat) (s:ByteArray):renC ix (AV.str s)=renL ix (AV.str s):=rfl
theorem n_renC_list (ix:List Nat) (sz:Nat) (l:List AV):renC ix (AV.list sz l)=renL ix (AV.list sz l):=rfl
theorem n_renC_ptr (ix:List Nat) (sz k i off:Nat):renC ix (AV.ptr sz k i off)=renL ix (AV.ptr sz k i off):=rfl
theorem n_renC_sl (ix:List Nat) (sz k off len:Nat):renC ix (AV.sl sz k off len)=renL ix (AV.sl sz k off len):=rfl
theorem n_ren_int (ix:List Nat) (k:IntKind) (n:Int):ren ix (AV.int k n)=renC ix (AV.int k n):=rfl
theorem n_ren_bool (ix:List Nat) (b:Bool):ren ix (AV.bool b)=renC ix (AV.bool b):=rfl
theorem n_ren_str (ix:List Nat) (s:ByteArray):ren ix (AV.str s)=renC ix (AV.str s):=rfl
theorem n_ren_agg (ix:List Nat) (l:List AV):ren ix (AV.agg l)=renC ix (AV.agg l):=rfl
theorem n_ren_list (ix:List Nat) (sz:Nat) (l:List AV):ren ix (AV.list sz l)=renC ix (AV.list sz l):=rfl
theorem n_ren_ptr (ix:List Nat) (sz k i off:Nat):ren ix (AV.ptr sz k i off)=renC ix (AV.ptr sz k i off):=rfl
theorem n_ren_sl (ix:List Nat) (sz k off len:Nat):ren ix (AV.sl sz k off len)=renC ix (AV.sl sz k off len):=rfl
theorem n_setE_any (o:Nat) (cc:AV):setE (AV.any) o [cc]=cc:=rfl
theorem n_setE_nils (o:Nat) (cc:AV):setE (AV.nils) o [cc]=cc:=rfl
theorem n_setE_sl (o:Nat) (cc:AV) (sz k off len:Nat):setE (AV.sl sz k off len) o [cc]=cc:=rfl
theorem n_embT_int (m:Nat) (ix:List Nat) (l1:List AV) (u:AV) (l2:List AV) (k:IntKind) (n:Int):embT m ix ((AV.int k n)::l1) (u::l2)=(okR m (AV.int k n)=true∧wk (ren ix (AV.int k n)) u∧embT m ix l1 l2):=rfl
theorem n_embT_bool (m:Nat) (ix:List Nat) (l1:List AV) (u:AV) (l2:List AV) (b:Bool):embT m ix ((AV.bool b)::l1) (u::l2)=(okR m (AV.bool b)=true∧wk (ren ix (AV.bool b)) u∧embT m ix l1 l2):=rfl
theorem n_embT_str (m:Nat) (ix:List Nat) (l1:List AV) (u:AV) (l2:List AV) (s:ByteArray):embT m ix ((AV.str s)::l1) (u::l2)=(okR m (AV.str s)=true∧wk (ren ix (AV.str s)) u∧embT m ix l1 l2):=rfl
theorem n_embT_fn (m:Nat) (ix:List Nat) (l1:List AV) (u:AV) (l2:List AV) (f:Fn) (l:List AV):embT m ix ((AV.fn f l)::l1) (u::l2)=(okR m (AV.fn f l)=true∧wk (ren ix (AV.fn f l)) u∧embT m ix l1 l2):=rfl
theorem n_embT_list (m:Nat) (ix:List Nat) (l1:List AV) (u:AV) (l2:List AV) (sz:Nat) (l:List AV):embT m ix ((AV.list sz l)::l1) (u::l2)=(okR m (AV.list sz l)=true∧wk (ren ix (AV.list sz l)) u∧embT m ix l1 l2):=rfl
theorem n_embT_ptr (m:Nat) (ix:List Nat) (l1:List AV) (u:AV) (l2:List AV) (sz k i off:Nat):embT m ix ((AV.ptr sz k i off)::l1) (u::l2)=(okR m (AV.ptr sz k i off)=true∧wk (ren ix (AV.ptr sz k i off)) u∧embT m ix l1 l2):=rfl
theorem n_embT_sl (m:Nat) (ix:List Nat) (l1:List AV) (u:AV) (l2:List AV) (sz k off len:Nat):embT m ix ((AV.sl sz k off len)::l1) (u::l2)=(okR m (AV.sl sz k off len)=true∧wk (ren ix (AV.sl sz k off len)) u∧embT m ix l1 l2):=rfl
theorem n_tupV0:tupV []=AV.tuple []:=rfl
theorem n_tupV2 (a b:AV) (l:List AV):tupV (a::b::l)=AV.tuple (a::b::l):=rfl
theorem n_bsl (sz:Nat) (x:AV) (xs:List AV):evP (AOp.bslice sz (x::xs))=match okElems sz (x::xs) with | true=>some (AV.list sz (x::xs)) | false=>none:=rfl
theorem n_ial (sz s:Nat) (l:List AV) (k:IntKind) (n:Int):evP (AOp.iaddr sz (.list s l) (.int k n))=match AV.natOf (.int k n) with | some n=>(match decide (s=sz) with | true=>(match l[n]? with | some e=>some (AV.rptr e.cells) | none=>none) | false=>none) | none=>none:=by
 cases h:AV.natOf (.int k n) with
 | some m=>exact evP.eq_25 sz (.int k n) s l m h
 | none=>exact evP.eq_27 sz (.int k n) (.list s l) (fun _ _ _ _ e=>by rw [h] at e;cases e) (fun _ _ _ _ _ e _=>by cases e)
theorem n_ias (sz s b off len:Nat) (k:IntKind) (n:Int):evP (AOp.iaddr sz (.sl s b off len) (.int k n))=match AV.natOf (.int k n) with | some n=>(match decide (s=sz),decide (n<len) with | true,true=>some (AV.ptr s b (off+n) 0) | _,_=>none) | none=>none:=by
 cases h:AV.natOf (.int k n) with
 | some m=>exact evP.eq_26 sz (.int k n) s b off len m h
 | none=>exact evP.eq_27 sz (.int k n) (.sl s b off len) (fun _ _ _ e _=>by cases e) (fun _ _ _ _ _ _ e=>by rw [h] at e;cases e)
theorem n_sto (bx:Bx) (n sz k i off:Nat) (x:AV):evW bx (AOp.store n (.ptr sz k i off) x)=match (x.okSt && decide (x.cells.length=n)) with | true=>(match AeZ bx k with | some (s,es)=>(match decide (s=sz),es[i]? with | true,some e=>(match decide (off+n≤e.cells.length) with | true=>some (AV.tuple [],ArZ bx k (some (s,es.set i (setE e off x.cells)))) | false=>none) | _,_=>none) | none=>none) | false=>none:=by
 cases h:(x.okSt && decide (x.cells.length=n)) with
 | true=>exact evW.eq_3 bx n x sz k i off h
 | false=>exact evW.eq_4 bx n x (.ptr sz k i off) (fun _ _ _ _ _ e=>by rw [h] at e;cases e)
theorem n_do_mov (P:Program) (K:AV→Bx→Prop) (bx:Bx) (x:AV):AwY P (AOp.mov x) K bx=match evP (AOp.mov x) with | some v=>K v bx | none=>False:=rfl
theorem n_do_build (P:Program) (K:AV→Bx→Prop) (bx:Bx) (z:List AV) (ps:List (Nat × Nat × AV)):AwY P (AOp.build z ps) K bx=match evP (AOp.build z ps) with | some v=>K v bx | none=>False:=rfl
theorem n_do_bslice (P:Program) (K:AV→Bx→Prop) (bx:Bx) (sz:Nat) (xs:List AV):AwY P (AOp.bslice sz xs) K bx=match evP (AOp.bslice sz xs) with | some v=>K v bx | none=>False:=rfl
theorem n_do_nilc (P:Program) (K:AV→Bx→Prop) (bx:Bx) (x:AV):AwY P (AOp.nilc x) K bx=match evP (AOp.nilc x) with | some v=>K v bx | none=>False:=rfl
theorem n_do_bin (P:Program) (K:AV→Bx→Prop) (bx:Bx) (op:BinOp) (x y:AV):AwY P (AOp.bin op x y) K bx=match evP (AOp.bin op x y) with | some v=>K v bx | none=>False:=rfl
theorem n_do_eqs (P:Program) (K:AV→Bx→Prop) (bx:Bx) (neg:Bool) (n:Nat) (x y:AV):AwY P (AOp.eqs neg n x y) K bx=match evP (AOp.eqs neg n x y) with | some v=>K v bx | none=>False:=rfl
theorem n_do_eqb (P:Program) (K:AV→Bx→Prop) (bx:Bx) (neg:Bool) (x y:AV):AwY P (AOp.eqb neg x y) K bx=match evP (AOp.eqb neg x y) with | some v=>K v bx | none=>False:=rfl
theorem n_do_un (P:Program) (K:AV→Bx→Prop) (bx:Bx) (op:UnOp) (x:AV):AwY P (AOp.un op x) K bx=match evP (AOp.un op x) with | some v=>K v bx | none=>False:=rfl
theorem n_do_fld (P:Program) (K:AV→Bx→Prop) (bx:Bx) (agg:Bool) (n off:Nat) (x:AV):AwY P (AOp.fld agg n off x) K bx=match evP (AOp.fld agg n off x) with | some v=>K v bx | none=>False:=rfl
theorem n_do_faddr (P:Program) (K:AV→Bx→Prop) (bx:Bx) (off:Nat) (x:AV):AwY P (AOp.faddr off x) K bx=match evP (AOp.faddr off x) with | some v=>K v bx | none=>False:=rfl
theorem n_do_iaddr (P:Program) (K:AV→Bx→Prop) (bx:Bx) (sz:Nat) (x i:AV):AwY P (AOp.iaddr sz x i) K bx=match evP (AOp.iaddr sz x i) with | some v=>K v bx | none=>False:=rfl
theorem n_do_slc (P:Program) (K:AV→Bx→Prop) (bx:Bx) (sz:Nat) (x:AV) (lo hi:Option AV):AwY P (AOp.slc sz x lo hi) K bx=match evP (AOp.slc sz x lo hi) with | some v=>K v bx | none=>False:=rfl
theorem n_do_len (P:Program) (K:AV→Bx→Prop) (bx:Bx) (str:Bool) (x:AV):AwY P (AOp.len str x) K bx=match evP (AOp.len str x) with | some v=>K v bx | none=>False:=rfl
theorem n_do_mx (P:Program) (K:AV→Bx→Prop) (bx:Bx) (x:AV) (xs:List AV):AwY P (AOp.mx x xs) K bx=match evP (AOp.mx x xs) with | some v=>K v bx | none=>False:=rfl
theorem n_do_ext (P:Program) (K:AV→Bx→Prop) (bx:Bx) (x:AV) (i:Nat):AwY P (AOp.ext x i) K bx=match evP (AOp.ext x i) with | some v=>K v bx | none=>False:=rfl
theorem n_do_mkf (P:Program) (K:AV→Bx→Prop) (bx:Bx) (f:Fn) (caps:List AV):AwY P (AOp.mkf f caps) K bx=match evP (AOp.mkf f caps) with | some v=>K v bx | none=>False:=rfl
end Go.Proofs.YtcmphhedaefcgaaGreatDoor.Av
namespace Go.Proofs.YtcmphhedaefcgaaGreatDoor.Av
section
variable (K:List AV→Bx→Prop) (x:AV) (l:List AV) (bx:Bx)
theorem x_frz_nil:frzSs [] K (x::l) bx=K (x::l) bx:=rfl
theorem x_frz_cons (t:Nat) (r:List Nat):frzSs (t::r) K (x::l) bx=match getT (x::l) t with
 | .list _ _=>frzSs r K (x::l) bx
 | .nils=>frzSs r K (x::l) bx
 |
  .sl s k off n=>(match AeZ bx k with
  |
   some (s',es)=>(match decide (s'=s) && decide (off+n≤es.length) && BdX es with
   | true=>frzSs r K (setT (x::l) t (.list s ((es.drop off).take n))) (ArZ bx k none)
   | false=>False)
  | none=>False)
 | _=>False:=by
 show frzS t (frzSs r K) (x::l) bx=_
 unfold frzS
 rfl
end
end Go.Proofs.YtcmphhedaefcgaaGreatDoor.Av
namespace Go.Proofs.YtcmphhedaefcgaaGreatDoor.Av
set_option maxRecDepth 100000
theorem p_AV_cells_mp (k:Nat):AV.cells (AV.mp k)=[(AV.mp k)]:=rfl
theorem p_AV_okSt_mp (k:Nat):AV.okSt (AV.mp k)=true:=rfl
theorem p_AV_flat_mp (k:Nat):AV.flat (AV.mp k)=false:=rfl
theorem p_okL_mp (m:Nat) (k:Nat):okL m (AV.mp k)=decide (k<m):=rfl
theorem p_renL_mp (ix:List Nat) (k:Nat):renL ix (AV.mp k)=AV.mp (getN ix k):=rfl
theorem p_rest_mp (F:List AV→Bx→Prop) (x:AV) (l:List AV) (d:Option Nat) (bx:Bx) (k:Nat):AxY F (x::l) d (AV.mp k) bx=F (putT (x::l) d (AV.mp k)) bx:=rfl
end Go.Proofs.YtcmphhedaefcgaaGreatDoor.Av
namespace Go.Proofs.YtcmphhedaefcgaaGreatDoor.Av
section
variable {H:Type} {enc:TypeId × Value→H} {P:Program} {w:World} {base:Nat} {spare:Nat→Bool} {held:Bool} {r:Reach} {b0:Nat} {t:TypeId} {v:Value} {d:DataW H} {p:List MemPlace}
end
end Go.Proofs.YtcmphhedaefcgaaGreatDoor.Av
namespace Go.Proofs.YtcmphhedaefcgaaGreatDoor.Av
set_option maxRecDepth 100000
def S8 (l:List UInt8):ByteArray:=⟨l.toArray⟩
theorem S8_get (s:List UInt8) (i:Nat):(S8 s)[i]? = s[i]?:=by
 have h:(S8 s).size=s.length:=rfl
 by_cases hi:i<s.length
 · have h1:(S8 s)[i]? = some ((S8 s)[i]'(by rw [h];exact hi)):=by
    rw [getElem?_pos (S8 s) i (by rw [h];exact hi)]
   rw [h1,List.getElem?_eq_getElem hi]
   rfl
 · rw [List.getElem?_eq_none (by omega),getElem?_neg (S8 s) i (by rw [h];exact hi)]
theorem S8_sidx (s:List UInt8) (i:Nat) (k:IntKind):evP (.sidx (.str (S8 s)) (.int k (i:Int)))=match s[i]? with | some b=>some (.int .u8 b.toNat) | none=>none:=by
 have h0:(0:Int)≤(i:Int):=by omega
 simp only [evP,AV.natOf,decide_eq_true h0,Int.toNat_natCast,S8_get]
 cases s[i]? <;> rfl
theorem S8_data (s:List UInt8):(S8 s).data.toList=s:=rfl
theorem S8_of (b:ByteArray):b=S8 b.data.toList:=by
 cases b with | mk d=>simp [S8]
theorem S8_eq (a b:List UInt8):(S8 a=S8 b)=(a=b):=by
 apply propext
 constructor
 · intro h
   have:=congrArg (fun x=>x.data.toList) h
   simpa [S8] using this
 · rintro rfl;rfl
theorem S8_ext (s:List UInt8) (a b:Nat):(S8 s).extract a b=S8 ((s.take b).drop a):=by
 rw [S8_of ((S8 s).extract a b)]
 congr 1
 rw [ByteArray.data_extract]
 simp [S8,Array.toList_extract,List.extract_eq_take_drop,List.drop_take]
theorem S8_sslc (s:List UInt8) (lo hi:Option AV):evP (.sslc (.str (S8 s)) lo hi)=match natO 0 lo,natO s.length hi with | some a,some b=>(match decide (a≤b),decide (b≤s.length) with | true,true=>some (.str (S8 ((s.take b).drop a))) | _,_=>none) | _,_=>none:=by
 have h:(S8 s).size=s.length:=rfl
 simp only [evP,h,S8_ext]
 cases natO 0 lo <;> cases natO s.length hi <;> rfl
theorem S8_app (a b:List UInt8):S8 a++S8 b=S8 (a++b):=by
 rw [S8_of (S8 a++S8 b),ByteArray.toList_data_append]
 rfl
theorem S8_loop (bs:ByteArray) (i:Nat) (r:List UInt8):ByteArray.toList.loop bs i r=r.reverse++bs.data.toList.drop i:=by
 fun_induction ByteArray.toList.loop bs i r with
 |
  case1 i r h ih =>
  rw [ih]
  have hi:i<bs.data.toList.length:=h
  rw [List.reverse_cons,List.append_assoc,List.drop_eq_getElem_cons hi]
  have:bs.get! i=bs.data.toList[i]:=by
   cases bs with | mk d =>
    show d[i]! = d.toList[i]
    rw [getElem!_pos d i h];rfl
  rw [this];rfl
 |
  case2 i r h =>
  have hi:bs.data.toList.length≤i:=Nat.le_of_not_lt h
  rw [List.drop_eq_nil_of_le hi,List.append_nil]
theorem S8_toList (s:List UInt8):(S8 s).toList=s:=by
 unfold ByteArray.toList
 rw [S8_loop]
 simp [S8]
theorem S8_beq (a b:List UInt8):((S8 a).toList == (S8 b).toList)=decide (a=b):=by
 rw [S8_toList,S8_toList];exact (Bool.eq_iff_iff.2 (by simp))
theorem s_okR_fb (m:Nat) (f:Fn) (fl:List AV):okR m (AV.fb f fl)=fl.all (okC m):=rfl
theorem s_ren_fb (ix:List Nat) (f:Fn) (fl:List AV):ren ix (AV.fb f fl)=.fb f (fl.map (renC ix)):=rfl
theorem s_rest_ifn (F:List AV→Bx→Prop) (x:AV) (l:List AV) (d:Option Nat) (bx:Bx):AxY F (x::l) d (AV.ifn) bx=F (putT (x::l) d (AV.ifn)) bx:=rfl
theorem s_rest_ifc (F:List AV→Bx→Prop) (x:AV) (l:List AV) (d:Option Nat) (bx:Bx):AxY F (x::l) d (AV.ifc) bx=F (putT (x::l) d (AV.ifc)) bx:=rfl
theorem s_rest_fb (F:List AV→Bx→Prop) (x:AV) (l:List AV) (d:Option Nat) (bx:Bx) (f:Fn) (fl:List AV):AxY F (x::l) d (AV.fb f fl) bx=F (putT (x::l) d (AV.fb f fl)) bx:=rfl
theorem s_embT_fb (m:Nat) (ix:List Nat) (l1:List AV) (u:AV) (l2:List AV) (f:Fn) (fl:List AV):embT m ix ((AV.fb f fl)::l1) (u::l2)=(okR m (AV.fb f fl)=true∧wk (ren ix (AV.fb f fl)) u∧embT m ix l1 l2):=rfl
theorem s_do_isni (P:Program) (K:AV→Bx→Prop) (bx:Bx) (b:Bool) (y:AV):AwY P (.isni b y) K bx=match evP (AOp.isni b y) with | some v=>K v bx | none=>False:=rfl
theorem s_do_sidx (P:Program) (K:AV→Bx→Prop) (bx:Bx) (y i:AV):AwY P (.sidx y i) K bx=match evP (AOp.sidx y i) with | some v=>K v bx | none=>False:=rfl
theorem s_do_sslc (P:Program) (K:AV→Bx→Prop) (bx:Bx) (y:AV) (lo hi:Option AV):AwY P (.sslc y lo hi) K bx=match evP (AOp.sslc y lo hi) with | some v=>K v bx | none=>False:=rfl
theorem s_do_mkb (P:Program) (K:AV→Bx→Prop) (bx:Bx) (g:Fn) (q:List AV):AwY P (.mkb g q) K bx=match evP (AOp.mkb g q) with | some v=>K v bx | none=>False:=rfl
theorem s_map_isni {α β:Type} (f:α→β) (b:Bool) (x:α):AOp.map f (.isni b x)=.isni b (f x):=rfl
theorem s_map_sidx {α β:Type} (f:α→β) (x i:α):AOp.map f (.sidx x i)=.sidx (f x) (f i):=rfl
theorem s_map_sslc {α β:Type} (f:α→β) (x:α) (lo hi:Option α):AOp.map f (.sslc x lo hi)=.sslc (f x) (lo.map f) (hi.map f):=rfl
theorem s_map_mkb {α β:Type} (f:α→β) (g:Fn) (q:List α):AOp.map f (.mkb g q)=.mkb g (q.map f):=rfl
theorem s_ev_isni0 (b:Bool):evP (.isni b .ifn)=some (.bool (!b)):=rfl
theorem s_ev_isni1 (b:Bool):evP (.isni b .ifc)=some (.bool b):=rfl
theorem s_ev_mkb (g:Fn) (q:List AV):evP (.mkb g q)=some (.fb g q):=rfl
theorem s_ev_sidx (s:List UInt8) (i:Nat) (k:IntKind):evP (.sidx (.str (S8 s)) (.int k (i:Int)))=match s[i]? with | some b=>some (.int .u8 b.toNat) | none=>none:=S8_sidx s i k
theorem s_ev_sidxa (s:List UInt8) (k:IntKind):evP (.sidx (.str (S8 s)) (.int k 0))=match s[0]? with | some b=>some (.int .u8 b.toNat) | none=>none:=S8_sidx s 0 k
theorem s_ev_sidxb (s:List UInt8) (k:IntKind):evP (.sidx (.str (S8 s)) (.int k 1))=match s[1]? with | some b=>some (.int .u8 b.toNat) | none=>none:=S8_sidx s 1 k
theorem s_ev_sslc (s:List UInt8) (lo hi:Option AV):evP (.sslc (.str (S8 s)) lo hi)=match natO 0 lo,natO s.length hi with | some a,some b=>(match decide (a≤b),decide (b≤s.length) with | true,true=>some (.str (S8 ((s.take b).drop a))) | _,_=>none) | _,_=>none:=S8_sslc s lo hi
theorem s_size (s:List UInt8):(S8 s).size=s.length:=rfl
theorem s_eqb (a b:List UInt8):((S8 a).toList == (S8 b).toList)=decide (a=b):=S8_beq a b
theorem x_skip (P:Program) (Y:Xt) (m:Nat) (Q:AwZ) (x:AV) (l:List AV) (bx:Bx):awX P Y m .skip Q (x::l) bx=Q .normal (x::l) bx:=rfl
theorem x_region (P:Program) (Y:Xt) (m:Nat) (Q:AwZ) (x:AV) (l:List AV) (bx:Bx) (ops:List AOper):awX P Y m (.region ops) Q (x::l) bx=opX P Y ops (Q .normal) (x::l) bx:=rfl
theorem x_draw (P:Program) (Y:Xt) (m:Nat) (Q:AwZ) (x:AV) (l:List AV) (bx:Bx) (ops:List AOper):awX P Y m (.draw ops) Q (x::l) bx=AbX P ops (Q .normal) (x::l) bx:=rfl
theorem w_draw (P:Program) (m:Nat) (Q:AwZ) (x:AV) (l:List AV) (bx:Bx) (ops:List AOper):awp P m (.draw ops) Q (x::l) bx=AbX P ops (Q .normal) (x::l) bx:=rfl
theorem x_seq (P:Program) (Y:Xt) (m:Nat) (Q:AwZ) (x:AV) (l:List AV) (bx:Bx) (a b:ACode):awX P Y m (.seq a b) Q (x::l) bx=awX P Y m a (seqQ (awX P Y m b Q) Q) (x::l) bx:=rfl
theorem x_cond (P:Program) (Y:Xt) (m:Nat) (Q:AwZ) (x:AV) (l:List AV) (bx:Bx) (c:AOpd) (a b:ACode):awX P Y m (.cond c a b) Q (x::l) bx=match c.ev (x::l) with | .bool t=>if t=true then awX P Y m a Q (x::l) bx else awX P Y m b Q (x::l) bx | _=>False:=rfl
theorem x_block (P:Program) (Y:Xt) (m:Nat) (Q:AwZ) (x:AV) (l:List AV) (bx:Bx) (id:Nat) (c:ACode):awX P Y m (.block id c) Q (x::l) bx=awX P Y m c (blockQ id Q) (x::l) bx:=rfl
theorem x_loop (P:Program) (Y:Xt) (m:Nat) (Q:AwZ) (x:AV) (l:List AV) (bx:Bx) (c:ACode):awX P Y m (.loop c) Q (x::l) bx=LoopK m (awX P Y m c) Q (x::l) bx:=rfl
theorem x_exit (P:Program) (Y:Xt) (m:Nat) (Q:AwZ) (x:AV) (l:List AV) (bx:Bx) (id:Nat):awX P Y m (.exit id) Q (x::l) bx=Q (.exit id) (x::l) bx:=rfl
theorem x_ret (P:Program) (Y:Xt) (m:Nat) (Q:AwZ) (x:AV) (l:List AV) (bx:Bx):awX P Y m .ret Q (x::l) bx=Q .ret (x::l) bx:=rfl
theorem x_nil (P:Program) (Y:Xt) (K:List AV→Bx→Prop) (x:AV) (l:List AV) (bx:Bx):opX P Y [] K (x::l) bx=K (x::l) bx:=rfl
theorem x_cons (P:Program) (Y:Xt) (K:List AV→Bx→Prop) (x:AV) (l:List AV) (bx:Bx) (o:AOper) (os:List AOper):opX P Y (o::os) K (x::l) bx=thrX P Y o (x::l) bx (awpOper P o (opX P Y os K) (x::l) bx):=rfl
theorem x_grd (P:Program) (Y:Xt) (l:List AV) (bx:Bx) (N:Prop) (d:Option Nat) (op:AOp AOpd) (g:Nat × Bool):thrX P Y ⟨d,op,some g⟩ l bx N=N:=rfl
theorem x_mov_o (P:Program) (Y:Xt) (l:List AV) (bx:Bx) (N:Prop) (d:Option Nat) (a:AOpd):thrX P Y ⟨d,.mov a,none⟩ l bx N=N:=rfl
theorem x_pick_o (P:Program) (Y:Xt) (l:List AV) (bx:Bx) (N:Prop) (d:Option Nat) (a b c:AOpd):thrX P Y ⟨d,.pick a b c,none⟩ l bx N=N:=rfl
theorem x_alloc_o (P:Program) (Y:Xt) (l:List AV) (bx:Bx) (N:Prop) (d:Option Nat) (z:AV):thrX P Y ⟨d,.alloc z,none⟩ l bx N=N:=rfl
theorem x_build_o (P:Program) (Y:Xt) (l:List AV) (bx:Bx) (N:Prop) (d:Option Nat) (z:List AV) (q:List (Nat × Nat × AOpd)):thrX P Y ⟨d,.build z q,none⟩ l bx N=N:=rfl
theorem x_bslice_o (P:Program) (Y:Xt) (l:List AV) (bx:Bx) (N:Prop) (d:Option Nat) (n:Nat) (q:List AOpd):thrX P Y ⟨d,.bslice n q,none⟩ l bx N=N:=rfl
theorem x_load_o (P:Program) (Y:Xt) (l:List AV) (bx:Bx) (N:Prop) (d:Option Nat) (b:Bool) (n:Nat) (a:AOpd):thrX P Y ⟨d,.load b n a,none⟩ l bx N=N:=rfl
theorem x_store_o (P:Program) (Y:Xt) (l:List AV) (bx:Bx) (N:Prop) (d:Option Nat) (n:Nat) (a c:AOpd):thrX P Y ⟨d,.store n a c,none⟩ l bx N=N:=rfl
theorem x_nilc_o (P:Program) (Y:Xt) (l:List AV) (bx:Bx) (N:Prop) (d:Option Nat) (a:AOpd):thrX P Y ⟨d,.nilc a,none⟩ l bx N=N:=rfl
theorem x_bin_o (P:Program) (Y:Xt) (l:List AV) (bx:Bx) (N:Prop) (d:Option Nat) (op:BinOp) (a c:AOpd):thrX P Y ⟨d,.bin op a c,none⟩ l bx N=N:=rfl
theorem x_un_o (P:Program) (Y:Xt) (l:List AV) (bx:Bx) (N:Prop) (d:Option Nat) (op:UnOp) (a:AOpd):thrX P Y ⟨d,.un op a,none⟩ l bx N=N:=rfl
theorem x_fld_o (P:Program) (Y:Xt) (l:List AV) (bx:Bx) (N:Prop) (d:Option Nat) (b:Bool) (n o:Nat) (a:AOpd):thrX P Y ⟨d,.fld b n o a,none⟩ l bx N=N:=rfl
theorem x_faddr_o (P:Program) (Y:Xt) (l:List AV) (bx:Bx) (N:Prop) (d:Option Nat) (n:Nat) (a:AOpd):thrX P Y ⟨d,.faddr n a,none⟩ l bx N=N:=rfl
theorem x_iaddr_o (P:Program) (Y:Xt) (l:List AV) (bx:Bx) (N:Prop) (d:Option Nat) (n:Nat) (a c:AOpd):thrX P Y ⟨d,.iaddr n a c,none⟩ l bx N=N:=rfl
theorem x_len_o (P:Program) (Y:Xt) (l:List AV) (bx:Bx) (N:Prop) (d:Option Nat) (b:Bool) (a:AOpd):thrX P Y ⟨d,.len b a,none⟩ l bx N=N:=rfl
theorem x_app_o (P:Program) (Y:Xt) (l:List AV) (bx:Bx) (N:Prop) (d:Option Nat) (n k:Nat) (a c:AOpd):thrX P Y ⟨d,.app n k a c,none⟩ l bx N=N:=rfl
theorem x_callv_o (P:Program) (Y:Xt) (l:List AV) (bx:Bx) (N:Prop) (d:Option Nat) (a:AOpd) (q:List AOpd):thrX P Y ⟨d,.callv a q,none⟩ l bx N=N:=rfl
theorem x_mkb_o (P:Program) (Y:Xt) (l:List AV) (bx:Bx) (N:Prop) (d:Option Nat) (f:Fn) (q:List AOpd):thrX P Y ⟨d,.mkb f q,none⟩ l bx N=N:=rfl
theorem x_callm_o (P:Program) (Y:Xt) (l:List AV) (bx:Bx) (N:Prop) (d:Option Nat) (a:AOpd) (q:List AOpd):thrX P Y ⟨d,.callm a q,none⟩ l bx N=(ThrC P Y (a.ev l) (q.map (·.ev l)) l bx∨N):=rfl
end Go.Proofs.YtcmphhedaefcgaaGreatDoor.Av
namespace Go.Proofs.YtcmphhedaefcgaaGreatDoor.Av
theorem d_flat (ks vs:List AV):AV.flat (AV.dat ks vs)=true:=rfl
theorem d_map_mkv {α β:Type} (f:α→β):AOp.map f (.mkv:AOp α)=.mkv:=rfl
theorem d_map_mputv {α β:Type} (f:α→β) (tk:Bool) (x k v:α):AOp.map f (.mputv tk x k v)=.mputv tk (f x) (f k) (f v):=rfl
theorem d_map_mgetv {α β:Type} (f:α→β) (tk ok:Bool) (z:AV) (x k:α):AOp.map f (.mgetv tk ok z x k)=.mgetv tk ok z (f x) (f k):=rfl
theorem d_do_mkv (P:Program) (K:AV→Bx→Prop) (bx:Bx):AwY P .mkv K bx=K (.mp bx.length) (bx++[some (1,[.dat [] []])]):=rfl
theorem d_do_mputv (P:Program) (K:AV→Bx→Prop) (bx:Bx) (tk:Bool) (x k v:AV):AwY P (.mputv tk x k v) K bx=match evW bx (AOp.mputv tk x k v) with | some (v,bx')=>K v bx' | none=>False:=rfl
theorem d_do_mgetv (P:Program) (K:AV→Bx→Prop) (bx:Bx) (tk ok:Bool) (z x k:AV):AwY P (.mgetv tk ok z x k) K bx=match evMap bx tk ok z x k with | some v=>K v bx | none=>False:=rfl
theorem d_ev_mputv (bx:Bx) (tk:Bool) (b:Nat) (k v:AV):evW bx (.mputv tk (.mp b) k v)=match AeZ bx b with
 |
  some (s,[.dat ks vs])=>(match decide (0<s),v.flat,isKey tk k,putD tk k v ks vs with
  | true,true,true,some (ks',vs')=>some (.tuple [],ArZ bx b (some (s,[.dat ks' vs'])))
  | _,_,_,_=>none)
 | _=>none:=rfl
theorem d_ev_mgetv (bx:Bx) (tk ok:Bool) (z:AV) (b:Nat) (k:AV):evMap bx tk ok z (.mp b) k=match AeZ bx b with
 |
  some (s,[.dat ks vs])=>(match decide (0<s),isKey tk k,lookD tk k ks vs with
  | true,true,some r=>some (getR ok z r)
  | _,_,_=>none)
 | _=>none:=rfl
theorem d_key_s (s:ByteArray):isKey true (.str s)=true:=rfl
theorem d_key_i (n:Int):isKey false (.int .i64 n)=true:=rfl
theorem d_get1 (z v:AV):getR true z (some v)=.tuple [v,.bool true]:=rfl
theorem d_get0 (z v:AV):getR false z (some v)=v:=rfl
theorem d_get1n (z:AV):getR true z none=.tuple [z,.bool false]:=rfl
theorem d_get0n (z:AV):getR false z none=z:=rfl
def lookB {α:Type} (s:List UInt8):List (List UInt8 × α)→Option α
 | []=>none
 | x::l=>if s=x.1 then some x.2 else lookB s l
def putB {α:Type} (s:List UInt8) (v:α):List (List UInt8 × α)→List (List UInt8 × α)
 | []=>[(s,v)]
 | x::l=>if s=x.1 then (x.1,v)::l else x::putB s v l
def eBs (x:List UInt8):AV:=.str (S8 x)
theorem lookD_s {α:Type} (f:α→AV) (s:List UInt8):∀ l:List (List UInt8 × α),lookD true (.str (S8 s)) (l.map fun x=>eBs x.1) (l.map fun x=>f x.2)=some ((lookB s l).map f)
 | []=>rfl
 |
  x::l=>by
  have ih:=lookD_s f s l
  simp only [List.map_cons,lookD,lookB]
  have e:sameK true (.str (S8 s)) (eBs x.1)=some (decide (s=x.1)):=by
   simp only [sameK,eBs]
   congr 1
   rw [decide_eq_decide,S8_eq]
  rw [e]
  by_cases h:s=x.1
  · rw [decide_eq_true h,if_pos h];rfl
  · rw [decide_eq_false h,if_neg h];exact ih
theorem putD_s {α:Type} (f:α→AV) (s:List UInt8) (v:α):∀ l:List (List UInt8 × α),putD true (.str (S8 s)) (f v) (l.map fun x=>eBs x.1) (l.map fun x=>f x.2)=some ((putB s v l).map (fun x=>eBs x.1),(putB s v l).map fun x=>f x.2)
 | []=>rfl
 |
  x::l=>by
  have ih:=putD_s f s v l
  simp only [List.map_cons,putD,putB]
  have e:sameK true (.str (S8 s)) (eBs x.1)=some (decide (s=x.1)):=by
   simp only [sameK,eBs]
   congr 1
   rw [decide_eq_decide,S8_eq]
  rw [e]
  by_cases h:s=x.1
  · rw [decide_eq_true h,if_pos h];rfl
  · rw [decide_eq_false h,if_neg h]
    simp only
    rw [ih];rfl
def lookI {α:Type} (n:Int):List (Int × α)→Option α
 | []=>none
 | x::l=>if n=x.1 then some x.2 else lookI n l
def putI {α:Type} (n:Int) (v:α):List (Int × α)→List (Int × α)
 | []=>[(n,v)]
 | x::l=>if n=x.1 then (x.1,v)::l else x::putI n v l
theorem lookD_i {α:Type} (f:α→AV) (n:Int):∀ l:List (Int × α),lookD false (.int .i64 n) (l.map fun x=>eI x.1) (l.map fun x=>f x.2)=some ((lookI n l).map f)
 | []=>rfl
 |
  x::l=>by
  have ih:=lookD_i f n l
  simp only [List.map_cons,lookD,lookI]
  have e:sameK false (.int .i64 n) (eI x.1)=some (decide (n=x.1)):=rfl
  rw [e]
  by_cases h:n=x.1
  · rw [decide_eq_true h,if_pos h];rfl
  · rw [decide_eq_false h,if_neg h];exact ih
theorem putD_i {α:Type} (f:α→AV) (n:Int) (v:α):∀ l:List (Int × α),putD false (.int .i64 n) (f v) (l.map fun x=>eI x.1) (l.map fun x=>f x.2)=some ((putI n v l).map (fun x=>eI x.1),(putI n v l).map fun x=>f x.2)
 | []=>rfl
 |
  x::l=>by
  have ih:=putD_i f n v l
  simp only [List.map_cons,putD,putI]
  have e:sameK false (.int .i64 n) (eI x.1)=some (decide (n=x.1)):=rfl
  rw [e]
  by_cases h:n=x.1
  · rw [decide_eq_true h,if_pos h];rfl
  · rw [decide_eq_false h,if_neg h]
    simp only
    rw [ih];rfl
set_option maxRecDepth 100000
def zm (d t:Nat):AOper:=⟨some d,.mov (.tmp t),none⟩
def zf (d i t:Nat):AOper:=⟨some d,.faddr i (.tmp t),none⟩
def zl (d n t:Nat):AOper:=⟨some d,.load false n (.tmp t),none⟩
def zq (d t:Nat) (n:Int):AOper:=⟨some d,.bin .eql (.tmp t) (.val (.int .i64 n)),none⟩
def zx (d t i:Nat):AOper:=⟨some d,.ext (.tmp t) i,none⟩
def zo (d:Nat) (o:AOp AOpd):AOper:=⟨some d,o,none⟩
def zg (d:Nat) (o:AOp AOpd) (t:Nat) (b:Bool):AOper:=⟨some d,o,some (t,b)⟩
def zs (n a b:Nat):AOper:=⟨none,.store n (.tmp a) (.tmp b),none⟩
theorem zm_eq (d t:Nat):zm d t=⟨some d,.mov (.tmp t),none⟩:=rfl
theorem zf_eq (d i t:Nat):zf d i t=⟨some d,.faddr i (.tmp t),none⟩:=rfl
theorem zl_eq (d n t:Nat):zl d n t=⟨some d,.load false n (.tmp t),none⟩:=rfl
theorem zq_eq (d t:Nat) (n:Int):zq d t n=⟨some d,.bin .eql (.tmp t) (.val (.int .i64 n)),none⟩:=rfl
theorem zx_eq (d t i:Nat):zx d t i=⟨some d,.ext (.tmp t) i,none⟩:=rfl
theorem zo_eq (d:Nat) (o:AOp AOpd):zo d o=⟨some d,o,none⟩:=rfl
theorem zg_eq (d:Nat) (o:AOp AOpd) (t:Nat) (b:Bool):zg d o t b=⟨some d,o,some (t,b)⟩:=rfl
theorem zs_eq (n a b:Nat):zs n a b=⟨none,.store n (.tmp a) (.tmp b),none⟩:=rfl
theorem sm:(((((((((type_of% @w_skip)∧((type_of% @w_region)∧(type_of% @w_seq)))∧(((type_of% @w_cond)∧(type_of% @w_block))∧((type_of% @w_loop)∧(type_of% @w_exit))))∧((((type_of% @w_ret)∧(type_of% @w_nil))∧((type_of% @w_cons)∧(type_of% @q_normal)))∧(((type_of% @q_exit)∧(type_of% @q_ret))∧((type_of% @b_normal)∧(type_of% @b_exit)))))∧((((type_of% @b_ret)∧((type_of% @f_ret)∧(type_of% @g_normal)))∧(((type_of% @g_ret)∧(type_of% @r_int))∧((type_of% @r_bool)∧(type_of% @r_str))))∧((((type_of% @r_any)∧(type_of% @r_nils))∧((type_of% @r_fn)∧(type_of% @r_agg)))∧(((type_of% @r_tuple)∧(type_of% @r_list))∧((type_of% @r_rptr)∧(type_of% @r_ptr))))))∧(((((type_of% @r_sl)∧((type_of% @AOp.map.eq_1)∧(type_of% @AOp.map.eq_2)))∧(((type_of% @AOp.map.eq_3)∧(type_of% @AOp.map.eq_4))∧((type_of% @AOp.map.eq_5)∧(type_of% @AOp.map.eq_6))))∧((((type_of% @AOp.map.eq_7)∧(type_of% @AOp.map.eq_8))∧((type_of% @AOp.map.eq_9)∧(type_of% @AOp.map.eq_10)))∧(((type_of% @AOp.map.eq_11)∧(type_of% @AOp.map.eq_12))∧((type_of% @AOp.map.eq_13)∧(type_of% @AOp.map.eq_14)))))∧((((type_of% @AOp.map.eq_16)∧((type_of% @AOp.map.eq_17)∧(type_of% @AOp.map.eq_18)))∧(((type_of% @AOp.map.eq_19)∧(type_of% @AOp.map.eq_21))∧((type_of% @AOp.map.eq_22)∧(type_of% @AOp.map.eq_23))))∧((((type_of% @AOp.map.eq_25)∧(type_of% @AOp.map.eq_26))∧((type_of% @AOp.map.eq_28)∧(type_of% @AOp.map.eq_29)))∧(((type_of% @AOp.map.eq_30)∧(type_of% @AOp.map.eq_31))∧((type_of% @AOp.map.eq_32)∧(type_of% @t_get0)))))))∧((((((type_of% @t_set0)∧((type_of% @t_get1)∧(type_of% @t_set1)))∧(((type_of% @t_get2)∧(type_of% @t_set2))∧((type_of% @t_get3)∧(type_of% @t_set3))))∧((((type_of% @t_get4)∧(type_of% @t_set4))∧((type_of% @t_get5)∧(type_of% @t_set5)))∧(((type_of% @t_get6)∧(type_of% @t_set6))∧((type_of% @t_get7)∧(type_of% @t_set7)))))∧((((type_of% @t_get8)∧((type_of% @t_set8)∧(type_of% @t_put)))∧(((type_of% @t_put0)∧(type_of% @t_tmp))∧((type_of% @t_val)∧(type_of% @AeZ.eq_2))))∧((((type_of% @AeZ.eq_3)∧(type_of% @ArZ.eq_2))∧((type_of% @ArZ.eq_3)∧(type_of% @bxKill.eq_1)))∧(((type_of% @bxKill.eq_2)∧(type_of% @List.map_cons.{0,0}))∧((type_of% @List.map_nil.{0,0})∧(type_of% @List.length_cons.{0}))))))∧(((((type_of% @List.length_nil.{0})∧((type_of% @List.cons_append.{0})∧(type_of% @List.nil_append.{0})))∧(((type_of% @List.append_nil.{0})∧(type_of% @List.drop_succ_cons.{0}))∧((type_of% @List.drop_zero.{0})∧(type_of% @List.take_succ_cons.{0}))))∧((((type_of% @List.take_zero.{0})∧(type_of% @List.head?_cons.{0}))∧((type_of% @List.getElem?_cons_zero.{0})∧(type_of% @List.getElem?_cons_succ.{0})))∧(((type_of% @List.set_cons_zero.{0})∧(type_of% @List.set_cons_succ.{0}))∧((type_of% @List.replicate.eq_1.{0})∧(type_of% @List.replicate.eq_2.{0})))))∧((((type_of% @List.length_append.{0})∧((type_of% @decide_true)∧(type_of% @decide_false)))∧(((type_of% @decide_eq_true_eq)∧(type_of% @decide_eq_false_iff_not))∧((type_of% @Bool.and_true)∧(type_of% @Bool.true_and))))∧((((type_of% @Bool.and_false)∧(type_of% @Bool.false_and))∧((type_of% @Bool.not_true)∧(type_of% @Bool.not_false)))∧(((type_of% @Bool.false_xor)∧(type_of% @Bool.true_xor))∧((type_of% @Bool.xor_true)∧(type_of% @Nat.add_zero))))))))∧(((((((type_of% @Nat.zero_add)∧((type_of% @om_I)∧(type_of% @om_Rg)))∧(((type_of% @om_Rgs)∧(type_of% @AdZ))∧((type_of% @om_agg)∧(type_of% @snoc_Rg))))∧((((type_of% @snoc_Rgs)∧(type_of% @BqQ))∧((type_of% @Option.map_none.{0,0})∧(type_of% @ne_eq.{1})))∧(((type_of% @not_true_eq_false)∧(type_of% @not_false_eq_true))∧((type_of% @and_true)∧(type_of% @true_and)))))∧((((type_of% @view_eq)∧((type_of% @wk_int)∧(type_of% @wk_bool)))∧(((type_of% @wk_any)∧(type_of% @wk_list))∧((type_of% @wk_list_nils)∧(type_of% @wk_agg))))∧((((type_of% @wk_tuple)∧(type_of% @wk_same))∧((type_of% @wkL_same)∧(type_of% @wkEs_same)))∧(((type_of% @wkL_cons)∧(type_of% @flat_any))∧((type_of% @flat_int)∧(type_of% @flat_bool))))))∧(((((type_of% @flat_str)∧((type_of% @flat_nils)∧(type_of% @flat_list)))∧(((type_of% @flat_ptr)∧(type_of% @flat_sl))∧((type_of% @flat_agg)∧(type_of% @flat_tuple))))∧((((type_of% @flat_fn)∧(type_of% @flatL_nil))∧((type_of% @BsX)∧(type_of% @Bool.true_eq_false)))∧(((type_of% @Bool.false_eq_true)∧(type_of% @and_self))∧((type_of% @AV.bool.injEq)∧(type_of% @AV.int.injEq)))))∧((((type_of% @Int.toNat_natCast)∧((type_of% @Int.toNat_zero)∧(type_of% @List.getElem?_map.{0,0})))∧(((type_of% @List.length_map.{0,0})∧(type_of% @tm.eq_1))∧((type_of% @List.foldl_cons.{0,0})∧(type_of% @List.foldl_nil.{0,0}))))∧((((type_of% @List.all_nil.{0})∧(type_of% @List.all_cons.{0}))∧((type_of% @Int.natCast_nonneg)∧(type_of% @getN.eq_2)))∧(((type_of% @getN.eq_3)∧(type_of% @reB.eq_1))∧((type_of% @reB.eq_2)∧(type_of% @hol.eq_1)))))))∧((((((type_of% @hol.eq_2)∧((type_of% @wkN_sl)∧(type_of% @wkN_nil)))∧(((type_of% @wkN_tuple)∧(type_of% @wkN_int))∧((type_of% @wkN_bool)∧(type_of% @wkN_agg))))∧((((type_of% @mg_cons)∧(type_of% @mg_nil2))∧((type_of% @nn_nil)∧(type_of% @om_ev)))∧(((type_of% @Nat.le_refl)∧(type_of% @BiX.eq_1))∧((type_of% @BiX.eq_2)∧(type_of% @okBx.eq_1)))))∧((((type_of% @okBx.eq_2)∧((type_of% @okBx.eq_3)∧(type_of% @virtE.eq_1)))∧(((type_of% @virtF.eq_1)∧(type_of% @virtF.eq_2))∧((type_of% @isNb.eq_1)∧(type_of% @virtFok.eq_1))))∧((((type_of% @virtFok.eq_2)∧(type_of% @virtL.eq_1))∧((type_of% @virtL.eq_2)∧(type_of% @virtB.eq_1)))∧(((type_of% @virtB.eq_2)∧(type_of% @virtOk.eq_1))∧((type_of% @virtOk.eq_2)∧(type_of% @isN.eq_1))))))∧(((((type_of% @flatL_eI)∧((type_of% @AdQ)∧(type_of% @AdY)))∧(((type_of% @List.range_zero)∧(type_of% @awpOper.eq_1))∧((type_of% @AwY.eq_1)∧(type_of% @AwY.eq_2))))∧((((type_of% @AwY.eq_3)∧(type_of% @AwY.eq_4))∧((type_of% @AwY.eq_5)∧(type_of% @AwY.eq_8)))∧(((type_of% @AwY.eq_9)∧(type_of% @AwY.eq_11))∧((type_of% @AwY.eq_12)∧(type_of% @AwY.eq_13)))))∧(((((type_of% @AwY.eq_14)∧(type_of% @AwY.eq_15))∧((type_of% @evP.eq_1)∧(type_of% @evP.eq_5)))∧(((type_of% @evP.eq_6)∧(type_of% @evP.eq_8))∧((type_of% @evP.eq_9)∧(type_of% @evP.eq_12))))∧((((type_of% @evP.eq_13)∧(type_of% @evP.eq_15))∧((type_of% @evP.eq_17)∧(type_of% @evP.eq_20)))∧(((type_of% @evP.eq_22)∧(type_of% @evP.eq_23))∧((type_of% @evP.eq_28)∧(type_of% @evP.eq_33)))))))))∧((((((((type_of% @evP.eq_34)∧((type_of% @evP.eq_35)∧(type_of% @evP.eq_36)))∧(((type_of% @evP.eq_38)∧(type_of% @evP.eq_40))∧((type_of% @evP.eq_42)∧(type_of% @evBin.eq_1))))∧((((type_of% @evBin.eq_2)∧(type_of% @evBin.eq_3))∧((type_of% @evBin.eq_6)∧(type_of% @evBin.eq_7)))∧(((type_of% @evBin.eq_8)∧(type_of% @evBin.eq_9))∧((type_of% @evBin.eq_10)∧(type_of% @evBin.eq_11)))))∧((((type_of% @evBin.eq_14)∧((type_of% @evBin.eq_15)∧(type_of% @evUn.eq_2)))∧(((type_of% @evSlc.eq_1)∧(type_of% @BhZ.eq_1))∧((type_of% @BhZ.eq_2)∧(type_of% @evW.eq_1))))∧((((type_of% @evW.eq_2)∧(type_of% @elemsOf.eq_2))∧((type_of% @elemsOf.eq_3)∧(type_of% @appBase.eq_1)))∧(((type_of% @appBase.eq_2)∧(type_of% @viewN.eq_2))∧((type_of% @viewN.eq_3)∧(type_of% @viewN.eq_5))))))∧(((((type_of% @viewN.eq_6)∧((type_of% @setE.eq_1)∧(type_of% @AmY.eq_1)))∧(((type_of% @AmY.eq_3)∧(type_of% @AmY.eq_4))∧((type_of% @cutCells.eq_1)∧(type_of% @cutCells.eq_2))))∧((((type_of% @fillA.eq_1)∧(type_of% @fillA.eq_2))∧((type_of% @okElems.eq_1)∧(type_of% @okElems.eq_2)))∧(((type_of% @eqInts.eq_1)∧(type_of% @eqInts.eq_2))∧((type_of% @maxA.eq_1)∧(type_of% @maxA.eq_2)))))∧((((type_of% @resV.eq_1)∧((type_of% @resV.eq_2)∧(type_of% @resV.eq_3)))∧(((type_of% @embB.eq_1)∧(type_of% @embB.eq_2))∧((type_of% @embB.eq_3)∧(type_of% @embT.eq_1))))∧((((type_of% @embT.eq_2)∧(type_of% @okR.eq_1))∧((type_of% @okR.eq_2)∧(type_of% @okC.eq_1)))∧(((type_of% @okL.eq_1)∧(type_of% @okL.eq_2))∧((type_of% @okEs.eq_1)∧(type_of% @ren.eq_1)))))))∧((((((type_of% @ren.eq_2)∧((type_of% @renC.eq_1)∧(type_of% @renL.eq_1)))∧(((type_of% @renL.eq_2)∧(type_of% @renEs.eq_1))∧((type_of% @AV.natOf.eq_1)∧(type_of% @natO.eq_1))))∧((((type_of% @natO.eq_2)∧(type_of% @AV.isInt.eq_1))∧((type_of% @AV.cells.eq_1)∧(type_of% @AV.isSl.eq_2)))∧(((type_of% @tupV.eq_1)∧(type_of% @n_AV_cells_any))∧((type_of% @n_AV_cells_int)∧(type_of% @n_AV_cells_bool)))))∧((((type_of% @n_AV_cells_str)∧((type_of% @n_AV_cells_nils)∧(type_of% @n_AV_cells_list)))∧(((type_of% @n_AV_cells_sl)∧(type_of% @n_AV_okSt_int))∧((type_of% @n_AV_okSt_bool)∧(type_of% @n_AV_okSt_str))))∧((((type_of% @n_AV_okSt_nils)∧(type_of% @n_AV_okSt_agg))∧((type_of% @n_AV_okSt_list)∧(type_of% @n_AV_okSt_sl)))∧(((type_of% @n_okL_any)∧(type_of% @n_okL_int))∧((type_of% @n_okL_bool)∧(type_of% @n_okL_str))))))∧(((((type_of% @n_okL_nils)∧((type_of% @n_okL_list)∧(type_of% @n_okC_int)))∧(((type_of% @n_okC_bool)∧(type_of% @n_okC_str))∧((type_of% @n_okC_list)∧(type_of% @n_okC_ptr))))∧((((type_of% @n_okC_sl)∧(type_of% @n_okR_int))∧((type_of% @n_okR_bool)∧(type_of% @n_okR_str)))∧(((type_of% @n_okR_agg)∧(type_of% @n_okR_list))∧((type_of% @n_okR_ptr)∧(type_of% @n_okR_sl)))))∧((((type_of% @n_renL_any)∧((type_of% @n_renL_int)∧(type_of% @n_renL_bool)))∧(((type_of% @n_renL_str)∧(type_of% @n_renL_nils))∧((type_of% @n_renL_list)∧(type_of% @n_renC_int))))∧((((type_of% @n_renC_bool)∧(type_of% @n_renC_str))∧((type_of% @n_renC_list)∧(type_of% @n_renC_ptr)))∧(((type_of% @n_renC_sl)∧(type_of% @n_ren_int))∧((type_of% @n_ren_bool)∧(type_of% @n_ren_str))))))))∧(((((((type_of% @n_ren_agg)∧((type_of% @n_ren_list)∧(type_of% @n_ren_ptr)))∧(((type_of% @n_ren_sl)∧(type_of% @n_setE_any))∧((type_of% @n_setE_nils)∧(type_of% @n_setE_sl))))∧((((type_of% @n_embT_int)∧(type_of% @n_embT_bool))∧((type_of% @n_embT_str)∧(type_of% @n_embT_fn)))∧(((type_of% @n_embT_list)∧(type_of% @n_embT_ptr))∧((type_of% @n_embT_sl)∧(type_of% @n_tupV0)))))∧((((type_of% @n_tupV2)∧((type_of% @n_bsl)∧(type_of% @n_ial)))∧(((type_of% @n_ias)∧(type_of% @n_sto))∧((type_of% @n_do_mov)∧(type_of% @n_do_build))))∧((((type_of% @n_do_bslice)∧(type_of% @n_do_nilc))∧((type_of% @n_do_bin)∧(type_of% @n_do_eqs)))∧(((type_of% @n_do_eqb)∧(type_of% @n_do_un))∧((type_of% @n_do_fld)∧(type_of% @n_do_faddr))))))∧(((((type_of% @n_do_iaddr)∧((type_of% @n_do_slc)∧(type_of% @n_do_len)))∧(((type_of% @n_do_mx)∧(type_of% @n_do_ext))∧((type_of% @n_do_mkf)∧(type_of% @x_frz_nil))))∧((((type_of% @x_frz_cons)∧(type_of% @p_AV_cells_mp))∧((type_of% @p_AV_okSt_mp)∧(type_of% @p_AV_flat_mp)))∧(((type_of% @p_okL_mp)∧(type_of% @p_renL_mp))∧((type_of% @p_rest_mp)∧(type_of% @s_okR_fb)))))∧((((type_of% @s_ren_fb)∧((type_of% @s_rest_ifn)∧(type_of% @s_rest_ifc)))∧(((type_of% @s_rest_fb)∧(type_of% @s_embT_fb))∧((type_of% @s_do_isni)∧(type_of% @s_do_sidx))))∧((((type_of% @s_do_sslc)∧(type_of% @s_do_mkb))∧((type_of% @s_map_isni)∧(type_of% @s_map_sidx)))∧(((type_of% @s_map_sslc)∧(type_of% @s_map_mkb))∧((type_of% @s_ev_isni0)∧(type_of% @s_ev_isni1)))))))∧((((((type_of% @s_ev_mkb)∧((type_of% @s_ev_sidx)∧(type_of% @s_ev_sidxa)))∧(((type_of% @s_ev_sidxb)∧(type_of% @s_ev_sslc))∧((type_of% @s_size)∧(type_of% @s_eqb))))∧((((type_of% @x_skip)∧(type_of% @x_region))∧((type_of% @x_draw)∧(type_of% @w_draw)))∧(((type_of% @x_seq)∧(type_of% @x_cond))∧((type_of% @x_block)∧(type_of% @x_loop)))))∧((((type_of% @x_exit)∧((type_of% @x_ret)∧(type_of% @x_nil)))∧(((type_of% @x_cons)∧(type_of% @x_grd))∧((type_of% @x_mov_o)∧(type_of% @x_pick_o))))∧((((type_of% @x_alloc_o)∧(type_of% @x_build_o))∧((type_of% @x_bslice_o)∧(type_of% @x_load_o)))∧(((type_of% @x_store_o)∧(type_of% @x_nilc_o))∧((type_of% @x_bin_o)∧(type_of% @x_un_o))))))∧(((((type_of% @x_fld_o)∧((type_of% @x_faddr_o)∧(type_of% @x_iaddr_o)))∧(((type_of% @x_len_o)∧(type_of% @x_app_o))∧((type_of% @x_callv_o)∧(type_of% @x_mkb_o))))∧((((type_of% @x_callm_o)∧(type_of% @d_flat))∧((type_of% @d_map_mkv)∧(type_of% @d_map_mputv)))∧(((type_of% @d_map_mgetv)∧(type_of% @d_do_mkv))∧((type_of% @d_do_mputv)∧(type_of% @d_do_mgetv)))))∧(((((type_of% @d_ev_mputv)∧(type_of% @d_ev_mgetv))∧((type_of% @d_key_s)∧(type_of% @d_key_i)))∧(((type_of% @d_get1)∧(type_of% @d_get0))∧((type_of% @d_get1n)∧(type_of% @d_get0n))))∧((((type_of% @zm_eq)∧(type_of% @zf_eq))∧((type_of% @zl_eq)∧(type_of% @zq_eq)))∧(((type_of% @zx_eq)∧(type_of% @zo_eq))∧((type_of% @zg_eq)∧(type_of% @zs_eq)))))))))):=⟨⟨⟨⟨⟨⟨⟨⟨@w_skip,⟨@w_region,@w_seq⟩⟩,⟨⟨@w_cond,@w_block⟩,⟨@w_loop,@w_exit⟩⟩⟩,⟨⟨⟨@w_ret,@w_nil⟩,⟨@w_cons,@q_normal⟩⟩,⟨⟨@q_exit,@q_ret⟩,⟨@b_normal,@b_exit⟩⟩⟩⟩,⟨⟨⟨@b_ret,⟨@f_ret,@g_normal⟩⟩,⟨⟨@g_ret,@r_int⟩,⟨@r_bool,@r_str⟩⟩⟩,⟨⟨⟨@r_any,@r_nils⟩,⟨@r_fn,@r_agg⟩⟩,⟨⟨@r_tuple,@r_list⟩,⟨@r_rptr,@r_ptr⟩⟩⟩⟩⟩,⟨⟨⟨⟨@r_sl,⟨@AOp.map.eq_1,@AOp.map.eq_2⟩⟩,⟨⟨@AOp.map.eq_3,@AOp.map.eq_4⟩,⟨@AOp.map.eq_5,@AOp.map.eq_6⟩⟩⟩,⟨⟨⟨@AOp.map.eq_7,@AOp.map.eq_8⟩,⟨@AOp.map.eq_9,@AOp.map.eq_10⟩⟩,⟨⟨@AOp.map.eq_11,@AOp.map.eq_12⟩,⟨@AOp.map.eq_13,@AOp.map.eq_14⟩⟩⟩⟩,⟨⟨⟨@AOp.map.eq_16,⟨@AOp.map.eq_17,@AOp.map.eq_18⟩⟩,⟨⟨@AOp.map.eq_19,@AOp.map.eq_21⟩,⟨@AOp.map.eq_22,@AOp.map.eq_23⟩⟩⟩,⟨⟨⟨@AOp.map.eq_25,@AOp.map.eq_26⟩,⟨@AOp.map.eq_28,@AOp.map.eq_29⟩⟩,⟨⟨@AOp.map.eq_30,@AOp.map.eq_31⟩,⟨@AOp.map.eq_32,@t_get0⟩⟩⟩⟩⟩⟩,⟨⟨⟨⟨⟨@t_set0,⟨@t_get1,@t_set1⟩⟩,⟨⟨@t_get2,@t_set2⟩,⟨@t_get3,@t_set3⟩⟩⟩,⟨⟨⟨@t_get4,@t_set4⟩,⟨@t_get5,@t_set5⟩⟩,⟨⟨@t_get6,@t_set6⟩,⟨@t_get7,@t_set7⟩⟩⟩⟩,⟨⟨⟨@t_get8,⟨@t_set8,@t_put⟩⟩,⟨⟨@t_put0,@t_tmp⟩,⟨@t_val,@AeZ.eq_2⟩⟩⟩,⟨⟨⟨@AeZ.eq_3,@ArZ.eq_2⟩,⟨@ArZ.eq_3,@bxKill.eq_1⟩⟩,⟨⟨@bxKill.eq_2,@List.map_cons.{0,0}⟩,⟨@List.map_nil.{0,0},@List.length_cons.{0}⟩⟩⟩⟩⟩,⟨⟨⟨⟨@List.length_nil.{0},⟨@List.cons_append.{0},@List.nil_append.{0}⟩⟩,⟨⟨@List.append_nil.{0},@List.drop_succ_cons.{0}⟩,⟨@List.drop_zero.{0},@List.take_succ_cons.{0}⟩⟩⟩,⟨⟨⟨@List.take_zero.{0},@List.head?_cons.{0}⟩,⟨@List.getElem?_cons_zero.{0},@List.getElem?_cons_succ.{0}⟩⟩,⟨⟨@List.set_cons_zero.{0},@List.set_cons_succ.{0}⟩,⟨@List.replicate.eq_1.{0},@List.replicate.eq_2.{0}⟩⟩⟩⟩,⟨⟨⟨@List.length_append.{0},⟨@decide_true,@decide_false⟩⟩,⟨⟨@decide_eq_true_eq,@decide_eq_false_iff_not⟩,⟨@Bool.and_true,@Bool.true_and⟩⟩⟩,⟨⟨⟨@Bool.and_false,@Bool.false_and⟩,⟨@Bool.not_true,@Bool.not_false⟩⟩,⟨⟨@Bool.false_xor,@Bool.true_xor⟩,⟨@Bool.xor_true,@Nat.add_zero⟩⟩⟩⟩⟩⟩⟩,⟨⟨⟨⟨⟨⟨@Nat.zero_add,⟨@om_I,@om_Rg⟩⟩,⟨⟨@om_Rgs,@AdZ⟩,⟨@om_agg,@snoc_Rg⟩⟩⟩,⟨⟨⟨@snoc_Rgs,@BqQ⟩,⟨@Option.map_none.{0,0},@ne_eq.{1}⟩⟩,⟨⟨@not_true_eq_false,@not_false_eq_true⟩,⟨@and_true,@true_and⟩⟩⟩⟩,⟨⟨⟨@view_eq,⟨@wk_int,@wk_bool⟩⟩,⟨⟨@wk_any,@wk_list⟩,⟨@wk_list_nils,@wk_agg⟩⟩⟩,⟨⟨⟨@wk_tuple,@wk_same⟩,⟨@wkL_same,@wkEs_same⟩⟩,⟨⟨@wkL_cons,@flat_any⟩,⟨@flat_int,@flat_bool⟩⟩⟩⟩⟩,⟨⟨⟨⟨@flat_str,⟨@flat_nils,@flat_list⟩⟩,⟨⟨@flat_ptr,@flat_sl⟩,⟨@flat_agg,@flat_tuple⟩⟩⟩,⟨⟨⟨@flat_fn,@flatL_nil⟩,⟨@BsX,@Bool.true_eq_false⟩⟩,⟨⟨@Bool.false_eq_true,@and_self⟩,⟨@AV.bool.injEq,@AV.int.injEq⟩⟩⟩⟩,⟨⟨⟨@Int.toNat_natCast,⟨@Int.toNat_zero,@List.getElem?_map.{0,0}⟩⟩,⟨⟨@List.length_map.{0,0},@tm.eq_1⟩,⟨@List.foldl_cons.{0,0},@List.foldl_nil.{0,0}⟩⟩⟩,⟨⟨⟨@List.all_nil.{0},@List.all_cons.{0}⟩,⟨@Int.natCast_nonneg,@getN.eq_2⟩⟩,⟨⟨@getN.eq_3,@reB.eq_1⟩,⟨@reB.eq_2,@hol.eq_1⟩⟩⟩⟩⟩⟩,⟨⟨⟨⟨⟨@hol.eq_2,⟨@wkN_sl,@wkN_nil⟩⟩,⟨⟨@wkN_tuple,@wkN_int⟩,⟨@wkN_bool,@wkN_agg⟩⟩⟩,⟨⟨⟨@mg_cons,@mg_nil2⟩,⟨@nn_nil,@om_ev⟩⟩,⟨⟨@Nat.le_refl,@BiX.eq_1⟩,⟨@BiX.eq_2,@okBx.eq_1⟩⟩⟩⟩,⟨⟨⟨@okBx.eq_2,⟨@okBx.eq_3,@virtE.eq_1⟩⟩,⟨⟨@virtF.eq_1,@virtF.eq_2⟩,⟨@isNb.eq_1,@virtFok.eq_1⟩⟩⟩,⟨⟨⟨@virtFok.eq_2,@virtL.eq_1⟩,⟨@virtL.eq_2,@virtB.eq_1⟩⟩,⟨⟨@virtB.eq_2,@virtOk.eq_1⟩,⟨@virtOk.eq_2,@isN.eq_1⟩⟩⟩⟩⟩,⟨⟨⟨⟨@flatL_eI,⟨@AdQ,@AdY⟩⟩,⟨⟨@List.range_zero,@awpOper.eq_1⟩,⟨@AwY.eq_1,@AwY.eq_2⟩⟩⟩,⟨⟨⟨@AwY.eq_3,@AwY.eq_4⟩,⟨@AwY.eq_5,@AwY.eq_8⟩⟩,⟨⟨@AwY.eq_9,@AwY.eq_11⟩,⟨@AwY.eq_12,@AwY.eq_13⟩⟩⟩⟩,⟨⟨⟨⟨@AwY.eq_14,@AwY.eq_15⟩,⟨@evP.eq_1,@evP.eq_5⟩⟩,⟨⟨@evP.eq_6,@evP.eq_8⟩,⟨@evP.eq_9,@evP.eq_12⟩⟩⟩,⟨⟨⟨@evP.eq_13,@evP.eq_15⟩,⟨@evP.eq_17,@evP.eq_20⟩⟩,⟨⟨@evP.eq_22,@evP.eq_23⟩,⟨@evP.eq_28,@evP.eq_33⟩⟩⟩⟩⟩⟩⟩⟩,⟨⟨⟨⟨⟨⟨⟨@evP.eq_34,⟨@evP.eq_35,@evP.eq_36⟩⟩,⟨⟨@evP.eq_38,@evP.eq_40⟩,⟨@evP.eq_42,@evBin.eq_1⟩⟩⟩,⟨⟨⟨@evBin.eq_2,@evBin.eq_3⟩,⟨@evBin.eq_6,@evBin.eq_7⟩⟩,⟨⟨@evBin.eq_8,@evBin.eq_9⟩,⟨@evBin.eq_10,@evBin.eq_11⟩⟩⟩⟩,⟨⟨⟨@evBin.eq_14,⟨@evBin.eq_15,@evUn.eq_2⟩⟩,⟨⟨@evSlc.eq_1,@BhZ.eq_1⟩,⟨@BhZ.eq_2,@evW.eq_1⟩⟩⟩,⟨⟨⟨@evW.eq_2,@elemsOf.eq_2⟩,⟨@elemsOf.eq_3,@appBase.eq_1⟩⟩,⟨⟨@appBase.eq_2,@viewN.eq_2⟩,⟨@viewN.eq_3,@viewN.eq_5⟩⟩⟩⟩⟩,⟨⟨⟨⟨@viewN.eq_6,⟨@setE.eq_1,@AmY.eq_1⟩⟩,⟨⟨@AmY.eq_3,@AmY.eq_4⟩,⟨@cutCells.eq_1,@cutCells.eq_2⟩⟩⟩,⟨⟨⟨@fillA.eq_1,@fillA.eq_2⟩,⟨@okElems.eq_1,@okElems.eq_2⟩⟩,⟨⟨@eqInts.eq_1,@eqInts.eq_2⟩,⟨@maxA.eq_1,@maxA.eq_2⟩⟩⟩⟩,⟨⟨⟨@resV.eq_1,⟨@resV.eq_2,@resV.eq_3⟩⟩,⟨⟨@embB.eq_1,@embB.eq_2⟩,⟨@embB.eq_3,@embT.eq_1⟩⟩⟩,⟨⟨⟨@embT.eq_2,@okR.eq_1⟩,⟨@okR.eq_2,@okC.eq_1⟩⟩,⟨⟨@okL.eq_1,@okL.eq_2⟩,⟨@okEs.eq_1,@ren.eq_1⟩⟩⟩⟩⟩⟩,⟨⟨⟨⟨⟨@ren.eq_2,⟨@renC.eq_1,@renL.eq_1⟩⟩,⟨⟨@renL.eq_2,@renEs.eq_1⟩,⟨@AV.natOf.eq_1,@natO.eq_1⟩⟩⟩,⟨⟨⟨@natO.eq_2,@AV.isInt.eq_1⟩,⟨@AV.cells.eq_1,@AV.isSl.eq_2⟩⟩,⟨⟨@tupV.eq_1,@n_AV_cells_any⟩,⟨@n_AV_cells_int,@n_AV_cells_bool⟩⟩⟩⟩,⟨⟨⟨@n_AV_cells_str,⟨@n_AV_cells_nils,@n_AV_cells_list⟩⟩,⟨⟨@n_AV_cells_sl,@n_AV_okSt_int⟩,⟨@n_AV_okSt_bool,@n_AV_okSt_str⟩⟩⟩,⟨⟨⟨@n_AV_okSt_nils,@n_AV_okSt_agg⟩,⟨@n_AV_okSt_list,@n_AV_okSt_sl⟩⟩,⟨⟨@n_okL_any,@n_okL_int⟩,⟨@n_okL_bool,@n_okL_str⟩⟩⟩⟩⟩,⟨⟨⟨⟨@n_okL_nils,⟨@n_okL_list,@n_okC_int⟩⟩,⟨⟨@n_okC_bool,@n_okC_str⟩,⟨@n_okC_list,@n_okC_ptr⟩⟩⟩,⟨⟨⟨@n_okC_sl,@n_okR_int⟩,⟨@n_okR_bool,@n_okR_str⟩⟩,⟨⟨@n_okR_agg,@n_okR_list⟩,⟨@n_okR_ptr,@n_okR_sl⟩⟩⟩⟩,⟨⟨⟨@n_renL_any,⟨@n_renL_int,@n_renL_bool⟩⟩,⟨⟨@n_renL_str,@n_renL_nils⟩,⟨@n_renL_list,@n_renC_int⟩⟩⟩,⟨⟨⟨@n_renC_bool,@n_renC_str⟩,⟨@n_renC_list,@n_renC_ptr⟩⟩,⟨⟨@n_renC_sl,@n_ren_int⟩,⟨@n_ren_bool,@n_ren_str⟩⟩⟩⟩⟩⟩⟩,⟨⟨⟨⟨⟨⟨@n_ren_agg,⟨@n_ren_list,@n_ren_ptr⟩⟩,⟨⟨@n_ren_sl,@n_setE_any⟩,⟨@n_setE_nils,@n_setE_sl⟩⟩⟩,⟨⟨⟨@n_embT_int,@n_embT_bool⟩,⟨@n_embT_str,@n_embT_fn⟩⟩,⟨⟨@n_embT_list,@n_embT_ptr⟩,⟨@n_embT_sl,@n_tupV0⟩⟩⟩⟩,⟨⟨⟨@n_tupV2,⟨@n_bsl,@n_ial⟩⟩,⟨⟨@n_ias,@n_sto⟩,⟨@n_do_mov,@n_do_build⟩⟩⟩,⟨⟨⟨@n_do_bslice,@n_do_nilc⟩,⟨@n_do_bin,@n_do_eqs⟩⟩,⟨⟨@n_do_eqb,@n_do_un⟩,⟨@n_do_fld,@n_do_faddr⟩⟩⟩⟩⟩,⟨⟨⟨⟨@n_do_iaddr,⟨@n_do_slc,@n_do_len⟩⟩,⟨⟨@n_do_mx,@n_do_ext⟩,⟨@n_do_mkf,@x_frz_nil⟩⟩⟩,⟨⟨⟨@x_frz_cons,@p_AV_cells_mp⟩,⟨@p_AV_okSt_mp,@p_AV_flat_mp⟩⟩,⟨⟨@p_okL_mp,@p_renL_mp⟩,⟨@p_rest_mp,@s_okR_fb⟩⟩⟩⟩,⟨⟨⟨@s_ren_fb,⟨@s_rest_ifn,@s_rest_ifc⟩⟩,⟨⟨@s_rest_fb,@s_embT_fb⟩,⟨@s_do_isni,@s_do_sidx⟩⟩⟩,⟨⟨⟨@s_do_sslc,@s_do_mkb⟩,⟨@s_map_isni,@s_map_sidx⟩⟩,⟨⟨@s_map_sslc,@s_map_mkb⟩,⟨@s_ev_isni0,@s_ev_isni1⟩⟩⟩⟩⟩⟩,⟨⟨⟨⟨⟨@s_ev_mkb,⟨@s_ev_sidx,@s_ev_sidxa⟩⟩,⟨⟨@s_ev_sidxb,@s_ev_sslc⟩,⟨@s_size,@s_eqb⟩⟩⟩,⟨⟨⟨@x_skip,@x_region⟩,⟨@x_draw,@w_draw⟩⟩,⟨⟨@x_seq,@x_cond⟩,⟨@x_block,@x_loop⟩⟩⟩⟩,⟨⟨⟨@x_exit,⟨@x_ret,@x_nil⟩⟩,⟨⟨@x_cons,@x_grd⟩,⟨@x_mov_o,@x_pick_o⟩⟩⟩,⟨⟨⟨@x_alloc_o,@x_build_o⟩,⟨@x_bslice_o,@x_load_o⟩⟩,⟨⟨@x_store_o,@x_nilc_o⟩,⟨@x_bin_o,@x_un_o⟩⟩⟩⟩⟩,⟨⟨⟨⟨@x_fld_o,⟨@x_faddr_o,@x_iaddr_o⟩⟩,⟨⟨@x_len_o,@x_app_o⟩,⟨@x_callv_o,@x_mkb_o⟩⟩⟩,⟨⟨⟨@x_callm_o,@d_flat⟩,⟨@d_map_mkv,@d_map_mputv⟩⟩,⟨⟨@d_map_mgetv,@d_do_mkv⟩,⟨@d_do_mputv,@d_do_mgetv⟩⟩⟩⟩,⟨⟨⟨⟨@d_ev_mputv,@d_ev_mgetv⟩,⟨@d_key_s,@d_key_i⟩⟩,⟨⟨@d_get1,@d_get0⟩,⟨@d_get1n,@d_get0n⟩⟩⟩,⟨⟨⟨@zm_eq,@zf_eq⟩,⟨@zl_eq,@zq_eq⟩⟩,⟨⟨@zx_eq,@zo_eq⟩,⟨@zg_eq,@zs_eq⟩⟩⟩⟩⟩⟩⟩⟩⟩
end Go.Proofs.YtcmphhedaefcgaaGreatDoor.Av
end
section
namespace Go.Proofs.YtcmphhedaefcgaaGreatDoor
open Av
attribute [local irreducible] awp AbX
abbrev Bs:=List UInt8
def signs8:Bs:=[58,123,125,91,93,40,41,44,59,61]
def clsB (c:UInt8):Int :=
 if (c.toNat:Int)=95 then 1 else if 97≤(c.toNat:Int)∧(c.toNat:Int)≤122 then 1 else if 65≤(c.toNat:Int)∧(c.toNat:Int)≤90 then 1
 else if 48≤(c.toNat:Int)∧(c.toNat:Int)≤57 then 2 else if signs8.contains c=true then 3 else 0
def AsY (c:UInt8):Bool:=([32,9,13,10]:Bs).contains c
def isRow (c:UInt8):Bool:=decide ((c.toNat:Int)≠10)
def AzQ (c:UInt8):Bool:=decide (clsB c=1) || decide (clsB c=2)
def BuZ (c:UInt8):Bool:=decide (clsB c=2)
def AnZ (l:Bs):Bs :=
 match h:l.dropWhile AsY with
 | []=>[]
 | c::r=>if (c.toNat:Int)=37 then AnZ ((c::r).dropWhile isRow) else c::r
termination_by l.length
decreasing_by
 rename_i hc
 have h1:(l.dropWhile AsY).length≤l.length:=(List.dropWhile_suffix _).length_le
 rw [h] at h1
 have h2:isRow c=true:=by unfold isRow;rw [decide_eq_true_eq];omega
 have h3:((c::r).dropWhile isRow).length≤r.length:=by
  rw [List.dropWhile_cons_of_pos h2]
  exact (List.dropWhile_suffix _).length_le
 simp only [List.length_cons] at h1
 omega
theorem blankR_nil {l:Bs} (h:l.dropWhile AsY=[]):AnZ l=[]:=by
 rw [AnZ];split
 · rfl
 · rename_i h2;rw [h] at h2;cases h2
theorem blankR_row {l:Bs} {c:UInt8} {r:Bs} (h:l.dropWhile AsY=c::r) (hc:(c.toNat:Int)=37):AnZ l=AnZ ((c::r).dropWhile isRow):=by
 rw [AnZ];split
 · rename_i h2;rw [h] at h2;cases h2
 · rename_i c' r' h2;rw [h] at h2;injection h2 with e1 e2;subst e1;subst e2;rw [if_pos hc]
theorem blankR_end {l:Bs} {c:UInt8} {r:Bs} (h:l.dropWhile AsY=c::r) (hc:¬ (c.toNat:Int)=37):AnZ l=c::r:=by
 rw [AnZ];split
 · rename_i h2;rw [h] at h2;cases h2
 · rename_i c' r' h2;rw [h] at h2;injection h2 with e1 e2;subst e1;subst e2;rw [if_neg hc]
theorem blankR_suffix:∀ (n:Nat) (l:Bs),l.length≤n→AnZ l <:+ l:=by
 intro n
 induction n with
 |
  zero =>
  intro l hl
  have:l=[]:=List.eq_nil_of_length_eq_zero (by omega)
  subst this
  rw [blankR_nil rfl];exact List.suffix_refl _
 |
  succ n ih =>
  intro l hl
  have hs:l.dropWhile AsY <:+ l:=List.dropWhile_suffix _
  cases h:l.dropWhile AsY with
  | nil=>rw [blankR_nil h];exact List.nil_suffix
  |
   cons c r =>
   rw [h] at hs
   by_cases hc:(c.toNat:Int)=37
   · rw [blankR_row h hc]
     have h2:isRow c=true:=by unfold isRow;rw [decide_eq_true_eq];omega
     have h3:(c::r).dropWhile isRow <:+ r:=by rw [List.dropWhile_cons_of_pos h2];exact List.dropWhile_suffix _
     have h4:=hs.length_le
     have h5:=h3.length_le
     simp only [List.length_cons] at h4
     exact (ih _ (by omega)).trans (h3.trans ((List.suffix_cons c r).trans hs))
   · rw [blankR_end h hc];exact hs
theorem blankR_suf (l:Bs):AnZ l <:+ l:=blankR_suffix l.length l (Nat.le_refl _)
def secD:Bs→Bool
 | d::_=>decide (clsB d=2)
 | []=>false
def ApY:Bs→Int × Bs
 | []=>(0,[])
 |
  c::r =>
  if clsB c=1 then (1,(c::r).dropWhile AzQ)
  else if clsB c=2 then (2,(c::r).dropWhile BuZ)
  else if (c.toNat:Int)=45∧secD r=true then (2,r.dropWhile BuZ)
  else if Lib.hasPrefix (c::r) [58,58]=true∨Lib.hasPrefix (c::r) [46,46]=true then (3,r.drop 1)
  else if clsB c=3 then (3,r)
  else (0,c::r)
structure Tok where
 k:Int
 t:Bs
 v:Int
 at_:Int
def eTok (t:Tok):AV:=.agg [.int .i64 t.k,.str (S8 t.t),.int .i64 t.v,.int .i64 t.at_]
theorem BdZ (t:Tok):eTok t=.agg [.int .i64 t.k,.str (S8 t.t),.int .i64 t.v,.int .i64 t.at_]:=rfl
def posR (s r:Bs):Nat:=s.length-r.length
theorem posR_drop {s r:Bs} (h:r <:+ s):s.drop (posR s r)=r:=by
 obtain ⟨t,rfl⟩:=h
 unfold posR
 simp
theorem posR_get {s r:Bs} (h:r <:+ s):s[posR s r]? = r.head?:=by
 have:=posR_drop h
 rw [← List.head?_drop,this]
theorem posR_le (s r:Bs):posR s r≤s.length:=Nat.sub_le _ _
theorem posR_add {s r q:Bs} (h:r <:+ s) (h2:q <:+ r):posR s r+posR r q=posR s q:=by
 have h3:=h.length_le
 have h4:=h2.length_le
 unfold posR;omega
theorem posR_lt {s:Bs} {r:Bs} (h:r <:+ s):posR s r<s.length↔r≠[]:=by
 have:=h.length_le
 unfold posR
 cases r with
 | nil=>simp
 | cons c l=>simp at this ⊢;omega
def lexF (s:Bs):Nat→Nat→Bs→Except Int (List Tok)
 | 0,_,_=>.ok []
 | _+1,_,[]=>.ok []
 |
  f+1,n,c::t =>
  if n=4096 then .error 3
  else if (ApY (c::t)).1=0 then .error 5
  else if (ApY (c::t)).1=2 then
   match Lib.parseIntB 64 ((c::t).take ((c::t).length-(ApY (c::t)).2.length)) with
   | .ok v=>(lexF s f (n+1) (AnZ (ApY (c::t)).2)).map (⟨2,(c::t).take ((c::t).length-(ApY (c::t)).2.length),v,posR s (c::t)⟩::·)
   | _=>.error 4
  else (lexF s f (n+1) (AnZ (ApY (c::t)).2)).map (⟨(ApY (c::t)).1,(c::t).take ((c::t).length-(ApY (c::t)).2.length),0,posR s (c::t)⟩::·)
def lexS (s:Bs):Except Int (List Tok):=if 8192<s.length then .error 3 else lexF s (s.length+1) 0 (AnZ s)
theorem AsQ (c:UInt8) (r:Bs):ApY (c::r)=(if clsB c=1 then (1,(c::r).dropWhile AzQ) else if clsB c=2 then (2,(c::r).dropWhile BuZ) else if (c.toNat:Int)=45∧secD r=true then (2,r.dropWhile BuZ) else if Lib.hasPrefix (c::r) [58,58]=true∨Lib.hasPrefix (c::r) [46,46]=true then (3,r.drop 1) else if clsB c=3 then (3,r) else (0,c::r)):=rfl
theorem wordR_suf (c:UInt8) (t:Bs) (h:(ApY (c::t)).1≠0):(ApY (c::t)).2 <:+ t:=by
 rw [AsQ] at h ⊢
 split
 · rename_i k
   have:AzQ c=true:=by unfold AzQ;rw [decide_eq_true k];rfl
   simp only [List.dropWhile_cons_of_pos this]
   exact List.dropWhile_suffix _
 · split
   · rename_i k
     have:BuZ c=true:=by unfold BuZ;rw [decide_eq_true k]
     simp only [List.dropWhile_cons_of_pos this]
     exact List.dropWhile_suffix _
   · split
     · exact List.dropWhile_suffix _
     · split
       · exact List.drop_suffix _ _
       · split
         · exact List.suffix_refl _
         · rename_i h1 h2 h3 h4 h5
           rw [if_neg h1,if_neg h2,if_neg h3,if_neg h4,if_neg h5] at h
           exact absurd rfl h
theorem cut_text {s r q:Bs} (h:r <:+ s) (h2:q <:+ r):(s.take (posR s q)).drop (posR s r)=r.take (r.length-q.length):=by
 rw [List.drop_take,posR_drop h]
 congr 1
 have h3:=h.length_le
 have h4:=h2.length_le
 unfold posR;omega
def appE (acc:List Tok):Except Int (List Tok)→Except Int (List Tok)
 | .ok l=>.ok (acc++l)
 | .error e=>.error e
theorem appE_map (acc:List Tok) (t:Tok) (x:Except Int (List Tok)):appE acc (x.map (t::·))=appE (acc++[t]) x:=by
 cases x with
 | ok l=>simp [appE,Except.map]
 | error e=>rfl
end Go.Proofs.YtcmphhedaefcgaaGreatDoor
end
section
namespace Go.Proofs.YtcmphhedaefcgaaGreatDoor
open Av
attribute [local irreducible] awp AbX
abbrev PR (α:Type):=Except Int (α × List Tok)
structure Pe where
 k:Int
 n:Int
 s:Bs
structure Ex where
 k:Int
 n:Int
 s:Bs
 l:List Pe
def Pe.ex (p:Pe):Ex:=⟨p.k,p.n,p.s,[]⟩
structure It where
 kind:Int
 name:Bs
 bool:Bool
 dom:List (Int × Int)
 size:Int
 out:Bool
 vals:List Ex
 ask:Int
def ePe (p:Pe):AV:=.agg [.int .i64 p.k,.int .i64 p.n,.str (S8 p.s),.list 4 []]
def eEx (x:Ex):AV:=.agg [.int .i64 x.k,.int .i64 x.n,.str (S8 x.s),.list 4 (x.l.map ePe)]
def eIt (x:It):AV:=.agg [.int .i64 x.kind,.str (S8 x.name),.bool x.bool,.list 2 (x.dom.map eRg),.int .i64 x.size,.bool x.out,.list 4 (x.vals.map eEx),.int .i64 x.ask]
theorem eEx_ex (p:Pe):eEx p.ex=ePe p:=rfl
theorem AnY (p:Pe):ePe p=.agg [.int .i64 p.k,.int .i64 p.n,.str (S8 p.s),.list 4 []]:=rfl
theorem AcQ (x:Ex):eEx x=.agg [.int .i64 x.k,.int .i64 x.n,.str (S8 x.s),.list 4 (x.l.map ePe)]:=rfl
theorem AaZ (x:It):eIt x=.agg [.int .i64 x.kind,.str (S8 x.name),.bool x.bool,.list 2 (x.dom.map eRg),.int .i64 x.size,.bool x.out,.list 4 (x.vals.map eEx),.int .i64 x.ask]:=rfl
theorem AxZ (l:List Pe):BdX (l.map ePe)=true:=by
 induction l with
 | nil=>rfl
 | cons x l ih=>simp only [List.map_cons,BsX,ih,Bool.and_true];rfl
theorem AeY (l:List Ex):BdX (l.map eEx)=true:=by
 induction l with
 | nil=>rfl
 |
  cons x l ih =>
  simp only [List.map_cons,BsX,ih,Bool.and_true,AcQ,flat_agg,flat_list,flatL_nil,flat_int,flat_str]
theorem flatL_It (l:List It):BdX (l.map eIt)=true:=by
 induction l with
 | nil=>rfl
 |
  cons x l ih =>
  simp only [List.map_cons,BsX,ih,Bool.and_true,AaZ,flat_agg,flat_list,flatL_nil,flat_int,flat_bool,flat_str]
theorem Pe_map (l:List Pe):(l.map Pe.ex).map eEx=l.map ePe:=by rw [List.map_map];rfl
def andP {α β:Type} (x:PR α) (f:α→List Tok→PR β):PR β:=match x with
 | .ok (a,l)=>f a l
 | .error e=>.error e
theorem AbY {α β:Type} (a:α) (l:List Tok) (f:α→List Tok→PR β):andP (.ok (a,l)) f=f a l:=rfl
theorem andP_err {α β:Type} (e:Int) (f:α→List Tok→PR β):andP (.error e:PR α) f=.error e:=rfl
def isW (s:Bs):List Tok→Bool
 | []=>false
 | t::_=>decide (t.t=s)
def wrongE:List Tok→Int
 | []=>6
 | _::_=>5
def mayR (s:Bs) (l:List Tok):List Tok:=if isW s l=true then l.tail else l
def AeQ:List Bs→List Tok→PR Unit
 | [],l=>.ok ((),l)
 | s::ss,l=>if isW s l=true then AeQ ss l.tail else .error (wrongE l)
def words:List Bs:=[[97,114,114,97,121],[98,111,111,108],[99,111,110,115,116,114,97,105,110,116],[102,97,108,115,101],[105,110,116],[109,97,120,105,109,105,122,101],[109,105,110,105,109,105,122,101],[111,102],[111,117,116,112,117,116,95,97,114,114,97,121],[111,117,116,112,117,116,95,118,97,114],[115,97,116,105,115,102,121],[115,111,108,118,101],[116,114,117,101],[118,97,114]]
def wordB (s:Bs):Bool:=words.contains s
def BeQ:List Tok→Int
 | []=>0
 | t::_=>if t.k=1∧wordB t.t=true then 0 else t.k
def BiQ:List Tok→PR Bs
 | []=>.error 6
 | t::l=>if BeQ (t::l)=1 then .ok (t.t,l) else .error 5
def numP:List Tok→PR Int
 | []=>.error 6
 | t::l=>if BeQ (t::l)=2 then .ok (t.v,l) else .error 5
def BmY (n:Int):List Tok→PR Unit
 | []=>.error 6
 | t::l=>if BeQ (t::l)=2∧t.v=n then .ok ((),l) else .error 5
def AjQ:List Tok→PR Pe
 | []=>.error 6
 |
  t::l =>
  if BeQ (t::l)=2 then .ok (⟨1,t.v,[]⟩,l)
  else if BeQ (t::l)=1 then .ok (⟨3,0,t.t⟩,l)
  else if t.t=[116,114,117,101] then .ok (⟨2,1,[]⟩,l)
  else if t.t=[102,97,108,115,101] then .ok (⟨2,0,[]⟩,l)
  else .error 5
def BmX {α:Type} (one:List Tok→PR α) (e:Bs):Nat→List Tok→PR (List α)
 | 0,_=>.error 3
 | k+1,l=>andP (one l) fun x l1=>if isW e l1=true then .ok ([x],l1.tail) else andP (AeQ [[44]] l1) fun _ l2=>andP (BmX one e k l2) fun r l3=>.ok (x::r,l3)
def BdY {α:Type} (one:List Tok→PR α) (e:Bs) (l:List Tok):PR (List α):=if isW e l=true then .ok ([],l.tail) else BmX one e 64 l
def exprP (l:List Tok):PR Ex:=if isW [91] l=true then andP (BdY AjQ [93] l.tail) fun r l1=>.ok (⟨4,0,[],r⟩,l1) else andP (AjQ l) fun p l1=>.ok (p.ex,l1)
inductive Dm where
 | b
 | set (l:List Int)
 | rng (lo hi:Int)
def setF:Nat→List Tok→PR (List Int)
 | 0,_=>.error 3
 | k+1,l=>andP (numP l) fun x l1=>if isW [125] l1=true then .ok ([x],l1.tail) else andP (AeQ [[44]] l1) fun _ l2=>andP (setF k l2) fun r l3=>.ok (x::r,l3)
def domP (l:List Tok):PR Dm :=
 if isW [98,111,111,108] l=true then .ok (.b,l.tail)
 else if isW [123] l=true then andP (setF 256 l.tail) fun r l1=>.ok (.set r,l1)
 else andP (numP l) fun lo l1=>andP (AeQ [[46,46]] l1) fun _ l2=>andP (numP l2) fun hi l3=>.ok (.rng lo hi,l3)
def Dm.isB:Dm→Bool
 | .b=>true
 | _=>false
def Dm.rows:Dm→List (Int × Int)
 | .b=>[]
 | .set l=>l.map fun n=>(n,n)
 | .rng lo hi=>[(lo,hi)]
def outP (l:List Tok):PR Bool:=if isW [58,58] l=true then andP (AeQ [[111,117,116,112,117,116,95,118,97,114]] l.tail) fun _ l1=>.ok (true,l1) else .ok (false,l)
def initP (l:List Tok):PR (List Ex):=if isW [61] l=true then andP (AjQ l.tail) fun p l1=>.ok ([p.ex],l1) else .ok ([],l)
def BgZ (l:List Tok):PR It :=
 andP (domP l) fun d l1=>andP (AeQ [[58]] l1) fun _ l2=>andP (BiQ l2) fun n l3=>andP (outP l3) fun o l4=>andP (initP l4) fun v l5 =>
  .ok (⟨2,n,d.isB,d.rows,0,o,v,0⟩,l5)
def truthP (l:List Tok):PR Bool:=if isW [98,111,111,108] l=true then .ok (true,l.tail) else andP (AeQ [[105,110,116]] l) fun _ l1=>.ok (false,l1)
def outAP (v:Bool) (size:Int) (l:List Tok):PR Bool :=
 if (v && isW [58,58] l)=true then andP (AeQ [[111,117,116,112,117,116,95,97,114,114,97,121],[40],[91]] l.tail) fun _ l1=>andP (BmY 1 l1) fun _ l2=>andP (AeQ [[46,46]] l2) fun _ l3=>andP (BmY size l3) fun _ l4=>andP (AeQ [[93],[41]] l4) fun _ l5=>.ok (true,l5)
 else .ok (false,l)
def arrayP (l:List Tok):PR It :=
 andP (AeQ [[91]] l) fun _ l1=>andP (BmY 1 l1) fun _ l2=>andP (AeQ [[46,46]] l2) fun _ l3=>andP (numP l3) fun size l4=>andP (AeQ [[93],[111,102]] l4) fun _ l5 =>
  andP (truthP (mayR [118,97,114] l5)) fun b l6=>andP (AeQ [[58]] l6) fun _ l7=>andP (BiQ l7) fun n l8=>andP (outAP (isW [118,97,114] l5) size l8) fun o l9 =>
   andP (AeQ [[61],[91]] l9) fun _ l10=>andP (BdY AjQ [93] l10) fun v l11=>.ok (⟨if isW [118,97,114] l5=true then 4 else 3,n,b,[],size,o,v.map Pe.ex,0⟩,l11)
def parP (l:List Tok):PR It :=
 andP (truthP l) fun b l1=>andP (AeQ [[58]] l1) fun _ l2=>andP (BiQ l2) fun n l3=>andP (AeQ [[61]] l3) fun _ l4 =>
  if b≠(isW [116,114,117,101] l4 || isW [102,97,108,115,101] l4)∨b=false∧BeQ l4≠2 then .error (wrongE l4)
  else andP (AjQ l4) fun p l5=>.ok (⟨1,n,b,[],0,false,[p.ex],0⟩,l5)
def goalP (l:List Tok):PR It :=
 if isW [115,97,116,105,115,102,121] l=true then .ok (⟨6,[],false,[],0,false,[],0⟩,l.tail)
 else if isW [109,105,110,105,109,105,122,101] l=true then andP (BiQ l.tail) fun n l1=>.ok (⟨6,n,false,[],0,false,[],1⟩,l1)
 else if isW [109,97,120,105,109,105,122,101] l=true then andP (BiQ l.tail) fun n l1=>.ok (⟨6,n,false,[],0,false,[],2⟩,l1)
 else .error (wrongE l)
def itemP (l:List Tok):PR It :=
 if (isW [105,110,116] l || isW [98,111,111,108] l)=true then parP l
 else if isW [118,97,114] l=true then BgZ l.tail
 else if isW [97,114,114,97,121] l=true then arrayP l.tail
 else if isW [99,111,110,115,116,114,97,105,110,116] l=true then andP (BiQ l.tail) fun n l1=>andP (AeQ [[40]] l1) fun _ l2=>andP (BdY exprP [41] l2) fun v l3=>.ok (⟨5,n,false,[],0,false,v,0⟩,l3)
 else if isW [115,111,108,118,101] l=true then goalP l.tail
 else .error (wrongE l)
def allF:Nat→List Tok→Except Int (List It)
 | _,[]=>.ok []
 | 0,_::_=>.error 3
 |
  k+1,t::l=>match andP (itemP (t::l)) fun x l1=>andP (AeQ [[59]] l1) fun _ l2=>.ok (x,l2) with
  | .ok (x,l2)=>(allF k l2).map (x::·)
  | .error e=>.error e
def BtZ (s:Bs):Except Int (List It):=match lexS s with
 | .ok ts=>allF 512 ts
 | .error e=>.error e
end Go.Proofs.YtcmphhedaefcgaaGreatDoor
end
section
namespace Go.Proofs.YtcmphhedaefcgaaGreatDoor
open Av
attribute [local irreducible] awp AbX
def errE {α:Type}:Except Int α→Int
 | .ok _=>0
 | .error e=>e
def BpQ (s:Bs):Bool:=match lexS s with
 | .ok [t]=>decide (t.k=1) && decide (t.t=s) && decide (errE (BtZ ([115,111,108,118,101,32,109,105,110,105,109,105,122,101,32]++s++[59]))=0)
 | _=>false
def AfQ (x:Ex):Bs × Bool :=
 if x.l≠[] then ([],false)
 else if x.k=1∧x.s=[] then (Lib.itoa x.n,true)
 else if x.k=2∧x.s=[]∧x.n=1 then ([116,114,117,101],true)
 else if x.k=2∧x.s=[]∧x.n=0 then ([102,97,108,115,101],true)
 else if x.k=3∧x.n=0∧BpQ x.s=true then (x.s,true)
 else ([],false)
def BiY (one:Ex→Bs × Bool):List Ex→Option (List Bs)
 | []=>some []
 | x::l=>if (one x).2=true then (BiY one l).map ((one x).1::·) else none
def joinB (ws:List Bs):Bs:=Lib.join ws [44,32]
def BbQ (one:Ex→Bs × Bool) (l:List Ex):Bs × Bool :=
 if 64<l.length then ([],false) else match BiY one l with
  | some ws=>(joinB ws,true)
  | none=>([],false)
def exprS (x:Ex):Bs × Bool :=
 if x.k≠4 then AfQ x
 else ([91]++(BbQ AfQ (x.l.map Pe.ex)).1++[93],(BbQ AfQ (x.l.map Pe.ex)).2 && decide (x.n=0) && decide (x.s=[]))
def sgls:List (Int × Int)→Bool
 | []=>true
 | r::l=>if r.1=r.2 then sgls l else false
def domS (x:It):Bs × Bool :=
 if x.bool=true then ([98,111,111,108],decide (x.dom=[]))
 else match x.dom with
  | []=>([],false)
  | [r]=>(Lib.itoa r.1++[46,46]++Lib.itoa r.2,true)
  | l=>if 256<l.length then ([],false) else if sgls l=true then ([123]++joinB (l.map fun r=>Lib.itoa r.1)++[125],true) else ([],false)
def ApZ (t:Bool):Bs:=if t=true then [98,111,111,108] else [105,110,116]
def bareB (x:It):Bool:=decide (x.dom=[]) && decide (x.size=0) && !x.out && decide (x.ask=0)
def headK:List Ex→Int→Bool
 | [x],k=>decide (x.k=k)
 | _,_=>false
def parS (x:It):Bs × Bool :=
 (
  ApZ x.bool++[58,32]++x.name++[32,61,32]++(BbQ AfQ x.vals).1++[59],
  (BbQ AfQ x.vals).2 && headK x.vals (if x.bool=true then 2 else 1) && bareB x && BpQ x.name)
def AwQ (x:It):Bs × Bool :=
 (
  [118,97,114,32]++(domS x).1++[58,32]++x.name++(if x.out=true then [32,58,58,32,111,117,116,112,117,116,95,118,97,114] else [])++(if x.vals≠[] then [32,61,32]++(BbQ AfQ x.vals).1 else [])++[59],
  (domS x).2 && (BbQ AfQ x.vals).2 && decide (x.vals.length≤1) && decide (x.size=0) && decide (x.ask=0) && BpQ x.name)
def sizeS (x:It):Bs:=[91,49,46,46]++Lib.itoa x.size++[93]
def arrayS (x:It):Bs × Bool :=
 (
  [97,114,114,97,121,32]++sizeS x++[32,111,102,32]++(if x.kind=4 then [118,97,114,32] else [])++ApZ x.bool++[58,32]++x.name++(if x.out=true then [32,58,58,32,111,117,116,112,117,116,95,97,114,114,97,121,40]++sizeS x++[41] else [])++[32,61,32,91]++(BbQ AfQ x.vals).1++[93,59],
  (BbQ AfQ x.vals).2 && decide (x.dom=[]) && decide (x.ask=0) && (!x.out || decide (x.kind=4)) && BpQ x.name)
def BfY (x:It):Bs × Bool :=
 ([99,111,110,115,116,114,97,105,110,116,32]++x.name++[40]++(BbQ exprS x.vals).1++[41,59],(BbQ exprS x.vals).2 && bareB x && !x.bool && BpQ x.name)
def bareG (x:It):Bool:=decide (x.dom=[]) && decide (x.size=0) && !x.out && !x.bool && decide (x.vals=[])
def goalS (x:It):Bs × Bool :=
 if x.ask=0 then ([115,111,108,118,101,32,115,97,116,105,115,102,121,59],bareG x && decide (x.name=[]))
 else if x.ask=1 then ([115,111,108,118,101,32,109,105,110,105,109,105,122,101,32]++x.name++[59],bareG x && BpQ x.name)
 else if x.ask=2 then ([115,111,108,118,101,32,109,97,120,105,109,105,122,101,32]++x.name++[59],bareG x && BpQ x.name)
 else ([],false)
def BaY (x:It):Bs × Bool :=
 if x.kind=1 then parS x
 else if x.kind=2 then AwQ x
 else if x.kind=3∨x.kind=4 then arrayS x
 else if x.kind=5 then BfY x
 else if x.kind=6 then goalS x
 else ([],false)
def fitsB (s:Bs):Bool:=decide (errE (lexS s)=0)
def AdX (x:It):Bool:=(BaY x).2 && fitsB (BaY x).1
def allS_:List It→Option Bs
 | []=>some []
 | x::l=>if AdX x=true then (allS_ l).map fun r=>(BaY x).1++[10]++r else none
def showS (l:List It):Bs × Int :=
 if 512<l.length then ([],3) else match allS_ l with
  | none=>([],2)
  | some t=>if fitsB t=true then (t,0) else ([],3)
def BcY (n:Int):Prop:=-9223372036854775808≤n∧n≤9223372036854775807
structure Ex.Fine (x:Ex):Prop where
 n:BcY x.n
 s:x.s.length≤900000000000
 l:x.l.length≤900000000000
 p:∀ p∈x.l,BcY p.n∧p.s.length≤900000000000
structure It.Fine (x:It):Prop where
 name:x.name.length≤900000000000
 size:BcY x.size
 dlen:x.dom.length≤900000000000
 dom:∀ r∈x.dom,BcY r.1∧BcY r.2
 vlen:x.vals.length≤900000000000
 vals:∀ v∈x.vals,v.Fine
theorem join_len (sep:Bs) (M:Nat):∀ ws:List Bs,(∀ w∈ws,w.length≤M)→(Lib.join ws sep).length≤ws.length * (M+sep.length)
 | [],_=>by simp [Lib.join_nil]
 |
  x::ws,h=>by
  rw [Lib.join_cons]
  have hx:=h x List.mem_cons_self
  have ht:∀ r:List Bs,(∀ w∈r,w.length≤M)→(Lib.joinTail sep r).length≤r.length * (M+sep.length):=by
   intro r
   induction r with
   | nil=>intro _;simp [Lib.joinTail]
   |
    cons y r ih =>
    intro hr
    have h1:=ih (fun w hw=>hr w (List.mem_cons_of_mem _ hw))
    have h2:=hr y List.mem_cons_self
    have e:(Lib.joinTail sep (y::r)).length=sep.length+y.length+(Lib.joinTail sep r).length:=by simp [Lib.joinTail,Nat.add_assoc]
    rw [e,List.length_cons,Nat.add_mul]
    omega
  have h1:=ht ws (fun w hw=>h w (List.mem_cons_of_mem _ hw))
  rw [List.length_append,List.length_cons,Nat.add_mul]
  omega
theorem words_all (one:Ex→Bs × Bool):∀ (l:List Ex) (ws:List Bs),BiY one l=some ws→∀ w∈ws,∃ x∈l,(one x).2=true∧w=(one x).1
 | [],ws,h,w,hw=>by injection h with h;subst h;cases hw
 |
  x::l,ws,h,w,hw=>by
  have e:BiY one (x::l)=if (one x).2=true then (BiY one l).map ((one x).1::·) else none:=rfl
  rw [e] at h
  split at h
  · rename_i hb
    obtain ⟨ws',h1,rfl⟩:=Option.map_eq_some_iff.1 h
    rcases List.mem_cons.1 hw with rfl | hw
    · exact ⟨x,List.mem_cons_self,hb,rfl⟩
    · obtain ⟨y,y1,y2,y3⟩:=words_all one l ws' h1 w hw
      exact ⟨y,List.mem_cons_of_mem _ y1,y2,y3⟩
  · cases h
theorem words_len (one:Ex→Bs × Bool):∀ (l:List Ex) (ws:List Bs),BiY one l=some ws→ws.length=l.length
 | [],ws,h=>by injection h with h;subst h;rfl
 |
  x::l,ws,h=>by
  have e:BiY one (x::l)=if (one x).2=true then (BiY one l).map ((one x).1::·) else none:=rfl
  rw [e] at h
  split at h
  · obtain ⟨ws',h1,rfl⟩:=Option.map_eq_some_iff.1 h
    simp [words_len one l ws' h1]
  · cases h
theorem nameB_len (s:Bs) (h:BpQ s=true):s.length≤8192:=by
 unfold BpQ at h
 split at h
 · rename_i hl
   unfold lexS at hl
   split at hl
   · cases hl
   · omega
 · cases h
theorem itoa_len (n:Int) (h:BcY n):(Lib.itoa n).length≤21:=Lib.itoa_length_le n h.1 h.2
theorem BbY (x:Ex) (hx:x.Fine):(AfQ x).1.length≤8192:=by
 unfold AfQ
 have:=itoa_len x.n hx.n
 split
 · simp
 · split
   · simp only;omega
   · split
     · simp
     · split
       · simp
       · split
         · rename_i h;exact nameB_len _ h.2.2
         · simp
theorem BjX (one:Ex→Bs × Bool) (M:Nat) (l:List Ex) (h:∀ x∈l,(one x).1.length≤M):(BbQ one l).1.length≤64 * (M+2):=by
 unfold BbQ
 split
 · simp
 · cases hw:BiY one l with
   | none=>simp
   |
    some ws =>
    have hl:=words_len one l ws hw
    have:=join_len [44,32] M ws (fun w hm=>by
     obtain ⟨x,x1,x2,rfl⟩:=words_all one l ws hw w hm
     exact h x x1)
    have h2:ws.length * (M+2)≤64 * (M+2):=Nat.mul_le_mul_right _ (by omega)
    simp only [List.length_cons,List.length_nil] at this
    exact Nat.le_trans this h2
theorem words_join_len (one:Ex→Bs × Bool) (M:Nat) (l:List Ex) (h:∀ x∈l,(one x).1.length≤M) (ws:List Bs) (hw:BiY one l=some ws) (h64:l.length≤64):(joinB ws).length≤64 * (M+2):=by
 have:=BjX one M l h
 unfold BbQ at this
 rw [if_neg (by omega),hw] at this
 exact this
theorem Pe.fine {x:Ex} (hx:x.Fine):∀ y∈x.l.map Pe.ex,y.Fine:=by
 intro y hy
 obtain ⟨p,hp,rfl⟩:=List.mem_map.1 hy
 exact ⟨(hx.p p hp).1,(hx.p p hp).2,Nat.zero_le _,fun q hq=>by cases hq⟩
theorem exprS_len (x:Ex) (hx:x.Fine):(exprS x).1.length≤600000:=by
 unfold exprS
 split
 · have:=BbY x hx;omega
 · have:=BjX AfQ 8192 (x.l.map Pe.ex) (fun y hy=>BbY y (Pe.fine hx y hy))
   simp only [List.length_append,List.length_cons,List.length_nil]
   omega
theorem domS_len (x:It) (hx:x.Fine):(domS x).1.length≤10000:=by
 unfold domS
 split
 · simp
 · split
   · simp
   · rename_i r hd
     have h:=hx.dom r (by rw [hd];exact List.mem_cons_self)
     have h1:=itoa_len _ h.1
     have h2:=itoa_len _ h.2
     simp only [List.length_append,List.length_cons,List.length_nil];omega
   · split
     · simp
     · split
       · have:=join_len [44,32] 21 (x.dom.map fun r=>Lib.itoa r.1) (fun w hw=>by
          obtain ⟨r,hr,rfl⟩:=List.mem_map.1 hw
          exact itoa_len _ (hx.dom r hr).1)
         rename_i h256 _
         simp only [List.length_map,List.length_cons,List.length_nil] at this
         simp only [joinB,List.length_append,List.length_cons,List.length_nil]
         omega
       · simp
end Go.Proofs.YtcmphhedaefcgaaGreatDoor
end
section
namespace Go.Proofs.YtcmphhedaefcgaaGreatDoor
open Av
attribute [local irreducible] awp AbX
structure Th where
 kind:Int
 truth:Bool
 vals:List Int
 x:List Int
def th0:Th:=⟨0,false,[],[]⟩
structure Ot where
 name:Bs
 bool:Bool
 arr:Bool
 x:List Int
structure Bd where
 D:List (List Rg)
 C:List Con
 ask:Int
 goal:Int
 O:List Ot
 kn:List (Bs × Th)
 fx:List (Int × Int)
 sv:Bool
 e:Int
def bd0:Bd:=⟨[],[],0,0,[],[],[],false,0⟩
def AbQ (ok:Bool) (er:Int) (b:Bd):Bd:=if ok=false∧b.e=0 then { b with e:=er } else b
def AuY (ok:Bool) (er:Int) (b:Bd):Bool:=decide ((AbQ ok er b).e≠0)
def BcZ (d:List Rg) (b:Bd):Int × Bd :=
 if AuY (decide (b.D.length<64)) 3 b=true then (0,AbQ (decide (b.D.length<64)) 3 b)
 else (b.D.length,{ AbQ (decide (b.D.length<64)) 3 b with D:=b.D++[d] })
def postS (c:Con) (b:Bd):Bd :=
 if AuY (decide (b.C.length<64)) 3 b=true then AbQ (decide (b.C.length<64)) 3 b
 else { AbQ (decide (b.C.length<64)) 3 b with C:=b.C++[c] }
def thOf (s:Bs) (b:Bd):Th:=(lookB s b.kn).getD th0
def isOf (s:Bs) (b:Bd):Bool:=(lookB s b.kn).isSome
def AqX (s:Bs) (b:Bd):Bd:=AbQ (isOf s b) 7 b
def lookR (s:Bs) (b:Bd):Bool:=!AuY (isOf s b) 7 b
def head0 (l:List Int):Int:=l.headD 0
def wB (n:Int):Bool:=decide (-1048576≤n) && decide (n≤1048576)
def AhY (x:Ex) (t:Bool) (b:Bd):Int × Bd :=
 if x.k=3 then
  if lookR x.s b=false then (0,AqX x.s b)
  else if AuY (decide ((thOf x.s b).kind=1) && ((thOf x.s b).truth == t)) 9 (AqX x.s b)=true then (0,AbQ (decide ((thOf x.s b).kind=1) && ((thOf x.s b).truth == t)) 9 (AqX x.s b))
  else (head0 (thOf x.s b).vals,AbQ (decide ((thOf x.s b).kind=1) && ((thOf x.s b).truth == t)) 9 (AqX x.s b))
 else if x.k=4 then (0,AbQ false 9 b)
 else (x.n,AbQ (wB x.n) 2 (AbQ (decide (x.k=2) == t) 9 b))
def AyY:List Ex→Bool→Bd→List Int × Bd
 | [],_,b=>([],b)
 | x::l,t,b=>((AhY x t b).1::(AyY l t (AhY x t b).2).1,(AyY l t (AhY x t b).2).2)
def pinS (v:Int) (b:Bd):Int × Bd :=
 if ((lookI v b.fx).isSome || decide (b.e≠0))=true then ((lookI v b.fx).getD 0,b)
 else ((BcZ [(v,v)] b).1,if (BcZ [(v,v)] b).2.e=0 then { (BcZ [(v,v)] b).2 with fx:=putI v (BcZ [(v,v)] b).1 (BcZ [(v,v)] b).2.fx } else (BcZ [(v,v)] b).2)
def varS (x:Ex) (t:Bool) (b:Bd):Int × Bd :=
 if x.k=3∧(thOf x.s b).kind=2 then (head0 (thOf x.s b).x,AbQ ((thOf x.s b).truth == t) 9 b)
 else pinS (AhY x t b).1 (AhY x t b).2
def varsS:List Ex→Bool→Bd→List Int × Bd
 | [],_,b=>([],b)
 | x::l,t,b=>((varS x t b).1::(varsS l t (varS x t b).2).1,(varsS l t (varS x t b).2).2)
def pinsS:List Int→Bd→List Int × Bd
 | [],b=>([],b)
 | x::l,b=>((pinS x b).1::(pinsS l (pinS x b).2).1,(pinsS l (pinS x b).2).2)
def arrOk (ks:List Int) (t:Bool) (h:Th):Bool:=ks.contains h.kind && (h.truth == t)
def arrS (x:Ex) (t:Bool) (ks:List Int) (b:Bd):Bool × Bd :=
 if lookR x.s b=false then (false,AqX x.s b)
 else (!AuY (arrOk ks t (thOf x.s b)) 9 (AqX x.s b),AbQ (arrOk ks t (thOf x.s b)) 9 (AqX x.s b))
def intsS (x:Ex) (b:Bd):List Int × Bd :=
 if x.k=4 then AyY (x.l.map Pe.ex) false b
 else ((thOf x.s b).vals,(arrS x false [3] b).2)
def manyS (x:Ex) (t:Bool) (b:Bd):List Int × Bd :=
 if x.k=4 then varsS (x.l.map Pe.ex) t b
 else if (!(arrS x t [3,4] b).1 || decide ((thOf x.s b).kind=4))=true then ((thOf x.s b).x,(arrS x t [3,4] b).2)
 else pinsS (thOf x.s b).vals (arrS x t [3,4] b).2
def forms:List (Bs × Int × Bs):=[([105,110,116,95,101,113],15,[120,120]),([98,111,111,108,95,101,113],15,[98,98]),([98,111,111,108,50,105,110,116],15,[98,120]),([105,110,116,95,108,105,110,95,101,113],1,[73,88,105]),([105,110,116,95,108,105,110,95,108,101],2,[73,88,105]),([105,110,116,95,108,105,110,95,110,101],3,[73,88,105]),([105,110,116,95,108,105,110,95,101,113,95,114,101,105,102],4,[73,88,105,98]),([105,110,116,95,108,105,110,95,108,101,95,114,101,105,102],5,[73,88,105,98]),([105,110,116,95,108,105,110,95,108,101,95,105,109,112],6,[73,88,105,98]),([105,110,116,95,116,105,109,101,115],7,[120,120,120]),([105,110,116,95,109,105,110],8,[120,120,120]),([105,110,116,95,109,97,120],9,[120,120,120]),([105,110,116,95,97,98,115],10,[120,120]),([98,111,111,108,95,99,108,97,117,115,101],11,[66,66]),([97,114,114,97,121,95,98,111,111,108,95,97,110,100],12,[66,98]),([97,114,114,97,121,95,98,111,111,108,95,111,114],13,[66,98]),([98,111,111,108,95,120,111,114],14,[98,98,98]),([97,114,114,97,121,95,105,110,116,95,101,108,101,109,101,110,116],16,[120,73,120]),([97,114,114,97,121,95,118,97,114,95,105,110,116,95,101,108,101,109,101,110,116],17,[120,88,120]),([102,122,110,95,97,108,108,95,100,105,102,102,101,114,101,110,116,95,105,110,116],18,[88]),([102,122,110,95,99,117,109,117,108,97,116,105,118,101],19,[88,73,73,105])]
def formF:List (Bs × Int × Bs)→Bs→Int × Bs
 | [],_=>(0,[])
 | x::l,s=>if s=x.1 then x.2 else formF l s
def AlX (s:Bs):Int × Bs:=formF forms s
def letL (c:UInt8):Bool:=decide ((c.toNat:Int)=73) || decide ((c.toNat:Int)=88) || decide ((c.toNat:Int)=66)
def fitL (x:Ex) (c:UInt8):Bool:=if letL c=true then !(decide (x.k≠4) && decide (x.k≠3)) else decide (x.k≠4)
def fitAll:List Ex→Bs→Bool
 | x::l,c::r=>if fitL x c=true then fitAll l r else false
 | _,_=>true
def fitsM (l:List Ex) (a:Bs):Bool:=if l.length≠a.length then false else fitAll l a
abbrev CA:=List Int × List Int × Int
def argS (K:Int) (sg:Int) (x:Ex) (c:UInt8) (s:CA) (b:Bd):CA × Bd :=
 if (c.toNat:Int)=105 then ((s.1,s.2.1,(AhY x false b).1),(AhY x false b).2)
 else if (c.toNat:Int)=73 then ((s.1,s.2.1++(intsS x b).1,s.2.2),(intsS x b).2)
 else if (c.toNat:Int)=120∨(c.toNat:Int)=98 then ((s.1++[(varS x (decide ((c.toNat:Int)=98)) b).1],s.2.1,s.2.2),(varS x (decide ((c.toNat:Int)=98)) b).2)
 else ((s.1++(manyS x (decide ((c.toNat:Int)=66)) b).1,if K=11 then s.2.1++List.replicate (manyS x (decide ((c.toNat:Int)=66)) b).1.length sg else s.2.1,s.2.2),(manyS x (decide ((c.toNat:Int)=66)) b).2)
def argsS (K:Int):Int→List Ex→Bs→CA→Bd→CA × Bd
 | sg,x::l,c::r,s,b=>argsS K (-1) l r (argS K sg x c s b).1 (argS K sg x c s b).2
 | _,_,_,s,b=>(s,b)
end Go.Proofs.YtcmphhedaefcgaaGreatDoor
end
section
namespace Go.Proofs.YtcmphhedaefcgaaGreatDoor.Av
open Classical
section
variable (P:Program) (m:Nat) (Q:AwZ) (x:AV) (l:List AV) (bx:Bx)
end
def AfY:List Nat→Bx→Bx
 | [],bx=>bx
 | k::r,bx=>AfY r (ArZ bx k none)
theorem killL_get:∀ {ks:List Nat} {bx:Bx} {j:Nat} {x},AeZ (AfY ks bx) j=some x→AeZ bx j=some x∧¬ j∈ks
 | [],bx,j,x,h=>⟨h,by simp⟩
 |
  k::r,bx,j,x,h=>by
  obtain ⟨h1,h2⟩:=killL_get (ks:=r) h
  by_cases hk:k=j
  · subst hk
    have:=AoY h1
    rw [AmQ] at this
    rw [AjZ this] at h1;cases h1
  · rw [AiX hk] at h1
    exact ⟨h1,by simp [h2];omega⟩
def finF (res:List ARes) (m:Nat) (r:AV) (bs':Bx):AwZ
 | .exit _,_,_=>False
 |
  _,l,bx=>match resV l bx res with
  | some vs=>∃ ix:List Nat,ix.Nodup∧ix.take m=List.range m∧embB bs'.length ix bx ix bs'∧wk r (view 8 (AfY ix bx) (tupV vs))
  | none=>False
def finW (res:List ARes) (m:Nat) (r:AV) (bs':Bx):AwZ
 | .exit _,_,_=>False
 |
  _,l,bx=>match resV l bx res with
  | some vs=>∃ ix:List Nat,(liveIx ix bs').Nodup∧ix.take m=List.range m∧embB bs'.length ix bx ix bs'∧wk r (view 8 (AfY ix bx) (tupV vs))
  | none=>False
section
variable (Q:AwZ) (x:AV) (l:List AV) (bx:Bx) (m:Nat)
theorem h_ret (res:List ARes) (r:AV) (bs':Bx):finF res m r bs' .ret (x::l) bx=match resV (x::l) bx res with
 | some vs=>∃ ix:List Nat,ix.Nodup∧ix.take m=List.range m∧embB bs'.length ix bx ix bs'∧wk r (view 8 (AfY ix bx) (tupV vs))
 | none=>False:=rfl
end
section
variable {w0:World} {pr fz:Fz} {pl pls:Pl} {bx bs:Bx} {w:World} {P:Program} {m:Nat}
theorem Sim.kills:∀ (ks:List Nat) {bx:Bx},Sim w0 pr fz pl bx w→Sim w0 pr fz pl (AfY ks bx) w
 | [],bx,h=>h
 | k::r,bx,h=>Sim.kills r (h.kill k)
noncomputable def frzAll (pr:Fz) (pl:Pl) (bx:Bx) (w:World):Fz:=fun b =>
 if ∃ k x n,AeZ bx k=some x∧pl[k]? = some (some (b,n)) then none else match pr b with
  | none=>w.heap[b]?
  | some _=>none
theorem Sim.frzAll (h:Sim w0 pr fz pl bx w):Sim w0 pr (frzAll pr pl bx w) pl bx w∧FzLe fz (frzAll pr pl bx w):=by
 have le:FzLe fz (Av.frzAll pr pl bx w):=by
  intro b o hb
  unfold Av.frzAll
  rw [if_neg]
  · simp only [h.dis b o hb]
    exact h.frz b o hb
  · rintro ⟨k,x,n,hk,hp⟩
    have:=(AtX h hk hp).1
    rw [hb] at this;cases this
 refine ⟨⟨h.lay.mono le,h.os,h.tape,h.output,h.size,?_,h.prt,?_,h.len,?_,h.inj⟩,le⟩
 · intro b o hb
   unfold Av.frzAll at hb
   split at hb
   · cases hb
   · split at hb
     · exact hb
     · cases hb
 · intro b o hb
   unfold Av.frzAll at hb
   split at hb
   · cases hb
   · split at hb
     · assumption
     · cases hb
 · intro k sz es hk
   rcases h.box k sz es hk with (h1 | ⟨b,o,M⟩) | ⟨b,n,arr,e,B⟩
   · exact .inl (.inl h1)
   · refine .inl (.inr ⟨b,o,{ M with nfz:=?_,cont:=M.cont.mono le }⟩)
     unfold Av.frzAll
     rw [if_pos ⟨k,_,0,hk,M.plc⟩]
   · refine .inr ⟨b,n,arr,e,{ B with nfz:=?_,rep:=fun i v c x y=>(B.rep i v c x y).mono le (List.prefix_refl _) }⟩
     unfold Av.frzAll
     rw [if_pos ⟨k,_,n,hk,B.plc⟩]
theorem AqY {mt:FuncId→Nat} {f:FuncId} {fn:Func} {af:AFunc} (hf:P.funcs[f]? = some fn) (hcf:∀ (xs:Array Value) (w:World),(callFunc f xs).run P w=.ok (.enter f xs) w) (hc:AgY P mt fn=some af)
 {args:List AV} {bs:Bx} {r:AV} {bs':Bx} (h:awp P bs.length af.body (finW af.res bs.length r bs') (args++List.replicate (af.ntmps-args.length) .any) bs):Ctr P f args bs r bs':=by
 refine ⟨hcf,?_⟩
 intro w0 pr fz pl w cs hS hl hA
 unfold AgY at hc
 split at hc
 · rename_i ac rz hb hres
   injection hc with hc;subst hc
   rw [Option.bind_eq_some_iff] at hb
   obtain ⟨c,hbody,hcc⟩:=hb
   refine calls_of_wp hf hbody (awp_sound c ac hcc _ _ _ fz pl _ w h (BpY hl hA fn.ntmps) hS (by rw [hS.len];exact Nat.le_refl _) _ ?_)
   intro e l' bx' a' w' fz' pl' hq h1 ht hm hT hS' hdf
   have key:(match resV l' bx' rz with
    | some vs=>∃ ix:List Nat,(liveIx ix bs').Nodup∧ix.take bs.length=List.range bs.length∧embB bs'.length ix bx' ix bs'∧wk r (view 8 (AfY ix bx') (tupV vs))
    | none=>False)→a'.defers=[]∧∃ v,(results fn a'.tmps).run P w'=.ok v w'∧∃ cv fz'' pl'',Ending.returned v=.returned cv∧FzLe fz fz''∧pl <+: pl''∧Rep fz'' pl'' r cv∧Sim w0 pr fz'' pl'' bs' w':=by
    intro hq
    split at hq
    · rename_i vs hvs
      obtain ⟨c,r1,r2⟩:=AyQ (P:=P) hT hS' hres hvs
      obtain ⟨ix,i1,i2,i3,i5⟩:=hq
      obtain ⟨S1,hp⟩:=hS'.embedW rfl i3 i1 hS'.prt hS'.dis (fun k x b m' _ hk hpl=>(AtX hS' hk hpl).2.1)
      have htk:(plOf pl' ix).take bs.length=pl:=by
       have e1:(plOf pl' ix).take bs.length=pl'.take bs.length:=by
        apply List.ext_getElem?
        intro j
        rw [List.getElem?_take,List.getElem?_take]
        by_cases hj:j<bs.length
        · rw [if_pos hj,if_pos hj]
          have hix:ix[j]? = some j:=by
           have:(ix.take bs.length)[j]? = (List.range bs.length)[j]?:=by rw [i2]
           rw [List.getElem?_take,if_pos hj] at this
           rw [this];simp [hj]
          exact BhY hix (by omega)
        · rw [if_neg hj,if_neg hj]
       rw [e1,ht,← hS.len,List.take_length]
      obtain ⟨S2,le⟩:=S1.frzAll
      have hv:=view_sound (hS'.kills ix) le (fun k x b n hk hpl=>by
       obtain ⟨hk1,hk2⟩:=killL_get hk
       unfold frzAll
       rw [if_neg]
       · simp only [(AtX hS' hk1 hpl).2.1]
       · rintro ⟨j,y,n',hj,hpj⟩
         obtain ⟨e1,e2,e3⟩:=embB_get i3
         obtain ⟨k',xs,a1,a2,a3,a4⟩:=e3 j y.1 y.2 hj
         have hq:=BhY (pl:=pl') a1 (by rw [hS'.len];exact e2 j k' a1)
         rw [hq] at hpj
         have:=hS'.inj k k' x _ b n n' hk1 a2 hpl hpj
         subst this
         exact hk2 (List.mem_of_getElem? a1)) 8 (tupV vs) c r2
      refine ⟨hdf,c,r1,c,_,plOf pl' ix,rfl,h1.trans le,?_,Rep.wk _ _ _ (.frz hv) i5,S2⟩
      rw [← htk];exact List.take_prefix _ _
    · exact hq.elim
   cases e with
   | normal=>exact key hq
   | ret=>exact key hq
   | exit i=>exact hq.elim
 · cases hc
end
end Go.Proofs.YtcmphhedaefcgaaGreatDoor.Av
namespace Go.Proofs.YtcmphhedaefcgaaGreatDoor.Av
open Classical
def Does (P:Program) (Fe:Int→Value→Prop) (f:FuncId) (args:List AV) (bs:Bx):Except Int (AV × Bx)→Prop
 | .ok x=>Ctr P f args bs x.1 x.2
 | .error e=>Thr P f args bs (Fe e)
theorem does_ok {P:Program} {Fe:Int→Value→Prop} {f:FuncId} {args:List AV} {bs:Bx} {x:AV × Bx}:Does P Fe f args bs (.ok x)=Ctr P f args bs x.1 x.2:=rfl
def phiOf {α:Type} (Fe:Int→Value→Prop):Except Int α→Value→Prop
 | .ok _=>fun _=>False
 | .error e=>Fe e
def xtOf {α:Type} (Fe:Int→Value→Prop) (R:Except Int α):Xt:=⟨phiOf Fe R,fun _ _=>True⟩
def postM (res:List ARes) (m:Nat):Except Int (AV × Bx)→AwZ
 | .ok x=>finM res m x.1 x.2
 | .error _=>nowhere
def postF (res:List ARes) (m:Nat):Except Int (AV × Bx)→AwZ
 | .ok x=>finF res m x.1 x.2
 | .error _=>nowhere
section
variable {w0:World} {pr fz:Fz} {pl pls:Pl} {bx bs:Bx} {w:World} {P:Program} {m:Nat}
theorem BeX {mt:FuncId→Nat} {f:FuncId} {fn:Func} {af:AFunc} {Fe:Int→Value→Prop} (hf:P.funcs[f]? = some fn) (hcf:∀ (xs:Array Value) (w:World),(callFunc f xs).run P w=.ok (.enter f xs) w) (hc:AgY P mt fn=some af)
 {args:List AV} {bs:Bx} {R:Except Int (AV × Bx)} (h:awX P (xtOf Fe R) bs.length af.body (postM af.res bs.length R) (args++List.replicate (af.ntmps-args.length) .any) bs):Does P Fe f args bs R:=by
 cases R with
 |
  error e =>
  refine ⟨hcf,?_⟩
  intro w0 pr fz pl w cs hS hl hA
  unfold AgY at hc
  split at hc
  · rename_i ac rz hb hres
    injection hc with hc;subst hc
    rw [Option.bind_eq_some_iff] at hb
    obtain ⟨c,hbody,hcc⟩:=hb
    refine calls_of_wp hf hbody (awX_sound c ac hcc _ _ _ fz pl _ w h (BpY hl hA fn.ntmps) hS (by rw [hS.len];exact Nat.le_refl _) _ ?_ ?_)
    · intro v l' bx' pl' fz' a' w' g1 g0 g2 g7 g8 g5 g3 g4
      exact ⟨g4,v,fz',rfl,g1,g2,g3.drop⟩
    · intro e l' bx' a' w' fz' pl' hq
      exact hq.elim
  · cases hc
 | ok x =>
 obtain ⟨r,bs'⟩:=x
 rw [does_ok]
 refine ⟨hcf,?_⟩
 intro w0 pr fz pl w cs hS hl hA
 unfold AgY at hc
 split at hc
 · rename_i ac rz hb hres
   injection hc with hc;subst hc
   rw [Option.bind_eq_some_iff] at hb
   obtain ⟨c,hbody,hcc⟩:=hb
   refine calls_of_wp hf hbody (awX_sound c ac hcc _ _ _ fz pl _ w h (BpY hl hA fn.ntmps) hS (by rw [hS.len];exact Nat.le_refl _) _ (fun v l' bx' pl' fz' a' w' g1 _ _ _ _ _ _ _=>g1.elim) ?_)
   intro e l' bx' a' w' fz' pl' hq h1 ht hm hT hS' hdf
   have key:(match resV l' bx' rz with
    | some vs=>∃ (zs ix:List Nat),ix.Nodup∧ix.take bs.length=List.range bs.length∧embB bs'.length ix (hol zs bx') ix bs'∧okR bs'.length r=true∧wkN (ren ix r) (tupV vs)
    | none=>False)→a'.defers=[]∧∃ v,(results fn a'.tmps).run P w'=.ok v w'∧∃ cv fz'' pl'',Ending.returned v=.returned cv∧FzLe fz fz''∧pl <+: pl''∧Rep fz'' pl'' r cv∧Sim w0 pr fz'' pl'' bs' w':=by
    intro hq
    split at hq
    · rename_i vs hvs
      obtain ⟨c,r1,r2⟩:=AyQ (P:=P) hT hS' hres hvs
      obtain ⟨zs,ix,i1,i2,i3,i4,i5⟩:=hq
      obtain ⟨pl2,S2,hpre⟩:=hol_sound zs hS'
      have r2:=r2.mono (.refl _) hpre
      have ht:pl2.take bs.length=pl.take bs.length:=by
       obtain ⟨q,rfl⟩:=hpre
       rw [List.take_append_of_le_length hm];exact ht
      have hm:bs.length≤pl2.length:=Nat.le_trans hm hpre.length_le
      clear hS'
      have hS':=S2
      clear S2
      generalize pl2=pl' at *
      obtain ⟨S1,hp⟩:=hS'.embed rfl i3 i1 hS'.prt hS'.dis (fun k x b m' _ hk hpl=>(AtX hS' hk hpl).2.1)
      have htk:(plOf pl' ix).take bs.length=pl:=by
       have e1:(plOf pl' ix).take bs.length=pl'.take bs.length:=by
        apply List.ext_getElem?
        intro j
        rw [List.getElem?_take,List.getElem?_take]
        by_cases hj:j<bs.length
        · rw [if_pos hj,if_pos hj]
          have hix:ix[j]? = some j:=by
           have:(ix.take bs.length)[j]? = (List.range bs.length)[j]?:=by rw [i2]
           rw [List.getElem?_take,if_pos hj] at this
           rw [this];simp [hj]
          exact BhY hix (by omega)
        · rw [if_neg hj,if_neg hj]
       rw [e1,ht,← hS.len,List.take_length]
      refine ⟨hdf,c,r1,c,fz',plOf pl' ix,rfl,h1,?_,ren_bwd hp (Rep.wkN r2 i5) i4,S1⟩
      rw [← htk];exact List.take_prefix _ _
    · exact hq.elim
   cases e with
   | normal=>exact key hq
   | ret=>exact key hq
   | exit i=>exact hq.elim
 · cases hc
theorem call_doesF {mt:FuncId→Nat} {f:FuncId} {fn:Func} {af:AFunc} {Fe:Int→Value→Prop} (hf:P.funcs[f]? = some fn) (hcf:∀ (xs:Array Value) (w:World),(callFunc f xs).run P w=.ok (.enter f xs) w) (hc:AgY P mt fn=some af)
 {args:List AV} {bs:Bx} {R:Except Int (AV × Bx)} (h:awX P (xtOf Fe R) bs.length af.body (postF af.res bs.length R) (args++List.replicate (af.ntmps-args.length) .any) bs):Does P Fe f args bs R:=by
 cases R with
 |
  error e =>
  exact BeX (Fe:=Fe) (R:=.error e) hf hcf hc h
 | ok x =>
 obtain ⟨r,bs'⟩:=x
 rw [does_ok]
 refine ⟨hcf,?_⟩
 intro w0 pr fz pl w cs hS hl hA
 unfold AgY at hc
 split at hc
 · rename_i ac rz hb hres
   injection hc with hc;subst hc
   rw [Option.bind_eq_some_iff] at hb
   obtain ⟨c,hbody,hcc⟩:=hb
   refine calls_of_wp hf hbody (awX_sound c ac hcc _ _ _ fz pl _ w h (BpY hl hA fn.ntmps) hS (by rw [hS.len];exact Nat.le_refl _) _ (fun v l' bx' pl' fz' a' w' g1 _ _ _ _ _ _ _=>g1.elim) ?_)
   intro e l' bx' a' w' fz' pl' hq h1 ht hm hT hS' hdf
   have key:(match resV l' bx' rz with
    | some vs=>∃ ix:List Nat,ix.Nodup∧ix.take bs.length=List.range bs.length∧embB bs'.length ix bx' ix bs'∧wk r (view 8 (AfY ix bx') (tupV vs))
    | none=>False)→a'.defers=[]∧∃ v,(results fn a'.tmps).run P w'=.ok v w'∧∃ cv fz'' pl'',Ending.returned v=.returned cv∧FzLe fz fz''∧pl <+: pl''∧Rep fz'' pl'' r cv∧Sim w0 pr fz'' pl'' bs' w':=by
    intro hq
    split at hq
    · rename_i vs hvs
      obtain ⟨c,r1,r2⟩:=AyQ (P:=P) hT hS' hres hvs
      obtain ⟨ix,i1,i2,i3,i5⟩:=hq
      obtain ⟨S1,hp⟩:=hS'.embed rfl i3 i1 hS'.prt hS'.dis (fun k x b m' _ hk hpl=>(AtX hS' hk hpl).2.1)
      have htk:(plOf pl' ix).take bs.length=pl:=by
       have e1:(plOf pl' ix).take bs.length=pl'.take bs.length:=by
        apply List.ext_getElem?
        intro j
        rw [List.getElem?_take,List.getElem?_take]
        by_cases hj:j<bs.length
        · rw [if_pos hj,if_pos hj]
          have hix:ix[j]? = some j:=by
           have:(ix.take bs.length)[j]? = (List.range bs.length)[j]?:=by rw [i2]
           rw [List.getElem?_take,if_pos hj] at this
           rw [this];simp [hj]
          exact BhY hix (by omega)
        · rw [if_neg hj,if_neg hj]
       rw [e1,ht,← hS.len,List.take_length]
      obtain ⟨S2,le⟩:=S1.frzAll
      have hv:=view_sound (hS'.kills ix) le (fun k x b n hk hpl=>by
       obtain ⟨hk1,hk2⟩:=killL_get hk
       unfold frzAll
       rw [if_neg]
       · simp only [(AtX hS' hk1 hpl).2.1]
       · rintro ⟨j,y,n',hj,hpj⟩
         obtain ⟨e1,e2,e3⟩:=embB_get i3
         obtain ⟨k',xs,a1,a2,a3,a4⟩:=e3 j y.1 y.2 hj
         have hq:=BhY (pl:=pl') a1 (by rw [hS'.len];exact e2 j k' a1)
         rw [hq] at hpj
         have:=hS'.inj k k' x _ b n n' hk1 a2 hpl hpj
         subst this
         exact hk2 (List.mem_of_getElem? a1)) 8 (tupV vs) c r2
      refine ⟨hdf,c,r1,c,_,plOf pl' ix,rfl,h1.trans le,?_,Rep.wk _ _ _ (.frz hv) i5,S2⟩
      rw [← htk];exact List.take_prefix _ _
    · exact hq.elim
   cases e with
   | normal=>exact key hq
   | ret=>exact key hq
   | exit i=>exact hq.elim
 · cases hc
theorem thr_ruleB {Y:Xt} {fid:FuncId} {args' xs:List AV} {l:List AV} {bx bs:Bx} (ix:List Nat) (hc:Thr P fid args' bs Y.Φ) (hn:ix.Nodup) (hE:embB bs.length ix bx ix bs)
 (ho:args'.all (okR bs.length)=true) (hw:wkL (args'.map (ren ix)) xs) (hX:Y.X l (killT ix bx)):ThrC P Y (.fb (.func fid) xs) [] l bx :=
 ⟨fid,xs,ix,args',bs,.inr ⟨rfl,rfl⟩,hc,hE,hn,ho,hw,hX⟩
theorem callM_ruleB {fid:FuncId} {args' xs:List AV} {K:AV→Bx→Prop} {bx bs bs':Bx} {r:AV} (ix:List Nat) (hc:Ctr P fid args' bs r bs') (hn:ix.Nodup) (hE:embB bs.length ix bx ix bs)
 (ho:args'.all (okR bs.length)=true) (hw:wkL (args'.map (ren ix)) xs) (h1:okR bs'.length r=true) (h2:okBx bs'.length bs'=true)
 (h:K (ren (ix++BiX bx.length (bs'.length-bs.length)) r) (mergeB (ix++BiX bx.length (bs'.length-bs.length)) (ix++BiX bx.length (bs'.length-bs.length)) bs' bx)):CallMK P (.fb (.func fid) xs) [] K bx :=
 ⟨_,_,⟨fid,xs,ix,args',bs,r,bs',.inr ⟨rfl,rfl⟩,hc,hE,hn,ho,hw,h1,h2,rfl,rfl⟩,h⟩
end
end Go.Proofs.YtcmphhedaefcgaaGreatDoor.Av
namespace Go.Proofs.YtcmphhedaefcgaaGreatDoor.Av
open Classical
section
variable {w0:World} {pr fz:Fz} {pl pls:Pl} {bx bs:Bx} {w:World} {P:Program} {Y:Xt}
theorem take_get {α:Type} {az:List α} {i0 i:Nat} {p:α} (h:(az.take i0)[i]? = some p):i<i0∧az[i]? = some p:=by
 rw [List.getElem?_take] at h
 split at h
 · exact ⟨by assumption,h⟩
 · cases h
theorem draw_thr {mt:FuncId→Nat} {ops:Array Oper} {az:List AOper} {id:Nat} (hm:P.follows .mixedOrders=true) (hz:BhQ P mt ops ops.toList=some az) (hup:edgesUp 0 ops.toList=true) (hpair:pairsOk (ancTab ops.toList []) (BaQ 0 az)=true)
 (i0:Nat) (p0:AOper) (hp0:az[i0]? = some p0) (hg0:p0.guard=none) (hc0:cls p0.op=2) (hlow:∀ p∈az.take i0,cls p.op=0∨cls p.op=1) (hback:∀ j,i0<j→j<ops.size→i0∈(ancTab ops.toList []).getD j [])
 (hX:∀ l1 l2 bx,(∀ t,(∀ p∈az.take i0,t ∉ AtY p)→getT l1 t=getT l2 t)→Y.X l1 bx→Y.X l2 bx)
 {l:List AV} {a:Act} (hK:AbX P (az.take i0) (fun l bx=>thrHere P Y p0 l bx) l bx) (hT:RepT fz pl l a) (hS:Sim w0 pr fz pl bx w) {Q:Exit→Act→World→Prop}
 (hQ:∀ v l' bx' pl' fz' a' w',Y.Φ v→Y.X l' bx'→FzLe fz fz'→pl <+: pl'→RepT fz' pl' l' a'→Sim w0 pr fz' pl' bx' w'→a'.defers=a.defers→Q (.panic [{ v:=v,recovered:=false }]) a' w'):(Code.region id ops true).wp P Q a w:=by
 obtain ⟨hal,hget⟩:=cOpers_get hz
 have hlen:ops.toList.length=ops.size:=Array.length_toList
 have hi0:i0<ops.size:=by have:=(List.getElem?_eq_some_iff.1 hp0).1;omega
 have hl0:(az.take i0).length=i0:=by rw [List.length_take];omega
 obtain ⟨c,c0,c1,c2⟩:=awpOpers_chain (az.take i0) l bx (fun p hp=>by rcases hlow p hp with h | h <;> omega) hK
 rw [hl0] at c2
 have C:Chain P (az.take i0) c:=⟨c1,fun p hp=>by rcases hlow p hp with h | h <;> omega⟩
 have noW:∀ p∈az.take i0,¬ isW p:=by
  intro p hp hw
  rcases hlow p hp with h | h <;> rcases hw with hw | hw <;> omega
 have S:Same (az.take i0) (ancTab ops.toList []) c:=by
  intro i j p y hij hp hy hl
  unfold late at hl
  simp only [Bool.and_eq_true,beq_iff_eq] at hl
  rcases hlow y (List.mem_of_getElem? hy) with h | h <;> omega
 have boxes:∀ k,k≤i0→(c k).2=bx:=by
  intro k hk
  have:=C.bx k 0 (by rw [hl0];omega) (fun i p _ _ hp=>noW p (List.mem_of_getElem? hp))
  rw [Nat.zero_add,c0] at this;exact this
 have getDlt:∀ (listed:Array Bool) (j:Nat),j<listed.size→listed.getD j true=listed.getD j false:=by
  intro listed j h
  simp [h]
 have done:∀ (listed:Array Bool),listed.size=ops.size→Region.ready .any ops listed=[]→∀ j,j<ops.size→listed.getD j false=true:=by
  intro listed hs hr j
  induction j using Nat.strongRecOn with
  |
   _ j ih =>
   intro hj
   cases hc:listed.getD j false with
   | true=>rfl
   |
    false =>
    exfalso
    have hin:j∈Region.ready .any ops listed:=by
     rw [mem_ready]
     refine ⟨by rw [getDlt listed j (by omega)];exact hc,ops[j],Array.getElem?_eq_getElem hj,?_⟩
     intro e he hb
     have hmem:e.on∈BkX ops[j]:=List.mem_map.2 ⟨e,List.mem_filter.2 ⟨by simpa using he,hb⟩,rfl⟩
     have:=edgesUp_get hup j ops[j] (by simp [hj]) e.on hmem
     exact ih e.on (by omega) (by omega)
    rw [hr] at hin;cases hin
 have ord:∀ (listed:Array Bool),listed.size=ops.size→(∀ (i:Nat) o,ops.toList[i]? = some o→listed.getD i false=true→∀ e∈BkX o,listed.getD e false=true) →
  ∀ (i:Nat) o,ops.toList[i]? = some o→(∀ e∈BkX o,listed.getD e false=true)→Ord (az.take i0) (ancTab ops.toList []) (fun i=>listed.getD i false=true) i:=by
  intro listed hs hcl i o ho hed
  refine ⟨?_,?_,?_⟩
  · intro j p q hj hp hq hm
    obtain ⟨_,hp⟩:=take_get hp
    obtain ⟨_,hq⟩:=take_get hq
    have:=pairsOk_get hpair j i _ _ hj (AmZ j p hp) (AmZ i q hq) hm
    simp only [Nat.zero_add] at this
    exact AzZ hup hcl ops.toList [] rfl (fun _ _ h=>by simp at h) i o ho hed j this
  · intro j p q hj hp hq hm hD
    obtain ⟨_,hp⟩:=take_get hp
    obtain ⟨_,hq⟩:=take_get hq
    have:=pairsOk_get hpair i j _ _ hj (AmZ i p hp) (AmZ j q hq) hm
    simp only [Nat.zero_add] at this
    have hjl:j<ops.size:=by have:=(List.getElem?_eq_some_iff.1 hq).1;omega
    have hoj:ops.toList[j]? = some ops[j]:=by simp [hjl]
    exact AzZ hup hcl ops.toList [] rfl (fun _ _ h=>by simp at h) j ops[j] hoj (hcl j _ hoj hD) i this
  · intro j q hj hq hm hD
    obtain ⟨_,hq⟩:=take_get hq
    have hjl:j<ops.size:=by have:=(List.getElem?_eq_some_iff.1 hq).1;omega
    have hoj:ops.toList[j]? = some ops[j]:=by simp [hjl]
    exact AzZ hup hcl ops.toList [] rfl (fun _ _ h=>by simp at h) j ops[j] hoj (hcl j _ hoj hD) i hm
 have main:∀ (fuel:Nat) (listed:Array Bool) (l1:List AV) (bx1:Bx) (fz1:Fz) (pl1:Pl) (a1:Act) (w1:World),listed.size=ops.size→(∃ U:List Nat,U.Nodup∧U.length≤fuel∧∀ j,j<ops.size→listed.getD j false=false→j∈U) →
  (∀ (i:Nat) o,ops.toList[i]? = some o→listed.getD i false=true→∀ e∈BkX o,listed.getD e false=true)→listed.getD i0 false=false →
  Inv (az.take i0) c (fun i=>listed.getD i false=true) l1 bx1→FzLe fz fz1→pl <+: pl1→RepT fz1 pl1 l1 a1→Sim w0 pr fz1 pl1 bx1 w1→a1.defers=a.defers→wpAny P .any ops Q fuel listed a1 w1:=by
  intro fuel
  induction fuel with
  |
   zero =>
   intro listed l1 bx1 fz1 pl1 a1 w1 hs hU hcl hn0 I h1 h2 hT hS hd
   exfalso
   obtain ⟨U,_,hul,hU⟩:=hU
   have:U=[]:=List.eq_nil_of_length_eq_zero (by omega)
   subst this
   have:=hU i0 hi0 hn0
   cases this
  |
   succ fuel ih =>
   intro listed l1 bx1 fz1 pl1 a1 w1 hs hU hcl hn0 I h1 h2 hT hS hd
   refine ⟨fun hr=>?_,?_⟩
   · exfalso
     have:=done listed hs hr i0 hi0
     rw [hn0] at this;cases this
   intro i hi
   rw [mem_ready] at hi
   obtain ⟨q1,o,q2,q3⟩:=hi
   have hil:=(Array.getElem?_eq_some_iff.1 q2).1
   have ho:ops.toList[i]? = some o:=by simpa using q2
   have hnD:¬ (listed.getD i false=true):=by rw [← getDlt listed i (by omega),q1];simp
   have hed:∀ e∈BkX o,listed.getD e false=true:=by
    intro e he
    obtain ⟨e',h3,rfl⟩:=List.mem_map.1 he
    obtain ⟨h4,h5⟩:=List.mem_filter.1 h3
    exact q3 e' (by simpa using h4) h5
   have anc:∀ x∈(ancTab ops.toList []).getD i [],listed.getD x false=true:=AzZ hup hcl ops.toList [] rfl (fun _ _ h=>by simp at h) i o ho hed
   by_cases hgt:i0<i
   · exfalso
     have:=anc i0 (hback i hgt hil)
     rw [hn0] at this;cases this
   obtain ⟨p,hp,hcp⟩:=hget i o ho
   by_cases hie:i=i0
   · -- the call that throws
     subst hie
     rw [hp0] at hp;injection hp with hp;subst hp
     have hbx1:bx1=(c i).2:=by
      obtain ⟨k,hk,e,_,_⟩:=I.bx
      rw [hl0] at hk
      rw [e,boxes k hk,boxes i (Nat.le_refl _)]
     have hsame:∀ t∈BuX p0,getT l1 t=getT (c i).1 t:=by
      intro t ht
      obtain ⟨k,hk,e,k1,k2⟩:=I.tmp t
      rw [hl0] at hk
      rw [e]
      have:=C.tmp (x:=t) (i-k) k (by rw [hl0];omega) (fun j q h1 h2 hq hw=>k2 j q h1 hq hw (by
       obtain ⟨hj,hq'⟩:=take_get hq
       have:=pairsOk_get hpair j i _ _ hj (AmZ j q hq') (AmZ i p0 hp0) (meet_wl hw ht)
       simp only [Nat.zero_add] at this
       exact anc j this))
      rw [show k+(i-k)=i by omega] at this;exact this.symm
     have hsameX:∀ t,(∀ p∈az.take i,t ∉ AtY p)→getT (c i).1 t=getT l1 t:=by
      intro t ht
      obtain ⟨k,hk,e,_,_⟩:=I.tmp t
      rw [hl0] at hk
      rw [e]
      have:=C.tmp (x:=t) (i-k) k (by rw [hl0];omega) (fun j q h1 h2 hq hw=>ht q (List.mem_of_getElem? hq) hw)
      rw [show k+(i-k)=i by omega] at this;exact this
     unfold cOper at hcp
     generalize hpop:(cOp P mt o).getD .bad=pop at hcp
     split at hcp
     · rename_i g hg
       injection hcp with hcp;subst hcp
       simp only at hg0;subst hg0
       have hopeq:pop.map (·.ev l1)=pop.map (·.ev (c i).1):=op_congr fun t ht=>hsame t (by unfold BuX;exact List.mem_append.2 (.inl ht))
       have hth:thrHere P Y ⟨o.dst,pop,none⟩ l1 bx1:=by
        have h3:=c2
        unfold thrHere at h3 ⊢
        simp only at h3 ⊢
        rw [hopeq,hbx1]
        revert h3
        cases pop.map (·.ev (c i).1) <;> first
         | (intro h;exact False.elim h)
         | (rintro ⟨fid,xs,ix,args',bs,g1,g2,g3,g4,g5,g6,g7⟩;exact ⟨fid,xs,ix,args',bs,g1,g2,g3,g4,g5,g6,hX _ _ _ hsameX g7⟩)
       simp only [wpOp,q2]
       rw [if_pos (guard_none hg a1)]
       exact .inl (here_sound hpop hT hS hth (fun v bx' fz' w' g1 g0 g2 g5 g3=>hQ v l1 bx' pl1 fz' a1 w' g1 g0 (h1.trans g2) h2 g5 g3 hd))
     · cases hcp
   have hlt:i<i0:=by omega
   have hp:(az.take i0)[i]? = some p:=by rw [List.getElem?_take,if_pos hlt];exact hp
   have O:=ord listed hs hcl i o ho hed
   have hstep:=C.step i p hp
   have hsame:∀ t∈BuX p,getT l1 t=getT (c i).1 t:=fun t ht=>I.same_tmp C hp hnD O ht
   have hD':∀ j,j<(az.take i0).length→((fun j=>listed.getD j false=true∨j=i) j↔(listed.setIfInBounds i true).getD j false=true):=by
    intro j hj
    simp only
    by_cases hji:j=i
    · subst hji;simp [hs,hil]
    · rw [getD_set_ne false (Ne.symm hji)];simp [hji]
   have next:∀ (l':List AV) (bx':Bx) (fz':Fz) (pl':Pl) (a':Act) (w':World),Inv (az.take i0) c (fun j=>listed.getD j false=true∨j=i) l' bx'→FzLe fz fz'→pl <+: pl'→RepT fz' pl' l' a'→Sim w0 pr fz' pl' bx' w'→a'.defers=a.defers →
    wpAny P .any ops Q fuel (listed.setIfInBounds i true) a' w':=by
    intro l' bx' fz' pl' a' w' I' g1 g2 g3 g4 g5
    refine ih _ l' bx' fz' pl' a' w' (by simp [hs]) ?_ ?_ (by rw [getD_set_ne false (by omega)];exact hn0) (I'.congr hD') g1 g2 g3 g4 g5
    · obtain ⟨U,u1,u2,u3⟩:=hU
      have hiU:=u3 i hil (by cases h:listed.getD i false;rfl;exact absurd h hnD)
      refine ⟨U.erase i,u1.erase i,by rw [List.length_erase_of_mem hiU];omega,?_⟩
      intro j hj hf
      have hji:j≠i:=by rintro rfl;simp [hs,hil] at hf
      rw [getD_set_ne false (Ne.symm hji)] at hf
      exact (List.mem_erase_of_ne hji).2 (u3 j hj hf)
    · intro j oj hj hD e he
      by_cases hji:j=i
      · subst hji
        rw [ho] at hj;injection hj with hj;subst hj
        exact getD_set_true (hed e he)
      · rw [getD_set_ne false (Ne.symm hji)] at hD
        exact getD_set_true (hcl j oj hj hD e he)
   unfold cOper at hcp
   generalize hpop:(cOp P mt o).getD .bad=pop at hcp
   split at hcp
   · rename_i g hg
     injection hcp with hcp;subst hcp
     have hdst:(⟨o.dst,pop,g⟩:AOper).dst=o.dst:=rfl
     have hopeq:pop.map (·.ev l1)=pop.map (·.ev (c i).1):=op_congr fun t ht=>hsame t (by unfold BuX;exact List.mem_append.2 (.inl ht))
     simp only [wpOp,q2]
     have doit:∀ v,OpC P (pop.map (·.ev (c i).1)) (c i).2 v (c (i+1)).2→(c (i+1)).1=putT (c i).1 o.dst v→o.wp P a1 w1 (wpAny P .any ops Q fuel (listed.setIfInBounds i true)) Q:=by
      intro v hop hv
      obtain ⟨k0,k1,k4,k3⟩:=opC_cls hop
      rw [cls_map] at k0 k1 k4 k3
      have hC:∃ bx',OpC P (pop.map (·.ev l1)) bx1 v bx'∧(isW ⟨o.dst,pop,g⟩→bx'=(c (i+1)).2)∧(¬ isW ⟨o.dst,pop,g⟩→bx'=bx1):=by
       rw [hopeq]
       rcases cls_cases pop with h | h | h | h | h | h | h
       · exact ⟨bx1,(k0 h).2 bx1,fun hw=>by rcases hw with hw | hw <;> (simp only at hw;omega),fun _=>rfl⟩
       · refine ⟨bx1,?_,fun hw=>by rcases hw with hw | hw <;> (simp only at hw;omega),fun _=>rfl⟩
         cases pop <;> simp [cls] at h
         rename_i b' n' x' _
         obtain ⟨y,hy⟩:=cOp_loadB hpop
         have e0:=hopeq
         simp only [AOp.map,AOp.load.injEq,true_and] at e0
         have h3:=hop.1
         simp only [AOp.map] at h3 ⊢
         rcases I.more_bx C S hp hnD O (a:=b') (n:=n') (x:=x') rfl h3 with hm | hm
         · exact ⟨hm,rfl⟩
         · rw [← e0] at h3 ⊢
           exact ⟨load_down hm hS.len (AgQ hT hy) h3,rfl⟩
       · exact ⟨(c (i+1)).2,by rw [I.same_bx C hp hnD O (.inl h)];exact hop,fun _=>rfl,fun hw=>absurd (.inl h) hw⟩
       · exact ⟨(c (i+1)).2,by rw [I.same_bx C hp hnD O (.inr (.inl h))];exact hop,fun _=>rfl,fun hw=>absurd (.inr h) hw⟩
       · have hb:=I.same_bx C hp hnD O (.inr (.inr h))
         exact ⟨(c (i+1)).2,by rw [hb];exact hop,fun _=>rfl,fun _=>by rw [k4 h,hb]⟩
       · exact absurd h (C.nine _ (List.mem_of_getElem? hp))
       · refine ⟨bx1,?_,fun hw=>by rcases hw with hw | hw <;> (simp only at hw;omega),fun _=>rfl⟩
         obtain ⟨tk,ok,z,x',k',e5⟩:=cls5 h
         subst e5
         obtain ⟨y,hy⟩:=cOp_mget hpop
         have e0:=hopeq
         simp only [AOp.map,AOp.mgetv.injEq,true_and] at e0
         have h3:=hop.1
         simp only [AOp.map] at h3 ⊢
         refine ⟨?_,rfl⟩
         rcases I.map_bx C hp hnD O h with hm | hm
         · rw [← e0.1] at h3 ⊢
           exact evMap_down hm hS.len (AgQ hT hy) h3
         · exact evMap_up hm h3
      obtain ⟨bx',r1,r2,r3⟩:=hC
      refine opC_soundB hpop hT hS r1 ?_
      intro cv w' fz' pl' g1 g2 g3 g4
      exact next (putT l1 o.dst v) bx' fz' pl' _ w' (I.put C hp hnD O hv r2 r3) (h1.trans g1) (h2.trans g2) ((hT.mono g1 g2).put o.dst g3) g4 (by rw [AkY];exact hd)
     have skip:(c (i+1))=(putT (c i).1 o.dst (.tuple []),(c i).2)→wpAny P .any ops Q fuel (listed.setIfInBounds i true) (a1.put o.dst undef) w1:=by
      intro hc
      refine next (putT l1 o.dst (.tuple [])) bx1 fz1 pl1 _ w1 (I.put C hp hnD O (by rw [hc]) ?_ (fun _=>rfl)) h1 h2 (hT.put o.dst rep_undef) hS (by rw [AkY];exact hd)
      intro hw
      rw [hc,I.same_bx C hp hnD O hw.three]
     rcases hstep with ⟨v,hgd,hop,hv⟩ | ⟨gt,want,hgd,hor,hc⟩
     · have hw:Region.wanted o (yielded ops a1.tmps)=true:=by
        cases g with
        | none=>exact guard_none hg a1
        |
         some gg =>
         obtain ⟨gt,want⟩:=gg
         obtain ⟨y1,_⟩:=BjY hg hT
         have:=hsame gt (by unfold BuX;simp)
         simp only at hgd
         rw [hgd] at this
         rw [y1 want this];simp
       rw [if_pos hw]
       exact .inl (doit v hop hv)
     · simp only at hgd
       subst hgd
       obtain ⟨y1,y2⟩:=BjY hg hT
       have hs':=hsame gt (by unfold BuX;simp)
       have hw:Region.wanted o (yielded ops a1.tmps)=false:=by
        rcases hor with h | h
        · rw [h] at hs';rw [y1 _ hs'];cases want <;> rfl
        · rw [h] at hs';exact y2 hs'
       rw [if_neg (by rw [hw];simp)]
       exact skip hc
   · cases hcp
 have hrep:∀ j,(Array.replicate ops.size false).getD j false=false:=by
  intro j
  simp only [Array.getD_eq_getD_getElem?,Array.getElem?_replicate]
  split <;> rfl
 refine wp_region_any hm (main ops.size _ l bx fz pl a _ (by simp) ⟨List.range ops.size,List.nodup_range,by simp,fun j hj _=>List.mem_range.2 hj⟩ ?_ (hrep i0) ?_ (.refl _) (List.prefix_refl _) hT hS.drew rfl)
 · intro i o _ hD
   rw [hrep] at hD;cases hD
 · refine ⟨by rw [c0],?_,?_⟩
   · intro t
     exact ⟨0,by omega,by rw [c0],fun i p h=>by omega,fun i p _ _ _ hD=>by rw [hrep] at hD;cases hD⟩
   · exact ⟨0,by omega,by rw [c0],fun i p h=>by omega,fun i p _ _ _ hD=>by rw [hrep] at hD;cases hD⟩
end
end Go.Proofs.YtcmphhedaefcgaaGreatDoor.Av
end
section
namespace Go.Proofs.YtcmphhedaefcgaaGreatDoor
open Av
attribute [local irreducible] awp AbX
theorem Sim_cells {w0 w w':World} {pr fz:Fz} {pl:Pl} {bx:Bx} {k sz b n:Nat} {es es':List AV} {arr arr':Array Value} {e e':TypeId} (hS:Sim w0 pr fz pl bx w) (hk:AeZ bx k=some (sz,es)) (B:BoxAt pr fz pl w k sz es b n arr e)
 (h1:w'.os=w.os) (h2:w'.tape=w.tape) (h3:w'.output=w.output) (h4:w.heap.size≤w'.heap.size) (h5:∀ c,c<w.heap.size→c≠b→w'.heap[c]? = w.heap[c]?) (h6:w'.heap[b]? = some (.cells arr' e' (0,0))) (h7:arr'.size=n)
 (he:∀ x∈es',x.cells.length=sz) (hf:es'.length * sz≤n)
 (hr:∀ (i:Nat) v c,(es'.flatMap AV.cells)[i]? = some v→arr'[i]? = some c→c.oneCell'=true∧Rep fz pl v c) :
 Sim w0 pr fz pl (ArZ bx k (some (sz,es'))) w':=by
 have lt:∀ c x,w.heap[c]? = some x→c<w.heap.size:=fun c x e=>(Array.getElem?_eq_some_iff.1 e).1
 have oth:∀ {c:Nat} {o},c≠b→w.heap[c]? = some o→w'.heap[c]? = some o:=fun hne ho=>by rw [h5 _ (lt _ _ ho) hne];exact ho
 have nb:∀ {g:Fz} {c o},g b=none→g c=some o→c≠b:=fun hn hg e=>by rw [e,hn] at hg;cases hg
 refine ⟨hS.lay,h1.trans hS.os,h2.trans hS.tape,h3.trans hS.output,Nat.le_trans hS.size h4,fun c o a=>oth (nb B.nfz a) (hS.frz _ _ a),fun c o a=>oth (nb B.npr a) (hS.prt _ _ a),hS.dis,by rw [AmQ];exact hS.len,?_,?_⟩
 · intro j s xs hj
   by_cases hkj:k=j
   · subst hkj
     rw [AjZ (AoY hk)] at hj
     injection hj with hj;injection hj with e1 e2;subst e1;subst e2
     exact .inr ⟨b,n,arr',e',⟨B.plc,B.nfz,B.npr,h6,h7,he,by rw [AeX he];exact hf,fun i v c a d=>(hr i v c a d).1,fun i v c a d=>(hr i v c a d).2⟩⟩
   · rw [AiX hkj] at hj
     rcases hS.box j s xs hj with (h2 | ⟨b',o',M'⟩) | ⟨b',n',ar,e',B'⟩
     · exact .inl (.inl h2)
     · refine .inl (.inr ⟨b',o',{ M' with heap:=oth ?_ M'.heap }⟩)
       intro hbb;subst hbb
       exact hkj (hS.inj k j _ _ b' n 0 hk hj B.plc M'.plc)
     · refine .inr ⟨b',n',ar,e',{ B' with heap:=oth ?_ B'.heap }⟩
       intro hbb;subst hbb
       exact hkj (hS.inj k j _ _ b' n n' hk hj B.plc B'.plc)
 · intro j j' x y b1 n1 n2 hj hj' p1 p2
   have key:∀ {i z},AeZ (ArZ bx k (some (sz,es'))) i=some z→∃ z',AeZ bx i=some z':=by
    intro i z hi
    by_cases hki:k=i
    · subst hki;exact ⟨_,hk⟩
    · rw [AiX hki] at hi;exact ⟨_,hi⟩
   obtain ⟨_,k1⟩:=key hj
   obtain ⟨_,k2⟩:=key hj'
   exact hS.inj j j' _ _ b1 n1 n2 k1 k2 p1 p2
theorem cells_rg (l:List Rg) (j:Nat) (r:Rg) (h:l[j]? = some r):((l.map eRg).flatMap AV.cells)[2 * j]? = some (.int .i64 r.1)∧((l.map eRg).flatMap AV.cells)[2 * j+1]? = some (.int .i64 r.2):=by
 have hz:∀ x∈l.map eRg,x.cells.length=2:=by
  intro x hx
  obtain ⟨r,_,rfl⟩:=List.mem_map.1 hx
  rfl
 have hj:(l.map eRg)[j]? = some (eRg r):=by rw [List.getElem?_map,h];rfl
 exact ⟨by have:=flat_get hz hj (t:=0) (v:=.int .i64 r.1) rfl;rwa [Nat.mul_comm,Nat.add_zero] at this,by have:=flat_get hz hj (t:=1) (v:=.int .i64 r.2) rfl;rwa [Nat.mul_comm] at this⟩
theorem len_rg (l:List Rg):∀ x∈l.map eRg,x.cells.length=2:=by
 intro x hx
 obtain ⟨r,_,rfl⟩:=List.mem_map.1 hx
 rfl
theorem box_rg {w:World} {pr fz:Fz} {pl:Pl} {k b n:Nat} {l:List Rg} {arr:Array Value} {e:TypeId} (B:BoxAt pr fz pl w k 2 (l.map eRg) b n arr e) {j:Nat} {r:Rg} (h:l[j]? = some r) :
 arr[2 * j]? = some (.int .i64 r.1)∧arr[2 * j+1]? = some (.int .i64 r.2):=by
 have hl:=(List.getElem?_eq_some_iff.1 h).1
 have hf:=B.fits
 rw [AeX B.elem,List.length_map] at hf
 have hs:=B.size
 obtain ⟨c1,c2⟩:=cells_rg l j r h
 have a1:arr[2 * j]? = some arr[2 * j]:=Array.getElem?_eq_getElem (by omega)
 have a2:arr[2 * j+1]? = some arr[2 * j+1]:=Array.getElem?_eq_getElem (by omega)
 have r1:=(B.rep _ _ _ c1 a1).inv_int
 have r2:=(B.rep _ _ _ c2 a2).inv_int
 exact ⟨by rw [a1,r1],by rw [a2,r2]⟩
theorem rep_rg {fz:Fz} {pl:Pl} {l:List Rg} {arr:Array Value} (h:∀ (j:Nat) r,l[j]? = some r→arr[2 * j]? = some (.int .i64 r.1)∧arr[2 * j+1]? = some (.int .i64 r.2)) :
 ∀ (i:Nat) v c,((l.map eRg).flatMap AV.cells)[i]? = some v→arr[i]? = some c→c.oneCell'=true∧Rep fz pl v c:=by
 intro i v c hv hc
 obtain ⟨e,g1,g2⟩:=BcQ (len_rg l) hv (by omega)
 rw [List.getElem?_map] at g1
 cases hl:l[i / 2]? with
 | none=>rw [hl] at g1;cases g1
 |
  some r =>
  rw [hl] at g1
  injection g1 with g1;subst g1
  obtain ⟨a1,a2⟩:=h _ _ hl
  rcases Nat.mod_two_eq_zero_or_one i with h2 | h2
  · rw [h2] at g2
    injection g2 with g2;subst g2
    rw [show 2 * (i / 2)=i by omega,hc] at a1
    injection a1 with a1;subst a1
    exact ⟨rfl,.frz (.int _ _)⟩
  · rw [h2] at g2
    injection g2 with g2;subst g2
    rw [show 2 * (i / 2)+1=i by omega,hc] at a2
    injection a2 with a2;subst a2
    exact ⟨rfl,.frz (.int _ _)⟩
end Go.Proofs.YtcmphhedaefcgaaGreatDoor
end
section
namespace Go.Proofs
open Go.Shelf
def Tryz.sortIv_ren:Go.Shelf.Ren:=⟨fun | 6=>98 | 15=>125 | 14=>124 | 28=>143 | 29=>144 | 20=>135 | 21=>136 | 22=>137 | 23=>138 | 24=>139 | 25=>140 | 26=>141 | 27=>142 | 46=>149 | 47=>150 | 48=>151 | 49=>152 | 50=>153 | 57=>159 | n=>n,fun | 22=>58 | 24=>123 | 25=>158 | 3=>3 | 39=>146 | 0=>0 | 53=>183 | 55=>143 | 4=>4 | 46=>197 | 45=>196 | 50=>181 | 5=>5 | 9=>9 | 66=>207 | 70=>211 | 76=>217 | 77=>218 | n=>n,fun | n=>n⟩
theorem Tryz.sortIv:Go.Proofs.SlLaysF0.n6 Tryz.prog Tryz.sortIv_ren:={
 mixed:=by kernel_rfl
 f6:=⟨Tryz.f98.name,by decide,Tryz.func98.trans (congrArg some (by kernel_rfl))⟩
 f14:=⟨Tryz.f124.name,by decide,Tryz.func124.trans (congrArg some (by kernel_rfl))⟩
 f15:=Tryz.func125.trans (congrArg some (by kernel_rfl))
 f20:=⟨Tryz.f135.name,by decide,Tryz.func135.trans (congrArg some (by kernel_rfl))⟩
 f21:=⟨Tryz.f136.name,by decide,Tryz.func136.trans (congrArg some (by kernel_rfl))⟩
 f22:=⟨Tryz.f137.name,by decide,Tryz.func137.trans (congrArg some (by kernel_rfl))⟩
 f23:=⟨Tryz.f138.name,by decide,Tryz.func138.trans (congrArg some (by kernel_rfl))⟩
 f24:=⟨Tryz.f139.name,by decide,Tryz.func139.trans (congrArg some (by kernel_rfl))⟩
 f25:=⟨Tryz.f140.name,by decide,Tryz.func140.trans (congrArg some (by kernel_rfl))⟩
 f26:=⟨Tryz.f141.name,by decide,Tryz.func141.trans (congrArg some (by kernel_rfl))⟩
 f27:=⟨Tryz.f142.name,by decide,Tryz.func142.trans (congrArg some (by kernel_rfl))⟩
 f28:=Tryz.func143.trans (congrArg some (by kernel_rfl))
 f29:=Tryz.func144.trans (congrArg some (by kernel_rfl))
 f46:=⟨Tryz.f149.name,by decide,Tryz.func149.trans (congrArg some (by kernel_rfl))⟩
 f47:=Tryz.func150.trans (congrArg some (by kernel_rfl))
 f48:=Tryz.func151.trans (congrArg some (by kernel_rfl))
 f49:=⟨Tryz.f152.name,by decide,Tryz.func152.trans (congrArg some (by kernel_rfl))⟩
 f50:=⟨Tryz.f153.name,by decide,Tryz.func153.trans (congrArg some (by kernel_rfl))⟩
 f57:=⟨Tryz.f159.name,by decide,Tryz.func159.trans (congrArg some (by kernel_rfl))⟩
 t0:=Tryz.underlying0
 a0:=Tryz.isAgg0
 z0:=Tryz.sizeOf0
 v0:=Tryz.zeroValue0
 t3:=Tryz.underlying3
 a3:=Tryz.isAgg3
 z3:=Tryz.sizeOf3
 v3:=Tryz.zeroValue3
 t4:=Tryz.underlying4
 a4:=Tryz.isAgg4
 z4:=Tryz.sizeOf4
 v4:=Tryz.zeroValue4
 t5:=Tryz.underlying5
 a5:=Tryz.isAgg5
 z5:=Tryz.sizeOf5
 v5:=Tryz.zeroValue5
 t9:=Tryz.underlying9
 a9:=Tryz.isAgg9
 z9:=Tryz.sizeOf9
 v9:=Tryz.zeroValue9
 t22:=Tryz.underlying58
 a22:=Tryz.isAgg58
 z22:=Tryz.sizeOf58
 v22:=Tryz.zeroValue58
 t25:=Tryz.underlying158
 a25:=Tryz.isAgg158
 z25:=Tryz.sizeOf158
 v25:=Tryz.zeroValue158
 t39:=Tryz.underlying146
 a39:=Tryz.isAgg146
 z39:=Tryz.sizeOf146
 v39:=Tryz.zeroValue146
 t45:=Tryz.underlying196
 a45:=Tryz.isAgg196
 z45:=Tryz.sizeOf196
 v45:=Tryz.zeroValue196
 t46:=Tryz.underlying197
 a46:=Tryz.isAgg197
 z46:=Tryz.sizeOf197
 v46:=Tryz.zeroValue197
 t50:=Tryz.underlying181
 a50:=Tryz.isAgg181
 z50:=Tryz.sizeOf181
 v50:=Tryz.zeroValue181
 t53:=Tryz.underlying183
 a53:=Tryz.isAgg183
 z53:=Tryz.sizeOf183
 v53:=Tryz.zeroValue183
 t55:=Tryz.underlying143
 a55:=Tryz.isAgg143
 z55:=Tryz.sizeOf143
 v55:=Tryz.zeroValue143
 t66:=Tryz.underlying207
 a66:=Tryz.isAgg207
 z66:=Tryz.sizeOf207
 v66:=Tryz.zeroValue207
 t70:=Tryz.underlying211
 a70:=Tryz.isAgg211
 z70:=Tryz.sizeOf211
 v70:=Tryz.zeroValue211
 t76:=Tryz.underlying217
 a76:=Tryz.isAgg217
 z76:=Tryz.sizeOf217
 v76:=Tryz.zeroValue217
 t77:=Tryz.underlying218
 a77:=Tryz.isAgg218
 z77:=Tryz.sizeOf218
 v77:=Tryz.zeroValue218 }
end Go.Proofs
end
section
namespace Go.Proofs.YtcmphhedaefcgaaGreatDoor
open Av Go.RowKit Go.Shelf Go.Lib Go.Sort
def cmpL (a b:Int):Int:=if a<b then -1 else if b<a then 1 else 0
set_option maxHeartbeats 400000 in
theorem cmp_old (a b:Int) (w:World):Calls Tryz.prog 100 #[.int .i64 a,.int .i64 b] w fun e w'=>e=.returned (.int .i64 (cmpL a b))∧∃ n,w'=w.drewN n:=by
 go_enter Tryz.func100,Tryz.ntmps100
 go_wp2
 all_goals go_ret
 all_goals exact ⟨by unfold cmpL;congr 2;simp_all;try omega,0,rfl⟩
def encRg (x:Rg):List Value:=[.int .i64 x.1,.int .i64 x.2]
def cmpF (x y:Rg):Int:=cmpL x.1 y.1
def SortCmp (g:FuncId):Prop:=∀ (x y:Rg) (W:World),Calls Tryz.prog g #[.agg #[.int .i64 x.1,.int .i64 x.2],.agg #[.int .i64 y.1,.int .i64 y.2]] W fun e w'=>e=.returned (.int .i64 (cmpF x y))∧∃ q os',w'=grow (W.drewN q) os'
theorem sortf_lt (x y:Rg):ltOf cmpF x y=decide (x.1<y.1):=by
 unfold ltOf cmpF cmpL
 by_cases h1:x.1<y.1
 · simp [h1]
 · by_cases h2:y.1<x.1 <;> simp [h1,h2]
theorem sortf_swo:SWO (ltOf cmpF) where
 irrefl x:=by rw [sortf_lt];simp
 trans x y z h1 h2:=by rw [sortf_lt] at *;simp at *;omega
 ntrans x y z h1 h2:=by rw [sortf_lt] at *;simp at *;omega
def sortV (l:List Rg):List Rg:=(pdq (ltOf cmpF) l.toArray 0 l.toArray.size (Lib.bitLen l.toArray.size) true true).toList
theorem sortV_perm (l:List Rg):(sortV l).Perm l:=by
 have h:=pdq_sorts (ltOf cmpF) sortf_swo l.toArray 0 l.toArray.size (Lib.bitLen l.toArray.size) true true (Nat.zero_le _) (Nat.le_refl _) (Or.inl rfl)
 obtain ⟨hp1,_,hp2⟩:=h.1
 unfold sortV
 generalize pdq (ltOf cmpF) l.toArray 0 l.toArray.size (Lib.bitLen l.toArray.size) true true=d' at *
 have hsz:d'.size=l.length:=by simpa using hp1
 have e1:d'.extract 0 l.toArray.size=d':=by rw [List.size_toArray,← hsz];simp
 have e2:l.toArray.extract 0 l.toArray.size=l.toArray:=by simp
 rw [e1,e2] at hp2
 simpa using hp2
theorem flatK_at (d:Array Rg) (j:Nat) (r:Rg) (h:d.toList[j]? = some r):(flatK encRg 2 d)[2 * j]! = .int .i64 r.1∧(flatK encRg 2 d)[2 * j+1]! = .int .i64 r.2:=by
 rw [Array.getElem?_toList] at h
 have hj:=(Array.getElem?_eq_some_iff.1 h).1
 have hg:d[j]! = r:=by rw [getElem!_pos d j hj];rw [Array.getElem?_eq_getElem hj] at h;exact Option.some.inj h
 rw [get_flatK _ _ _ _ (by omega),get_flatK _ _ _ _ (by omega)]
 rw [show 2 * j / 2=j by omega,show (2 * j+1) / 2=j by omega,show 2 * j % 2=0 by omega,show (2 * j+1) % 2=1 by omega,hg]
 exact ⟨rfl,rfl⟩
theorem cs_pair {v0 v1:AV} {fz:Fz} {pl:Pl} {cs:Array Value} (hl:2=cs.size) (hA:∀ (i:Nat) v c,[v0,v1][i]? = some v→cs[i]? = some c→Rep fz pl v c):∃ c0 c1,cs=#[c0,c1]∧Rep fz pl v0 c0∧Rep fz pl v1 c1:=by
 have g0:cs[0]? = some cs[0]:=Array.getElem?_eq_getElem (by omega)
 have g1:cs[1]? = some cs[1]:=Array.getElem?_eq_getElem (by omega)
 refine ⟨cs[0],cs[1],?_,hA 0 _ _ rfl g0,hA 1 _ _ rfl g1⟩
 apply Array.ext
 · simpa using hl.symm
 · intro i h1 h2
   have h3:i=0∨i=1:=by omega
   rcases h3 with rfl | rfl <;> rfl
set_option maxHeartbeats 1000000 in
theorem sortf_ctr (g:FuncId) (eg:∀ (args:Array Value) (w:World),(callFunc g args).run Tryz.prog w=.ok (.enter g args) w) (hg:SortCmp g) (l:List Rg) (hl:l.length<4611686018427387904) :
 Ctr Tryz.prog 98 [.sl 2 0 0 l.length,.fn (.func g) []] [some (2,l.map eRg)] (.tuple []) [some (2,(sortV l).map eRg)]:=by
 refine ⟨Tryz.call98,?_⟩
 intro w0 pr fz pl w cs hS hcl hA
 obtain ⟨c0,c1,rfl,r0,r1⟩:=cs_pair hcl hA
 obtain ⟨caps,rfl,hcaps,_⟩:=r1.inv_fn
 have hc0:caps=#[]:=Array.eq_empty_of_size_eq_zero (by simpa using hcaps.symm)
 subst hc0
 rcases r0.inv_sl with ⟨b,n',cap,rfl,hp,hcap,hfit⟩ | ⟨ao,rfl,h0⟩
 · rcases hS.box 0 2 (l.map eRg) rfl with (⟨a1,_⟩ | ⟨_,_,M⟩) | ⟨b',n'',arr,e,B⟩
   · rw [a1] at hp;cases hp
   · have e0:l=[]:=by
      rcases M.nil with h | h | ⟨_,_,h⟩
      · simpa using h
      · cases l with
        | nil=>rfl
        | cons a t=>simp [eRg] at h
      · cases l with
        | nil=>rfl
        | cons a t=>simp [eRg] at h
     subst e0
     refine (AnyF.slices_SortFunc_none Tryz.sortIv _ cap (.func (.func g) #[] #[]) w).mono ?_
     rintro e' w' ⟨rfl,rfl⟩
     have:sortV []=[]:=List.Perm.eq_nil (sortV_perm [])
     rw [this]
     exact ⟨_,fz,pl,rfl,.refl _,List.prefix_refl _,.frz (.tuple [] #[] rfl (by simp)),hS⟩
   obtain ⟨rfl,rfl⟩:=B.unique hp
   have hsz:=B.size
   have hfits:=B.fits
   rw [AeX B.elem,List.length_map] at hfits
   have hb:w.heap[b]? = some (.cells arr e (0,0)):=B.heap
   have hlt:b<w.heap.size:=(Array.getElem?_eq_some_iff.1 hb).1
   have hH:HoldsK encRg 2 w b 0 l.toArray:=by
    intro j hj
    rw [size_flatK,List.size_toArray] at hj
    have hget:∃ r,l[j / 2]? = some r:=⟨_,List.getElem?_eq_getElem (by omega)⟩
    obtain ⟨r,hr⟩:=hget
    obtain ⟨f1,f2⟩:=flatK_at l.toArray (j / 2) r (by simpa using hr)
    obtain ⟨a1,a2⟩:=box_rg B hr
    refine ⟨?_,by simp [World.frozen?,hb]⟩
    unfold World.cell?
    simp only [hb,Nat.zero_add,id]
    rw [if_neg (by simp)]
    rcases Nat.mod_two_eq_zero_or_one j with h2 | h2
    · rw [show 2 * (j / 2)=j by omega] at f1 a1
      rw [a1,f1]
    · rw [show 2 * (j / 2)+1=j by omega] at f2 a2
      rw [a2,f2]
   have hcon:=AnyQ.slices_SortFunc_eq Tryz.sortIv 2 Tryz.isAgg123 Tryz.sizeOf123 encRg (fun _=>rfl) (fun x v hv=>by simp [encRg] at hv;rcases hv with rfl | rfl <;> rfl) cmpF sortf_swo g #[] b 0 cap l.toArray w eg (fun _ _ _ _ x y=>hg x y _) hH hlt (by simpa using hl)
   simp only [List.size_toArray] at hcon
   simp only [Nat.zero_mul]
   refine hcon.mono ?_
   rintro e' w' ⟨rfl,m,os,rfl⟩
   have hsv:(pdq (ltOf cmpF) l.toArray 0 l.length (Lib.bitLen l.length) true true)=(sortV l).toArray:=by unfold sortV;simp
   rw [hsv]
   have hlen:(sortV l).length=l.length:=(sortV_perm l).length_eq
   have hbw:(sortWorldK encRg 2 w b 0 m (sortV l).toArray os).heap[b]? = some (.cells (putCells id 0 (flatK encRg 2 (sortV l).toArray) arr) e (0,0)):=by
    show ((w.heap.modify b _)++os)[b]? = _
    rw [Array.getElem?_append,if_pos (by simpa using hlt),Array.getElem?_modify,if_pos rfl,hb]
    rfl
   refine ⟨_,fz,pl,rfl,.refl _,List.prefix_refl _,.frz (.tuple [] #[] rfl (by simp)),Sim_cells (w:=w) hS (k:=0) rfl B rfl rfl rfl (size_sortWorldK_c _ _ _ _ _ _ _ _) (fun c hc hne=>?_) hbw ?_ (len_rg _) (by rw [List.length_map,hlen];exact hfits) (rep_rg ?_)⟩
   · show ((w.heap.modify b _)++os)[c]? = w.heap[c]?
     rw [Array.getElem?_append,if_pos (by simpa using hc),Array.getElem?_modify,if_neg (Ne.symm hne)]
   · unfold putCells;rw [Array.size_mapIdx];exact hsz
   · intro j r hj
     have hjl:=(List.getElem?_eq_some_iff.1 hj).1
     obtain ⟨f1,f2⟩:=flatK_at (sortV l).toArray j r (by simpa using hj)
     have hp:∀ p,p<2 * l.length→(putCells id 0 (flatK encRg 2 (sortV l).toArray) arr)[p]? = some ((flatK encRg 2 (sortV l).toArray)[p]!):=by
      intro p hp
      unfold putCells
      rw [Array.getElem?_mapIdx,Array.getElem?_eq_getElem (by omega)]
      simp only [Option.map_some,Nat.zero_le,true_and,Nat.zero_add,Nat.sub_zero,id,size_flatK,List.size_toArray]
      rw [if_pos (by omega)]
     rw [hp _ (by omega),hp _ (by omega),f1,f2]
     exact ⟨rfl,rfl⟩
 · have e0:l=[]:=List.eq_nil_of_length_eq_zero h0
   subst e0
   have hcon:=AnyF.slices_SortFunc_none Tryz.sortIv ao 0 (.func (.func g) #[] #[]) w
   refine hcon.mono ?_
   rintro e' w' ⟨rfl,rfl⟩
   have:sortV []=[]:=List.Perm.eq_nil (sortV_perm [])
   rw [this]
   exact ⟨_,fz,pl,rfl,.refl _,List.prefix_refl _,.frz (.tuple [] #[] rfl (by simp)),hS⟩
end Go.Proofs.YtcmphhedaefcgaaGreatDoor
end
section
namespace Go.Proofs.YtcmphhedaefcgaaGreatDoor
open Av
def withinB (n:Int):Bool:=decide (-1048576≤n) && decide (n≤1048576)
end Go.Proofs.YtcmphhedaefcgaaGreatDoor
end
section
namespace Go.Proofs.YtcmphhedaefcgaaGreatDoor
open Av
set_option maxRecDepth 100000
def kd_CModel (f:Nat):Nat:=0
def c_model_within:AFunc:=⟨9,[.tmp 2],
 .seq (.region (zo 2 (.mov (.val (.bool false)))::[])) <|
 .seq (.region (zm 3 0::zo 4 (.bin .geq (.tmp 3) (.val (.int .i64 (-1048576))))::zm 5 4::zg 6 (.mov (.tmp 0)) 5 true::zg 7 (.bin .leq (.tmp 6) (.val (.int .i64 1048576))) 5 true::zo 8 (.pick (.tmp 5) (.tmp 7) (.val (.bool false)))::zm 2 8::[])) <|
 .ret⟩
theorem e_model_within:AgY Tryz.prog kd_CModel Tryz.f28=some c_model_within:=by kernel_rfl
def c_model_shapes:AFunc:=⟨47,[.cell 2 true 5,.tmp 3],
 .seq (.region (zo 2 (.alloc (.agg [(.int .i64 0),(.int .i64 0),(.int .i64 0),(.bool false),(.int .i64 0)]))::zo 3 (.mov (.val (.bool false)))::[])) <|
 .seq (.seq (.region (zm 4 0::[])) <|
 .block 0 (.seq (.seq (.region (zq 6 4 1::zm 5 6::[])) <|
  .cond (.tmp 5) (.skip) <|
  .seq (.region (zq 7 4 2::zm 5 7::[])) <|
  .cond (.tmp 5) (.skip) <|
  .region (zq 8 4 3::zm 5 8::[])) <|
  .cond (.tmp 5) (.seq (.region (zo 9 (.build [(.int .i64 0),(.int .i64 0),(.int .i64 0),(.bool false),(.int .i64 0)] [(0,1,(.val (.int .i64 1))),(1,1,(.val (.int .i64 0))),(2,1,(.val (.int .i64 0))),(3,1,(.val (.bool true))),(4,1,(.val (.int .i64 0)))])::zs 5 2 9::zo 3 (.mov (.val (.bool true)))::[])) <|
   .ret) <|
  .seq (.seq (.region (zq 11 4 4::zm 10 11::[])) <|
  .cond (.tmp 10) (.skip) <|
  .seq (.region (zq 12 4 5::zm 10 12::[])) <|
  .cond (.tmp 10) (.skip) <|
  .region (zq 13 4 6::zm 10 13::[])) <|
  .cond (.tmp 10) (.seq (.region (zo 14 (.build [(.int .i64 0),(.int .i64 0),(.int .i64 0),(.bool false),(.int .i64 0)] [(0,1,(.val (.int .i64 1))),(1,1,(.val (.int .i64 1))),(2,1,(.val (.int .i64 0))),(3,1,(.val (.bool true))),(4,1,(.val (.int .i64 1)))])::zs 5 2 14::zo 3 (.mov (.val (.bool true)))::[])) <|
   .ret) <|
  .seq (.seq (.region (zq 16 4 7::zm 15 16::[])) <|
  .cond (.tmp 15) (.skip) <|
  .seq (.region (zq 17 4 8::zm 15 17::[])) <|
  .cond (.tmp 15) (.skip) <|
  .region (zq 18 4 9::zm 15 18::[])) <|
  .cond (.tmp 15) (.seq (.region (zo 19 (.build [(.int .i64 0),(.int .i64 0),(.int .i64 0),(.bool false),(.int .i64 0)] [(0,1,(.val (.int .i64 0))),(1,1,(.val (.int .i64 3))),(2,1,(.val (.int .i64 0))),(3,1,(.val (.bool false))),(4,1,(.val (.int .i64 0)))])::zs 5 2 19::zo 3 (.mov (.val (.bool true)))::[])) <|
   .ret) <|
  .seq (.seq (.region (zq 21 4 10::zm 20 21::[])) <|
  .cond (.tmp 20) (.skip) <|
  .region (zq 22 4 15::zm 20 22::[])) <|
  .cond (.tmp 20) (.seq (.region (zo 23 (.build [(.int .i64 0),(.int .i64 0),(.int .i64 0),(.bool false),(.int .i64 0)] [(0,1,(.val (.int .i64 0))),(1,1,(.val (.int .i64 2))),(2,1,(.val (.int .i64 0))),(3,1,(.val (.bool false))),(4,1,(.val (.int .i64 0)))])::zs 5 2 23::zo 3 (.mov (.val (.bool true)))::[])) <|
   .ret) <|
  .seq (.region (zq 25 4 11::zm 24 25::[])) <|
  .cond (.tmp 24) (.seq (.region (zo 26 (.build [(.int .i64 0),(.int .i64 0),(.int .i64 0),(.bool false),(.int .i64 0)] [(0,1,(.val (.int .i64 1))),(1,1,(.val (.int .i64 0))),(2,1,(.val (.int .i64 0))),(3,1,(.val (.bool false))),(4,1,(.val (.int .i64 2)))])::zs 5 2 26::zo 3 (.mov (.val (.bool true)))::[])) <|
   .ret) <|
  .seq (.seq (.region (zq 28 4 12::zm 27 28::[])) <|
  .cond (.tmp 27) (.skip) <|
  .region (zq 29 4 13::zm 27 29::[])) <|
  .cond (.tmp 27) (.seq (.region (zo 30 (.build [(.int .i64 0),(.int .i64 0),(.int .i64 0),(.bool false),(.int .i64 0)] [(0,1,(.val (.int .i64 2))),(1,1,(.val (.int .i64 1))),(2,1,(.val (.int .i64 0))),(3,1,(.val (.bool false))),(4,1,(.val (.int .i64 2)))])::zs 5 2 30::zo 3 (.mov (.val (.bool true)))::[])) <|
   .ret) <|
  .seq (.region (zq 32 4 14::zm 31 32::[])) <|
  .cond (.tmp 31) (.seq (.region (zo 33 (.build [(.int .i64 0),(.int .i64 0),(.int .i64 0),(.bool false),(.int .i64 0)] [(0,1,(.val (.int .i64 0))),(1,1,(.val (.int .i64 3))),(2,1,(.val (.int .i64 0))),(3,1,(.val (.bool false))),(4,1,(.val (.int .i64 2)))])::zs 5 2 33::zo 3 (.mov (.val (.bool true)))::[])) <|
   .ret) <|
  .seq (.region (zq 35 4 16::zm 34 35::[])) <|
  .cond (.tmp 34) (.seq (.region (zo 36 (.build [(.int .i64 0),(.int .i64 0),(.int .i64 0),(.bool false),(.int .i64 0)] [(0,1,(.val (.int .i64 3))),(1,1,(.val (.int .i64 2))),(2,1,(.val (.int .i64 0))),(3,1,(.val (.bool false))),(4,1,(.val (.int .i64 0)))])::zs 5 2 36::zo 3 (.mov (.val (.bool true)))::[])) <|
   .ret) <|
  .seq (.region (zq 38 4 17::zm 37 38::[])) <|
  .cond (.tmp 37) (.seq (.region (zo 39 (.build [(.int .i64 0),(.int .i64 0),(.int .i64 0),(.bool false),(.int .i64 0)] [(0,1,(.val (.int .i64 2))),(1,1,(.val (.int .i64 3))),(2,1,(.val (.int .i64 0))),(3,1,(.val (.bool false))),(4,1,(.val (.int .i64 0)))])::zs 5 2 39::zo 3 (.mov (.val (.bool true)))::[])) <|
   .ret) <|
  .seq (.region (zq 41 4 18::zm 40 41::[])) <|
  .cond (.tmp 40) (.seq (.region (zo 42 (.build [(.int .i64 0),(.int .i64 0),(.int .i64 0),(.bool false),(.int .i64 0)] [(0,1,(.val (.int .i64 2))),(1,1,(.val (.int .i64 0))),(2,1,(.val (.int .i64 0))),(3,1,(.val (.bool false))),(4,1,(.val (.int .i64 0)))])::zs 5 2 42::zo 3 (.mov (.val (.bool true)))::[])) <|
   .ret) <|
  .seq (.region (zq 44 4 19::zm 43 44::[])) <|
  .cond (.tmp 43) (.seq (.region (zo 45 (.build [(.int .i64 0),(.int .i64 0),(.int .i64 0),(.bool false),(.int .i64 0)] [(0,1,(.val (.int .i64 4))),(1,1,(.val (.int .i64 0))),(2,1,(.val (.int .i64 0))),(3,1,(.val (.bool true))),(4,1,(.val (.int .i64 0)))])::zs 5 2 45::zo 3 (.mov (.val (.bool true)))::[])) <|
   .ret) <|
  .skip)) <|
 .seq (.region (zo 46 (.build [(.int .i64 0),(.int .i64 0),(.int .i64 0),(.bool false),(.int .i64 0)] [])::zs 5 2 46::zo 3 (.mov (.val (.bool false)))::[])) <|
 .ret⟩
theorem e_model_shapes:AgY Tryz.prog kd_CModel Tryz.f104=some c_model_shapes:=by kernel_rfl
def c_model_formed_2:AFunc:=⟨5,[.tmp 2],
 .seq (.region (zo 2 (.mov (.val (.bool false)))::[])) <|
 .seq (.region (zm 3 0::zo 4 (.bin .lss (.tmp 3) (.val (.int .i64 0)))::zm 2 4::[])) <|
 .ret⟩
theorem e_model_formed_2:AgY Tryz.prog kd_CModel Tryz.f108=some c_model_formed_2:=by kernel_rfl
def c_model_formed_1:AFunc:=⟨9,[.tmp 2],
 .seq (.region (zo 2 (.mov (.val (.bool false)))::[])) <|
 .seq (.region (zm 3 0::zo 4 (.bin .neq (.tmp 3) (.val (.int .i64 1)))::zm 5 4::zg 6 (.mov (.tmp 0)) 5 true::zg 7 (.bin .neq (.tmp 6) (.val (.int .i64 (-1)))) 5 true::zo 8 (.pick (.tmp 5) (.tmp 7) (.val (.bool false)))::zm 2 8::[])) <|
 .ret⟩
theorem e_model_formed_1:AgY Tryz.prog kd_CModel Tryz.f107=some c_model_formed_1:=by kernel_rfl
def c_model_formed:AFunc:=⟨43,[.tmp 2],
 .seq (.region (zo 1 (.box 4 (.tmp 0))::zo 2 (.mov (.val (.bool false)))::[])) <|
 .seq (.region (zf 6 0 1::zl 7 1 6::zo 8 (.call (.val (.fn (.func 104) [])) [(.tmp 7)])::zm 5 8::zx 9 5 0::zx 10 5 1::zo 3 (.alloc (.agg [(.int .i64 0),(.int .i64 0),(.int .i64 0),(.bool false),(.int .i64 0)]))::zs 5 3 9::zm 4 10::[])) <|
 .seq (.seq (.region (zm 11 4::zo 12 (.un .not (.tmp 11))::zm 13 12::zg 14 (.load true 5 (.tmp 3)) 13 false::zg 15 (.faddr 1 (.tmp 1)) 13 false::zg 16 (.load false 1 (.tmp 15)) 13 false::zg 17 (.len false (.tmp 16)) 13 false::zg 18 (.faddr 2 (.tmp 1)) 13 false::zg 19 (.load false 1 (.tmp 18)) 13 false::zg 20 (.len false (.tmp 19)) 13 false::zg 21 (.call (.val (.fn (.func 105) [])) [(.tmp 14),(.tmp 17),(.tmp 20)]) 13 false::zg 22 (.un .not (.tmp 21)) 13 false::zo 23 (.pick (.tmp 13) (.val (.bool true)) (.tmp 22))::[])) <|
 .cond (.tmp 23) (.seq (.region (zo 2 (.mov (.val (.bool false)))::[])) <|
  .ret) <|
 .skip) <|
 .seq (.seq (.region (zf 24 0 1::zl 25 1 24::[])) <|
 .block 0 (.seq (.region (zq 27 25 11::zm 26 27::[])) <|
  .cond (.tmp 26) (.seq (.region (zf 28 2 1::zl 29 1 28::zo 30 (.call (.val (.fn (.func 106) [])) [(.tmp 29),(.val (.fn (.func 107) []))])::zo 31 (.un .not (.tmp 30))::zm 2 31::[])) <|
   .ret) <|
  .seq (.region (zq 33 25 19::zm 32 33::[])) <|
  .cond (.tmp 32) (.seq (.region (zf 34 3 1::zl 35 1 34::zo 36 (.bin .geq (.tmp 35) (.val (.int .i64 0)))::zm 37 36::zg 38 (.faddr 2 (.tmp 1)) 37 true::zg 39 (.load false 1 (.tmp 38)) 37 true::zg 40 (.call (.val (.fn (.func 106) [])) [(.tmp 39),(.val (.fn (.func 108) []))]) 37 true::zg 41 (.un .not (.tmp 40)) 37 true::zo 42 (.pick (.tmp 37) (.tmp 41) (.val (.bool false)))::zm 2 42::[])) <|
   .ret) <|
  .skip)) <|
 .seq (.region (zo 2 (.mov (.val (.bool true)))::[])) <|
 .ret⟩
theorem e_model_formed:AgY Tryz.prog kd_CModel Tryz.f73=some c_model_formed:=by kernel_rfl
def c_model_shape_counts:AFunc:=⟨59,[.tmp 6],
 .seq (.region (zo 3 (.box 5 (.tmp 0))::zo 6 (.mov (.val (.bool false)))::[])) <|
 .seq (.seq (.region (zf 7 0 3::zl 8 1 7::[])) <|
 .block 0 (.seq (.region (zq 10 8 0::zm 9 10::[])) <|
  .cond (.tmp 9) (.seq (.region (zm 11 1::zf 12 1 3::zl 13 1 12::zo 14 (.bin .eql (.tmp 11) (.tmp 13))::zm 15 14::zg 16 (.mov (.tmp 2)) 15 true::zg 17 (.faddr 2 (.tmp 3)) 15 true::zg 18 (.load false 1 (.tmp 17)) 15 true::zg 19 (.bin .eql (.tmp 16) (.tmp 18)) 15 true::zo 20 (.pick (.tmp 15) (.tmp 19) (.val (.bool false)))::zm 6 20::[])) <|
   .ret) <|
  .seq (.region (zq 22 8 1::zm 21 22::[])) <|
  .cond (.tmp 21) (.seq (.region (zm 23 1::zm 24 2::zf 25 1 3::zl 26 1 25::zo 27 (.bin .add (.tmp 24) (.tmp 26))::zo 28 (.bin .eql (.tmp 23) (.tmp 27))::zm 6 28::[])) <|
   .ret) <|
  .seq (.region (zq 30 8 2::zm 29 30::[])) <|
  .cond (.tmp 29) (.seq (.region (zm 31 1::zf 32 1 3::zl 33 1 32::zo 34 (.bin .geq (.tmp 31) (.tmp 33))::zm 35 34::zg 36 (.mov (.tmp 2)) 35 true::zg 37 (.faddr 2 (.tmp 3)) 35 true::zg 38 (.load false 1 (.tmp 37)) 35 true::zg 39 (.bin .eql (.tmp 36) (.tmp 38)) 35 true::zo 40 (.pick (.tmp 35) (.tmp 39) (.val (.bool false)))::zm 6 40::[])) <|
   .ret) <|
  .seq (.region (zq 42 8 3::zm 41 42::[])) <|
  .cond (.tmp 41) (.seq (.region (zm 43 1::zf 44 1 3::zl 45 1 44::zo 46 (.bin .eql (.tmp 43) (.tmp 45))::zm 47 46::zg 48 (.mov (.tmp 2)) 47 true::zg 49 (.bin .geq (.tmp 48) (.val (.int .i64 1))) 47 true::zo 50 (.pick (.tmp 47) (.tmp 49) (.val (.bool false)))::zm 51 50::zg 52 (.mov (.tmp 2)) 51 true::zg 53 (.bin .leq (.tmp 52) (.val (.int .i64 64))) 51 true::zo 54 (.pick (.tmp 51) (.tmp 53) (.val (.bool false)))::zm 6 54::[])) <|
   .ret) <|
  .skip)) <|
 .seq (.region (zm 55 2::zm 56 1::zo 57 (.bin .mul (.val (.int .i64 2)) (.tmp 56))::zo 58 (.bin .eql (.tmp 55) (.tmp 57))::zm 6 58::[])) <|
 .ret⟩
theorem e_model_shape_counts:AgY Tryz.prog kd_CModel Tryz.f105=some c_model_shape_counts:=by kernel_rfl
def BeY:AFunc:=⟨19,[.tmp 4],
 .seq (.region (zo 4 (.mov (.val (.int .i64 0)))::[])) <|
 .seq (.seq (.region (zm 6 0::zo 7 (.len false (.tmp 6))::zo 8 (.mov (.val (.int .i64 0)))::[])) <|
 .block 0 (.loop (.seq (.region (zo 9 (.bin .lss (.tmp 8) (.tmp 7))::[])) <|
  .seq (.cond (.tmp 9) (.skip) <|
  .exit 0) <|
  .seq (.block 1 (.seq (.region (zm 10 8::zm 5 10::[])) <|
   .seq (.region (zm 11 1::zm 12 0::zm 13 5::zo 14 (.iaddr 1 (.tmp 12) (.tmp 13))::zl 15 1 14::zo 16 (.call (.tmp 11) [(.tmp 15)])::[])) <|
   .cond (.tmp 16) (.seq (.region (zm 17 5::zm 4 17::[])) <|
    .ret) <|
   .skip)) <|
  .region (zo 18 (.bin .add (.tmp 8) (.val (.int .i64 1)))::zm 8 18::[])))) <|
 .seq (.region (zo 4 (.mov (.val (.int .i64 (-1))))::[])) <|
 .ret⟩
theorem e_slices_IndexFunc_sint64_int64:AgY Tryz.prog kd_CModel Tryz.f130=some BeY:=by kernel_rfl
def AxQ:AFunc:=⟨9,[.tmp 4],
 .seq (.region (zo 4 (.mov (.val (.bool false)))::[])) <|
 .seq (.region (zm 5 0::zm 6 1::zo 7 (.call (.val (.fn (.func 130) [])) [(.tmp 5),(.tmp 6)])::zo 8 (.bin .geq (.tmp 7) (.val (.int .i64 0)))::zm 4 8::[])) <|
 .ret⟩
theorem BsZ:AgY Tryz.prog kd_CModel Tryz.f106=some AxQ:=by kernel_rfl
end Go.Proofs.YtcmphhedaefcgaaGreatDoor
namespace Go.Proofs.YtcmphhedaefcgaaGreatDoor
open Av
attribute [local irreducible] awp AbX
set_option maxRecDepth 100000
theorem AzX (n:Int):Ctr Tryz.prog 28 [.int .i64 n] [] (.bool (withinB n)) []:=by
 refine AcZ Tryz.func28 Tryz.call28 e_model_within ?_
 simp +contextual -implicitDefEqProofs only [sm,c_model_within,Nat.reduceAdd,Nat.reduceSub,Nat.reduceLeDiff,Nat.reduceLT,Nat.reduceEqDiff,Int.reduceLE,Int.reduceLT,Int.reduceEq,Int.reduceToNat,Int.reduceAdd,Int.reduceSub,Int.reduceMul,Int.reduceNeg,Int.reduceNe,reduceCtorEq,↓reduceIte]
 unfold withinB
 split <;> simp_all <;> omega
abbrev Shp:=Int × Int × Int × Bool × Int
def eShp (s:Shp):AV:=.agg [.int .i64 s.1,.int .i64 s.2.1,.int .i64 s.2.2.1,.bool s.2.2.2.1,.int .i64 s.2.2.2.2]
def shp (K:Int):Shp :=
 if K=1∨K=2∨K=3 then (1,0,0,true,0) else if K=4∨K=5∨K=6 then (1,1,0,true,1) else if K=7∨K=8∨K=9 then (0,3,0,false,0)
 else if K=10∨K=15 then (0,2,0,false,0) else if K=11 then (1,0,0,false,2) else if K=12∨K=13 then (2,1,0,false,2) else if K=14 then (0,3,0,false,2)
 else if K=16 then (3,2,0,false,0) else if K=17 then (2,3,0,false,0) else if K=18 then (2,0,0,false,0) else if K=19 then (4,0,0,true,0) else (0,0,0,false,0)
def kindB (K:Int):Bool:=decide (1≤K) && decide (K≤19)
theorem model_shapes (K:Int):Ctr Tryz.prog 104 [.int .i64 K] [] (.tuple [eShp (shp K),.bool (kindB K)]) []:=by
 refine AcZ Tryz.func104 Tryz.call104 e_model_shapes ?_
 by_cases hK:1≤K∧K≤19
 · have:K=1∨K=2∨K=3∨K=4∨K=5∨K=6∨K=7∨K=8∨K=9∨K=10∨K=11∨K=12∨K=13∨K=14∨K=15∨K=16∨K=17∨K=18∨K=19:=by omega
   rcases this with rfl | rfl | rfl | rfl | rfl | rfl | rfl | rfl | rfl | rfl | rfl | rfl | rfl | rfl | rfl | rfl | rfl | rfl | rfl <;>
    simp +contextual -implicitDefEqProofs only [sm,c_model_shapes,eShp,shp,kindB,Nat.reduceAdd,Nat.reduceSub,Nat.reduceLeDiff,Nat.reduceLT,Nat.reduceEqDiff,Int.reduceLE,Int.reduceLT,Int.reduceEq,Int.reduceToNat,Int.reduceAdd,Int.reduceSub,Int.reduceMul,Int.reduceNeg,Int.reduceNe,reduceCtorEq,↓reduceIte,or_true,true_or,or_false,false_or]
 · have h1:∀ n:Int,1≤n→n≤19→(K=n)=False:=fun n a b=>by simp only [eq_iff_iff,iff_false];omega
   have h2:kindB K=false:=by simp only [kindB,Bool.and_eq_false_iff,decide_eq_false_iff_not];omega
   simp +contextual -implicitDefEqProofs only [sm,c_model_shapes,eShp,shp,h2,Nat.reduceAdd,Nat.reduceSub,Nat.reduceLeDiff,Nat.reduceLT,Nat.reduceEqDiff,Int.reduceLE,Int.reduceLT,Int.reduceEq,Int.reduceToNat,Int.reduceAdd,Int.reduceSub,Int.reduceMul,Int.reduceNeg,Int.reduceNe,reduceCtorEq,↓reduceIte,or_true,true_or,or_false,false_or,h1 1,h1 2,h1 3,h1 4,h1 5,h1 6,h1 7,h1 8,h1 9,h1 10,h1 11,h1 12,h1 13,h1 14,h1 15,h1 16,h1 17,h1 18,h1 19]
def countsB (s:Shp) (x a:Int):Bool :=
 if s.1=0 then decide (x=s.2.1) && decide (a=s.2.2.1) else if s.1=1 then decide (x=a+s.2.1) else if s.1=2 then decide (s.2.1≤x) && decide (a=s.2.2.1)
 else if s.1=3 then decide (x=s.2.1) && decide (1≤a) && decide (a≤64) else decide (a=2 * x)
theorem model_counts (s:Shp) (x a:Int) (h1:0≤s.2.1∧s.2.1≤10) (hx:0≤x∧x≤1000000000000) (ha:0≤a∧a≤1000000000000) :
 Ctr Tryz.prog 105 [eShp s,.int .i64 x,.int .i64 a] [] (.bool (countsB s x a)) []:=by
 obtain ⟨r,sx,sa,hs,bt⟩:=s
 simp only at h1
 refine AcZ Tryz.func105 Tryz.call105 e_model_shape_counts ?_
 have w1:IntKind.i64.wrap (a+sx)=a+sx:=by rw [AiY] <;> omega
 have w2:IntKind.i64.wrap (2 * x)=2 * x:=by rw [AiY] <;> omega
 simp +contextual -implicitDefEqProofs only [sm,c_model_shape_counts,eShp,Nat.reduceAdd,Nat.reduceSub,Nat.reduceLeDiff,Nat.reduceLT,Nat.reduceEqDiff,Int.reduceLE,Int.reduceLT,Int.reduceEq,Int.reduceToNat,Int.reduceAdd,Int.reduceSub,Int.reduceMul,Int.reduceNeg,Int.reduceNe,reduceCtorEq,↓reduceIte,w1,w2]
 simp only [countsB]
 repeat' split
 all_goals simp_all
 all_goals omega
theorem model_formed_1 (a:Int):Ctr Tryz.prog 107 [.int .i64 a] [] (.bool (decide (a≠1) && decide (a≠-1))) []:=by
 refine AcZ Tryz.func107 Tryz.call107 e_model_formed_1 ?_
 simp +contextual -implicitDefEqProofs only [sm,c_model_formed_1,Nat.reduceAdd,Nat.reduceSub,Nat.reduceLeDiff,Nat.reduceLT,Nat.reduceEqDiff,Int.reduceLE,Int.reduceLT,Int.reduceEq,Int.reduceToNat,Int.reduceAdd,Int.reduceSub,Int.reduceMul,Int.reduceNeg,Int.reduceNe,reduceCtorEq,↓reduceIte]
 split <;> simp_all
theorem model_formed_2 (a:Int):Ctr Tryz.prog 108 [.int .i64 a] [] (.bool (decide (a<0))) []:=by
 refine AcZ Tryz.func108 Tryz.call108 e_model_formed_2 ?_
 simp +contextual -implicitDefEqProofs only [sm,c_model_formed_2,Nat.reduceAdd,Nat.reduceSub,Nat.reduceLeDiff,Nat.reduceLT,Nat.reduceEqDiff,Int.reduceLE,Int.reduceLT,Int.reduceEq,Int.reduceToNat,Int.reduceAdd,Int.reduceSub,Int.reduceMul,Int.reduceNeg,Int.reduceNe,reduceCtorEq,↓reduceIte]
end Go.Proofs.YtcmphhedaefcgaaGreatDoor
namespace Go.Proofs.YtcmphhedaefcgaaGreatDoor
open Av
attribute [local irreducible] awp AbX
set_option maxRecDepth 100000
def idxV {α:Type} (p:α→Bool) (l:List α):Int:=match l.findIdx? p with
 | some k=>k
 | none=>-1
theorem idxV_none {α:Type} {p:α→Bool} {l:List α} (h:∀ (j:Nat) x,l[j]? = some x→p x=false):idxV p l=-1:=by
 unfold idxV
 have:l.findIdx? p=none:=by
  rw [List.findIdx?_eq_none_iff]
  intro x hx
  obtain ⟨j,hj,rfl⟩:=List.getElem_of_mem hx
  exact h j _ (List.getElem?_eq_getElem hj)
 rw [this]
theorem idxV_some {α:Type} {p:α→Bool} {l:List α} {k:Nat} {y:α} (hy:l[k]? = some y) (hp:p y=true) (h:∀ (j:Nat) x,j<k→l[j]? = some x→p x=false):idxV p l=k:=by
 unfold idxV
 have:l.findIdx? p=some k:=by
  rw [List.findIdx?_eq_some_iff_getElem]
  have hk:=(List.getElem?_eq_some_iff.1 hy)
  refine ⟨hk.1,by rw [hk.2];exact hp,fun j hj=>?_⟩
  rw [h j _ hj (List.getElem?_eq_getElem (Nat.lt_trans hj hk.1))]
  simp
 rw [this]
theorem idxV_any {α:Type} (p:α→Bool) (l:List α):decide (0≤idxV p l)=l.any p:=by
 unfold idxV
 cases h:l.findIdx? p with
 |
  none =>
  rw [List.findIdx?_eq_none_iff] at h
  have:l.any p=false:=by rw [List.any_eq_false];intro x hx;rw [h x hx];simp
  rw [this];rfl
 |
  some k =>
  rw [List.findIdx?_eq_some_iff_getElem] at h
  obtain ⟨hk,hp,_⟩:=h
  have:l.any p=true:=by rw [List.any_eq_true];exact ⟨_,List.getElem_mem hk,hp⟩
  rw [this];simp
theorem index_ints (l:List Int) (hl:l.length≤1000000000000) (g:Nat) (p:Int→Bool) (hg:∀ n,Ctr Tryz.prog g [.int .i64 n] [] (.bool (p n)) []) :
 Ctr Tryz.prog 130 [eIs l,.fn (.func g) []] [] (.int .i64 (idxV p l)) []:=by
 refine AcZ Tryz.func130 Tryz.call130 e_slices_IndexFunc_sint64_int64 ?_
 simp +contextual -implicitDefEqProofs only [sm,BeY,eIs,Nat.reduceAdd,Nat.reduceSub,Nat.reduceLeDiff,Nat.reduceLT,Nat.reduceEqDiff,Int.reduceLE,Int.reduceLT,Int.reduceEq,Int.reduceToNat,Int.reduceAdd,Int.reduceSub,Int.reduceMul,Int.reduceNeg,Int.reduceNe,reduceCtorEq,↓reduceIte]
 refine BbZ (fun k:Nat=>k≤l.length∧∀ (j:Nat) x,j<k→l[j]? = some x→p x=false) (fun k=>tm 19 [(0,.list 1 (l.map eI)),(1,.fn (.func g) []),(7,.int .i64 l.length),(8,.int .i64 k)]) (fun _=>[]) (fun k=>l.length-k) 0 ⟨by omega,by omega⟩ ⟨[],by decide,rfl,trivial,?_⟩ ?_
 · simp +contextual -implicitDefEqProofs only [sm,tm,Nat.reduceAdd,Nat.reduceSub,Nat.reduceLeDiff,Nat.reduceLT,Nat.reduceEqDiff,Int.reduceLE,Int.reduceLT,Int.reduceEq,Int.reduceToNat,Int.reduceAdd,Int.reduceSub,Int.reduceMul,Int.reduceNeg,Int.reduceNe,reduceCtorEq,↓reduceIte];simp
 · rintro k ⟨hk,hok⟩
   by_cases hlt:k<l.length
   · obtain ⟨x,hx⟩:∃ r,l[k]? = some r:=⟨_,List.getElem?_eq_getElem hlt⟩
     have hlt':(k:Int)<(l.length:Int):=by omega
     simp +contextual -implicitDefEqProofs only [sm,Nat.reduceAdd,Nat.reduceSub,Nat.reduceLeDiff,Nat.reduceLT,Nat.reduceEqDiff,Int.reduceLE,Int.reduceLT,Int.reduceEq,Int.reduceToNat,Int.reduceAdd,Int.reduceSub,Int.reduceMul,Int.reduceNeg,Int.reduceNe,reduceCtorEq,↓reduceIte,hlt',hx]
     refine AaY (hg _) (AaQ _) rfl ?_
     cases hp:p x
     · have e2:IntKind.i64.wrap ((k:Int)+1)=((k+1:Nat):Int):=by rw [AiY] <;> omega
       simp +contextual -implicitDefEqProofs only [sm,Nat.reduceAdd,Nat.reduceSub,Nat.reduceLeDiff,Nat.reduceLT,Nat.reduceEqDiff,Int.reduceLE,Int.reduceLT,Int.reduceEq,Int.reduceToNat,Int.reduceAdd,Int.reduceSub,Int.reduceMul,Int.reduceNeg,Int.reduceNe,reduceCtorEq,↓reduceIte,e2]
       refine ⟨k+1,⟨by omega,?_⟩,by omega,[],by decide,rfl,trivial,?_⟩
       · intro j y hj hy
         rcases Nat.lt_succ_iff_lt_or_eq.1 hj with h | rfl
         · exact hok j y h hy
         · rw [hx] at hy;injection hy with hy;subst hy;exact hp
       · simp +contextual -implicitDefEqProofs only [sm,tm,Nat.reduceAdd,Nat.reduceSub,Nat.reduceLeDiff,Nat.reduceLT,Nat.reduceEqDiff,Int.reduceLE,Int.reduceLT,Int.reduceEq,Int.reduceToNat,Int.reduceAdd,Int.reduceSub,Int.reduceMul,Int.reduceNeg,Int.reduceNe,reduceCtorEq,↓reduceIte]
     · simp +contextual -implicitDefEqProofs only [sm,Nat.reduceAdd,Nat.reduceSub,Nat.reduceLeDiff,Nat.reduceLT,Nat.reduceEqDiff,Int.reduceLE,Int.reduceLT,Int.reduceEq,Int.reduceToNat,Int.reduceAdd,Int.reduceSub,Int.reduceMul,Int.reduceNeg,Int.reduceNe,reduceCtorEq,↓reduceIte]
       exact idxV_some hx hp hok
   · have:k=l.length:=by omega
     subst this
     simp +contextual -implicitDefEqProofs only [sm,Nat.reduceAdd,Nat.reduceSub,Nat.reduceLeDiff,Nat.reduceLT,Nat.reduceEqDiff,Int.reduceLE,Int.reduceLT,Int.reduceEq,Int.reduceToNat,Int.reduceAdd,Int.reduceSub,Int.reduceMul,Int.reduceNeg,Int.reduceNe,reduceCtorEq,↓reduceIte,Int.lt_irrefl]
     exact idxV_none (fun j x hj=>hok j x (List.getElem?_eq_some_iff.1 hj).1 hj)
theorem contains_ints (l:List Int) (hl:l.length≤1000000000000) (g:Nat) (p:Int→Bool) (hg:∀ n,Ctr Tryz.prog g [.int .i64 n] [] (.bool (p n)) []) :
 Ctr Tryz.prog 106 [eIs l,.fn (.func g) []] [] (.bool (l.any p)) []:=by
 refine AcZ Tryz.func106 Tryz.call106 BsZ ?_
 simp +contextual -implicitDefEqProofs only [sm,AxQ,eIs,Nat.reduceAdd,Nat.reduceSub,Nat.reduceLeDiff,Nat.reduceLT,Nat.reduceEqDiff,Int.reduceLE,Int.reduceLT,Int.reduceEq,Int.reduceToNat,Int.reduceAdd,Int.reduceSub,Int.reduceMul,Int.reduceNeg,Int.reduceNe,reduceCtorEq,↓reduceIte]
 refine AaY (index_ints l hl g p hg) (AaQ _) rfl ?_
 simp +contextual -implicitDefEqProofs only [sm,Nat.reduceAdd,Nat.reduceSub,Nat.reduceLeDiff,Nat.reduceLT,Nat.reduceEqDiff,Int.reduceLE,Int.reduceLT,Int.reduceEq,Int.reduceToNat,Int.reduceAdd,Int.reduceSub,Int.reduceMul,Int.reduceNeg,Int.reduceNe,reduceCtorEq,↓reduceIte]
 rw [← idxV_any]
def formedB (c:Con):Bool :=
 kindB c.1 && countsB (shp c.1) c.2.1.length c.2.2.1.length && (if c.1=11 then !(c.2.2.1.any fun a=>decide (a≠1) && decide (a≠-1)) else if c.1=19 then decide (0≤c.2.2.2) && !(c.2.2.1.any fun a=>decide (a<0)) else true)
theorem shp_x (K:Int):0≤(shp K).2.1∧(shp K).2.1≤10:=by
 unfold shp
 repeat' split
 all_goals simp
theorem model_formed (c:Con) (hX:c.2.1.length≤1000000000000) (hA:c.2.2.1.length≤1000000000000):Ctr Tryz.prog 73 [eCon c] [] (.bool (formedB c)) []:=by
 obtain ⟨K,X,A,C⟩:=c
 simp only at hX hA
 refine AcZ Tryz.func73 Tryz.call73 e_model_formed ?_
 simp +contextual -implicitDefEqProofs only [sm,c_model_formed,eCon,eIs,Nat.reduceAdd,Nat.reduceSub,Nat.reduceLeDiff,Nat.reduceLT,Nat.reduceEqDiff,Int.reduceLE,Int.reduceLT,Int.reduceEq,Int.reduceToNat,Int.reduceAdd,Int.reduceSub,Int.reduceMul,Int.reduceNeg,Int.reduceNe,reduceCtorEq,↓reduceIte]
 refine AaY (model_shapes K) (AaQ _) rfl ?_
 cases hk:kindB K
 · simp +contextual -implicitDefEqProofs only [sm,Nat.reduceAdd,Nat.reduceSub,Nat.reduceLeDiff,Nat.reduceLT,Nat.reduceEqDiff,Int.reduceLE,Int.reduceLT,Int.reduceEq,Int.reduceToNat,Int.reduceAdd,Int.reduceSub,Int.reduceMul,Int.reduceNeg,Int.reduceNe,reduceCtorEq,↓reduceIte,eShp]
   simp [formedB,hk]
 simp +contextual -implicitDefEqProofs only [sm,Nat.reduceAdd,Nat.reduceSub,Nat.reduceLeDiff,Nat.reduceLT,Nat.reduceEqDiff,Int.reduceLE,Int.reduceLT,Int.reduceEq,Int.reduceToNat,Int.reduceAdd,Int.reduceSub,Int.reduceMul,Int.reduceNeg,Int.reduceNe,reduceCtorEq,↓reduceIte,eShp]
 refine AaY (model_counts (shp K) X.length A.length (shp_x K) (by omega) (by omega)) (AaQ _) rfl ?_
 cases hc:countsB (shp K) X.length A.length
 · simp +contextual -implicitDefEqProofs only [sm,Nat.reduceAdd,Nat.reduceSub,Nat.reduceLeDiff,Nat.reduceLT,Nat.reduceEqDiff,Int.reduceLE,Int.reduceLT,Int.reduceEq,Int.reduceToNat,Int.reduceAdd,Int.reduceSub,Int.reduceMul,Int.reduceNeg,Int.reduceNe,reduceCtorEq,↓reduceIte,eShp]
   simp [formedB,hk,hc]
 by_cases h11:K=11
 · subst h11
   simp +contextual -implicitDefEqProofs only [sm,Nat.reduceAdd,Nat.reduceSub,Nat.reduceLeDiff,Nat.reduceLT,Nat.reduceEqDiff,Int.reduceLE,Int.reduceLT,Int.reduceEq,Int.reduceToNat,Int.reduceAdd,Int.reduceSub,Int.reduceMul,Int.reduceNeg,Int.reduceNe,reduceCtorEq,↓reduceIte]
   refine AaY (contains_ints A hA _ _ model_formed_1) (AaQ _) rfl ?_
   simp +contextual -implicitDefEqProofs only [sm,Nat.reduceAdd,Nat.reduceSub,Nat.reduceLeDiff,Nat.reduceLT,Nat.reduceEqDiff,Int.reduceLE,Int.reduceLT,Int.reduceEq,Int.reduceToNat,Int.reduceAdd,Int.reduceSub,Int.reduceMul,Int.reduceNeg,Int.reduceNe,reduceCtorEq,↓reduceIte]
   simp [formedB,hk,hc]
 by_cases h19:K=19
 · subst h19
   simp +contextual -implicitDefEqProofs only [sm,Nat.reduceAdd,Nat.reduceSub,Nat.reduceLeDiff,Nat.reduceLT,Nat.reduceEqDiff,Int.reduceLE,Int.reduceLT,Int.reduceEq,Int.reduceToNat,Int.reduceAdd,Int.reduceSub,Int.reduceMul,Int.reduceNeg,Int.reduceNe,reduceCtorEq,↓reduceIte]
   by_cases hC:0≤C
   · simp +contextual -implicitDefEqProofs only [sm,Nat.reduceAdd,Nat.reduceSub,Nat.reduceLeDiff,Nat.reduceLT,Nat.reduceEqDiff,Int.reduceLE,Int.reduceLT,Int.reduceEq,Int.reduceToNat,Int.reduceAdd,Int.reduceSub,Int.reduceMul,Int.reduceNeg,Int.reduceNe,reduceCtorEq,↓reduceIte,hC]
     refine AaY (contains_ints A hA _ _ model_formed_2) (AaQ _) rfl ?_
     simp +contextual -implicitDefEqProofs only [sm,Nat.reduceAdd,Nat.reduceSub,Nat.reduceLeDiff,Nat.reduceLT,Nat.reduceEqDiff,Int.reduceLE,Int.reduceLT,Int.reduceEq,Int.reduceToNat,Int.reduceAdd,Int.reduceSub,Int.reduceMul,Int.reduceNeg,Int.reduceNe,reduceCtorEq,↓reduceIte]
     simp [formedB,hk,hc,hC]
   · simp +contextual -implicitDefEqProofs only [sm,Nat.reduceAdd,Nat.reduceSub,Nat.reduceLeDiff,Nat.reduceLT,Nat.reduceEqDiff,Int.reduceLE,Int.reduceLT,Int.reduceEq,Int.reduceToNat,Int.reduceAdd,Int.reduceSub,Int.reduceMul,Int.reduceNeg,Int.reduceNe,reduceCtorEq,↓reduceIte,hC]
     simp [formedB,hk,hc,hC]
 simp +contextual -implicitDefEqProofs only [sm,Nat.reduceAdd,Nat.reduceSub,Nat.reduceLeDiff,Nat.reduceLT,Nat.reduceEqDiff,Int.reduceLE,Int.reduceLT,Int.reduceEq,Int.reduceToNat,Int.reduceAdd,Int.reduceSub,Int.reduceMul,Int.reduceNeg,Int.reduceNe,reduceCtorEq,↓reduceIte,h11,h19]
 simp [formedB,hk,hc,h11,h19]
end Go.Proofs.YtcmphhedaefcgaaGreatDoor
namespace Go.Proofs.YtcmphhedaefcgaaGreatDoor
open Av
attribute [local irreducible] awp AbX
set_option maxRecDepth 100000
set_option maxHeartbeats 4000000
end Go.Proofs.YtcmphhedaefcgaaGreatDoor
namespace Go.Proofs.YtcmphhedaefcgaaGreatDoor
open Av
attribute [local irreducible] awp AbX
set_option maxRecDepth 100000
set_option maxHeartbeats 4000000
end Go.Proofs.YtcmphhedaefcgaaGreatDoor
end
section
namespace Go.Proofs.YtcmphhedaefcgaaGreatDoor
open Av
attribute [local irreducible] awp AbX
def conS0 (x:It) (b:Bd):CA × Bd:=argsS (AlX x.name).1 1 x.vals (AlX x.name).2 ([],[],0) b
def conC (x:It) (b:Bd):Con:=((AlX x.name).1,(conS0 x b).1.1,(conS0 x b).1.2.1,(conS0 x b).1.2.2)
def conS1 (x:It) (b:Bd):Bd :=
 postS (conC x b) (AbQ (decide ((conS0 x b).1.1.length≤32)) 3 (AbQ (formedB (conC x b)) 2 (conS0 x b).2))
def conS (x:It) (b:Bd):Bd :=
 if AuY (decide ((AlX x.name).1≠0)) 10 b=true then AbQ (decide ((AlX x.name).1≠0)) 10 b
 else if AuY (fitsM x.vals (AlX x.name).2) 9 (AbQ (decide ((AlX x.name).1≠0)) 10 b)=true then AbQ (fitsM x.vals (AlX x.name).2) 9 (AbQ (decide ((AlX x.name).1≠0)) 10 b)
 else conS1 x (AbQ (fitsM x.vals (AlX x.name).2) 9 (AbQ (decide ((AlX x.name).1≠0)) 10 b))
def unStep (out:List Rg) (r:Rg):List Rg:=match out.getLast? with
 | none=>[r]
 | some p=>if r.1≤IntKind.i64.wrap (p.2+1) then out.dropLast++[(p.1,max p.2 r.2)] else out++[r]
theorem un_nil (r:Rg):unStep [] r=[r]:=rfl
theorem un_snoc (pre:List Rg) (p r:Rg):unStep (pre++[p]) r=if r.1≤IntKind.i64.wrap (p.2+1) then pre++[(p.1,max p.2 r.2)] else (pre++[p])++[r]:=by
 unfold unStep
 simp
def unK (l:List Rg) (k:Nat):List Rg:=(l.take k).foldl unStep []
theorem unK_step {l:List Rg} {k:Nat} {r:Rg} (h:l[k]? = some r):unK l (k+1)=unStep (unK l k) r:=by
 unfold unK
 rw [List.take_add_one,h,List.foldl_append];rfl
theorem unK_len {l:List Rg}:∀ k,k≤l.length→(unK l k).length≤k
 | 0,_=>by simp [unK]
 |
  k+1,hk=>by
  have h1:=unK_len (l:=l) k (by omega)
  have hr:l[k]? = some l[k]:=List.getElem?_eq_getElem (by omega)
  rw [unK_step hr]
  rcases List.eq_nil_or_concat (unK l k) with e | ⟨pre,p,e⟩
  · rw [e,un_nil];simp
  · try rw [List.concat_eq_append] at e
    rw [e,List.length_append] at h1
    simp only [List.length_cons,List.length_nil] at h1
    rw [e,un_snoc]
    split <;> simp <;> omega
def unionS (l:List Rg):List Rg:=unK (sortV l) (sortV l).length
def domsF:List Rg→Bd→Bd
 | [],b=>b
 | r::l,b=>domsF l (AbQ (decide (r.1≤r.2) && wB r.1 && wB r.2) 2 b)
def decD (x:It):List Rg:=if x.bool=true then [(0,1)] else unionS x.dom
def AoX (x:It) (b:Bd):Th × Bd :=
 match x.vals with
 | []=>(⟨2,x.bool,[],[(BcZ (decD x) (domsF x.dom b)).1]⟩,(BcZ (decD x) (domsF x.dom b)).2)
 | v::_=>(⟨2,x.bool,[],[(BcZ (decD x) (domsF x.dom b)).1]⟩,
  postS (15,[(BcZ (decD x) (domsF x.dom b)).1,(varS v x.bool (BcZ (decD x) (domsF x.dom b)).2).1],[],0) (varS v x.bool (BcZ (decD x) (domsF x.dom b)).2).2)
def valsF:List Ex→Bd→Bd
 | [],b=>b
 | v::l,b=>valsF l (AbQ (decide (v.k≠1) || wB v.n) 2 b)
def listS1 (x:It) (b:Bd):Bd:=valsF x.vals (AbQ (decide (x.size=(x.vals.length:Int))) 2 b)
def listS (x:It) (b:Bd):Th × Bd :=
 if x.kind=3 then (⟨x.kind,x.bool,(AyY x.vals x.bool (listS1 x b)).1,[]⟩,(AyY x.vals x.bool (listS1 x b)).2)
 else (⟨x.kind,x.bool,[],(varsS x.vals x.bool (listS1 x b)).1⟩,(varsS x.vals x.bool (listS1 x b)).2)
def AuX (x:It) (b:Bd):Bd:={ b with sv:=true,ask:=x.ask }
def goalB (x:It) (b:Bd):Bd :=
 if x.ask=0 then AuX x b
 else if lookR x.name (AuX x b)=false then AqX x.name (AuX x b)
 else if AuY (decide ((thOf x.name b).kind=2) && !(thOf x.name b).truth) 9 (AqX x.name (AuX x b))=true then AbQ (decide ((thOf x.name b).kind=2) && !(thOf x.name b).truth) 9 (AqX x.name (AuX x b))
 else { AbQ (decide ((thOf x.name b).kind=2) && !(thOf x.name b).truth) 9 (AqX x.name (AuX x b)) with goal:=head0 (thOf x.name b).x }
def BlZ (x:It) (t:Th) (b:Bd):Bd:={ b with kn:=putB x.name t b.kn }
def nameS (x:It) (t:Th) (b:Bd):Bd :=
 if x.out=false then BlZ x t b
 else if AuY (decide (b.O.length<64)) 3 (BlZ x t b)=true then AbQ (decide (b.O.length<64)) 3 (BlZ x t b)
 else { AbQ (decide (b.O.length<64)) 3 (BlZ x t b) with O:=b.O++[⟨x.name,x.bool,decide (x.kind=4),t.x⟩] }
def numOf (x:It):Int:=match x.vals with
 | v::_=>v.n
 | []=>0
def itemK (x:It) (b:Bd):Bd :=
 if x.kind=1 then nameS x ⟨1,x.bool,[numOf x],[]⟩ (AbQ (wB (numOf x)) 2 b)
 else if x.kind=2 then nameS x (AoX x b).1 (AoX x b).2
 else if x.kind=3∨x.kind=4 then nameS x (listS x b).1 (listS x b).2
 else if x.kind=5 then conS x b
 else if x.kind=6 then goalB x b
 else b
def itemB1 (x:It) (b:Bd):Bd:=AbQ (AdX x) 2 b
def twoB (x:It) (b:Bd):Bool:=!(isOf x.name b) || decide (4<x.kind)
def itemB2 (x:It) (b:Bd):Bd:=AbQ (twoB x b) 8 (itemB1 x b)
def itemB3 (x:It) (b:Bd):Bd:=AbQ (!b.sv) 5 (itemB2 x b)
def itemB (x:It) (b:Bd):Bd :=
 if AuY (AdX x) 2 b=true then itemB1 x b
 else if AuY (twoB x b) 8 (itemB1 x b)=true then itemB2 x b
 else if AuY (!b.sv) 5 (itemB2 x b)=true then itemB3 x b
 else itemK x (itemB3 x b)
def buildF:List It→Int→Bd→Bd × Int × Int
 | [],k,b=>if b.sv=true then (b,0,0) else (bd0,k,11)
 | x::l,k,b=>if (itemB x b).e=0 then buildF l (k+1) (itemB x b) else (bd0,k,(itemB x b).e)
def buildS (l:List It):Bd × Int × Int:=buildF l 0 bd0
end Go.Proofs.YtcmphhedaefcgaaGreatDoor
end
section
namespace Go.Proofs
open Go.Shelf
def Tryz.lays169_ren:Go.Shelf.Ren:=⟨fun | 169=>16 | n=>n,fun | 70=>63 | 9=>9 | 0=>0 | 72=>66 | 37=>64 | 127=>105 | 3=>3 | 5=>5 | n=>n,fun | n=>n⟩
theorem Tryz.lays169:Go.Proofs.Lays.n169 Tryz.prog Tryz.lays169_ren:={
 mixed:=by kernel_rfl
 f169:=Tryz.func16.trans (congrArg some (by kernel_rfl))
 t0:=Tryz.underlying0
 a0:=Tryz.isAgg0
 z0:=Tryz.sizeOf0
 v0:=Tryz.zeroValue0
 t3:=Tryz.underlying3
 a3:=Tryz.isAgg3
 z3:=Tryz.sizeOf3
 v3:=Tryz.zeroValue3
 t9:=Tryz.underlying9
 a9:=Tryz.isAgg9
 z9:=Tryz.sizeOf9
 v9:=Tryz.zeroValue9
 t37:=Tryz.underlying64
 a37:=Tryz.isAgg64
 z37:=Tryz.sizeOf64
 v37:=Tryz.zeroValue64
 t70:=Tryz.underlying63
 a70:=Tryz.isAgg63
 z70:=Tryz.sizeOf63
 v70:=Tryz.zeroValue63
 t72:=Tryz.underlying66
 a72:=Tryz.isAgg66
 z72:=Tryz.sizeOf66
 v72:=Tryz.zeroValue66
 t127:=Tryz.underlying105
 a127:=Tryz.isAgg105
 z127:=Tryz.sizeOf105
 v127:=Tryz.zeroValue105 }
theorem Tryz.Builder_Extra_169:Builder.Extra Tryz.prog Tryz.lays169_ren:={
 sizeBuilder:=by kernel_rfl
 liesBuilder:=by kernel_rfl
 t5:=Tryz.underlying5
 a5:=Tryz.isAgg5
 z5:=Tryz.sizeOf5
 v5:=Tryz.zeroValue5
 infoByte:=by kernel_rfl
 cellsByte:=by kernel_rfl
 sizeByte:=by kernel_rfl
 neB5:=by decide }
def Tryz.lays156_ren:Go.Shelf.Ren:=⟨fun | 156=>131 | 165=>146 | 166=>13 | 169=>16 | 240=>35 | 241=>154 | 276=>80 | 277=>160 | n=>n,fun | 31=>120 | 9=>9 | 3=>3 | 4=>4 | 0=>0 | 20=>20 | 72=>66 | 76=>70 | 70=>63 | 37=>64 | 75=>69 | 127=>105 | 164=>139 | 5=>5 | 80=>73 | n=>n,fun | n=>n⟩
theorem Tryz.lays156:Go.Proofs.Lays.n156 Tryz.prog Tryz.lays156_ren:={
 mixed:=by kernel_rfl
 f156:=Tryz.func131.trans (congrArg some (by kernel_rfl))
 f165:=Tryz.func146.trans (congrArg some (by kernel_rfl))
 f166:=Tryz.func13.trans (congrArg some (by kernel_rfl))
 f169:=Tryz.func16.trans (congrArg some (by kernel_rfl))
 f240:=Tryz.func35.trans (congrArg some (by kernel_rfl))
 f241:=Tryz.func154.trans (congrArg some (by kernel_rfl))
 f276:=Tryz.func80.trans (congrArg some (by kernel_rfl))
 f277:=Tryz.func160.trans (congrArg some (by kernel_rfl))
 t0:=Tryz.underlying0
 a0:=Tryz.isAgg0
 z0:=Tryz.sizeOf0
 v0:=Tryz.zeroValue0
 t3:=Tryz.underlying3
 a3:=Tryz.isAgg3
 z3:=Tryz.sizeOf3
 v3:=Tryz.zeroValue3
 t4:=Tryz.underlying4
 a4:=Tryz.isAgg4
 z4:=Tryz.sizeOf4
 v4:=Tryz.zeroValue4
 t9:=Tryz.underlying9
 a9:=Tryz.isAgg9
 z9:=Tryz.sizeOf9
 v9:=Tryz.zeroValue9
 t20:=Tryz.underlying20
 a20:=Tryz.isAgg20
 z20:=Tryz.sizeOf20
 v20:=Tryz.zeroValue20
 t31:=Tryz.underlying120
 a31:=Tryz.isAgg120
 z31:=Tryz.sizeOf120
 v31:=Tryz.zeroValue120
 t37:=Tryz.underlying64
 a37:=Tryz.isAgg64
 z37:=Tryz.sizeOf64
 v37:=Tryz.zeroValue64
 t70:=Tryz.underlying63
 a70:=Tryz.isAgg63
 z70:=Tryz.sizeOf63
 v70:=Tryz.zeroValue63
 t72:=Tryz.underlying66
 a72:=Tryz.isAgg66
 z72:=Tryz.sizeOf66
 v72:=Tryz.zeroValue66
 t75:=Tryz.underlying69
 a75:=Tryz.isAgg69
 z75:=Tryz.sizeOf69
 v75:=Tryz.zeroValue69
 t76:=Tryz.underlying70
 a76:=Tryz.isAgg70
 z76:=Tryz.sizeOf70
 v76:=Tryz.zeroValue70
 t127:=Tryz.underlying105
 a127:=Tryz.isAgg105
 z127:=Tryz.sizeOf105
 v127:=Tryz.zeroValue105
 t164:=Tryz.underlying139
 a164:=Tryz.isAgg139
 z164:=Tryz.sizeOf139
 v164:=Tryz.zeroValue139 }
theorem Tryz.Builder_Extra_156:Builder.Extra Tryz.prog Tryz.lays156_ren:={
 sizeBuilder:=by kernel_rfl
 liesBuilder:=by kernel_rfl
 t5:=Tryz.underlying5
 a5:=Tryz.isAgg5
 z5:=Tryz.sizeOf5
 v5:=Tryz.zeroValue5
 infoByte:=by kernel_rfl
 cellsByte:=by kernel_rfl
 sizeByte:=by kernel_rfl
 neB5:=by decide }
open Go.RowKit in
theorem Tryz.strings_Join_none (a:Option Addr) (c:Nat) (sep:ByteArray) (w:World) :
 Calls Tryz.prog 131 #[.slice a 0 c,.string sep] w fun e w'=>e=.returned (.string ⟨#[]⟩)∧w'=w:=Any.strings_Join_none Tryz.lays156 Tryz.Builder_Extra_156 a c sep w
open Go.RowKit in
theorem Tryz.strings_Join (bk o c:Nat) (xs:List ByteArray) (sep:ByteArray) (w:World) (hcells:∀ (j:Nat) x,xs[j]? = some x→w.cell? ⟨bk,o+j,none⟩=some (.string x)) (hbk:bk<w.heap.size) (hN:xs.length≤140737488355328) (hcap:xs.length≤c) (hlen:(Lib.join (xs.map (·.data.toList)) sep.data.toList).length≤140737488355328) :
 Calls Tryz.prog 131 #[.slice (some ⟨bk,o,none⟩) xs.length c,.string sep] w fun e w'=>e=.returned (.string ⟨(Lib.join (xs.map (·.data.toList)) sep.data.toList).toArray⟩)∧Below w.heap.size w w':=Any.strings_Join Tryz.lays156 Tryz.Builder_Extra_156 bk o c xs sep w hcells hbk hN hcap hlen
def Tryz.lays137_ren:Go.Shelf.Ren:=⟨fun | 137=>40 | 217=>82 | 266=>117 | n=>n,fun | 9=>9 | 5=>5 | 3=>3 | n=>n,fun | n=>n⟩
theorem Tryz.lays137:Go.Proofs.Lays.n137 Tryz.prog Tryz.lays137_ren:={
 mixed:=by kernel_rfl
 f137:=Tryz.func40.trans (congrArg some (by kernel_rfl))
 f217:=Tryz.func82.trans (congrArg some (by kernel_rfl))
 f266:=Tryz.func117.trans (congrArg some (by kernel_rfl))
 t3:=Tryz.underlying3
 a3:=Tryz.isAgg3
 z3:=Tryz.sizeOf3
 v3:=Tryz.zeroValue3
 t5:=Tryz.underlying5
 a5:=Tryz.isAgg5
 z5:=Tryz.sizeOf5
 v5:=Tryz.zeroValue5
 t9:=Tryz.underlying9
 a9:=Tryz.isAgg9
 z9:=Tryz.sizeOf9
 v9:=Tryz.zeroValue9 }
open Go.RowKit in
theorem Tryz.strings_IndexByte (s:ByteArray) (c:Int) (w:World) :
 Calls Tryz.prog 40 #[.string s,.int .u8 c] w fun e w'=>e=.returned (.int .i64 (Lib.indexByte s.data.toList c.toNat.toUInt8))∧w'=w:=Any.strings_IndexByte Tryz.lays137 s c w
open Go.RowKit in
theorem Tryz.Builder_String_any_k (B b:Nat) (l:List UInt8) (w:World) (h:Lib.IsBuilderF 66 5 B b (Lib.byteCells l) w) (hBw:B≤w.heap.size) :
 Calls Tryz.prog 16 #[.pointer (some ⟨b,0,none⟩)] w fun e w'=>e=.returned (.string ⟨l.toArray⟩)∧(Lib.IsBuilderF 66 5 B b (Lib.byteCells l) w'∧Below B w w'∧Lib.OthersKept 5 (some b) w w'):=Any.Builder_String_any_k Tryz.lays169 Tryz.Builder_Extra_169 B b l w h hBw
def Tryz.laysM173_ren:Go.Shelf.Ren:=⟨fun | 173=>132 | 246=>147 | 283=>155 | 284=>156 | 285=>157 | 286=>158 | 129=>144 | 317=>161 | 318=>162 | 319=>163 | 320=>164 | 337=>165 | 338=>166 | n=>n,fun | 2=>2 | 3=>3 | 9=>9 | 4=>4 | 171=>213 | 0=>0 | 53=>143 | 37=>64 | 5=>5 | 173=>215 | 212=>223 | 51=>183 | 20=>20 | 213=>224 | 46=>146 | 232=>226 | 233=>227 | n=>n,fun | 17=>3 | 18=>4 | 19=>5 | n=>n⟩
theorem Tryz.laysM173:Go.Proofs.LaysM.n173 Tryz.prog Tryz.laysM173_ren:={
 mixed:=by kernel_rfl
 f129:=Tryz.func144.trans (congrArg some (by kernel_rfl))
 f173:=Tryz.func132.trans (congrArg some (by kernel_rfl))
 f246:=Tryz.func147.trans (congrArg some (by kernel_rfl))
 f283:=Tryz.func155.trans (congrArg some (by kernel_rfl))
 f284:=Tryz.func156.trans (congrArg some (by kernel_rfl))
 f285:=Tryz.func157.trans (congrArg some (by kernel_rfl))
 f286:=Tryz.func158.trans (congrArg some (by kernel_rfl))
 f317:=Tryz.func161.trans (congrArg some (by kernel_rfl))
 f318:=Tryz.func162.trans (congrArg some (by kernel_rfl))
 f319:=Tryz.func163.trans (congrArg some (by kernel_rfl))
 f320:=Tryz.func164.trans (congrArg some (by kernel_rfl))
 f337:=Tryz.func165.trans (congrArg some (by kernel_rfl))
 f338:=Tryz.func166.trans (congrArg some (by kernel_rfl))
 t0:=Tryz.underlying0
 a0:=Tryz.isAgg0
 z0:=Tryz.sizeOf0
 v0:=Tryz.zeroValue0
 t2:=Tryz.underlying2
 a2:=Tryz.isAgg2
 z2:=Tryz.sizeOf2
 v2:=Tryz.zeroValue2
 t3:=Tryz.underlying3
 a3:=Tryz.isAgg3
 z3:=Tryz.sizeOf3
 v3:=Tryz.zeroValue3
 t4:=Tryz.underlying4
 a4:=Tryz.isAgg4
 z4:=Tryz.sizeOf4
 v4:=Tryz.zeroValue4
 t5:=Tryz.underlying5
 a5:=Tryz.isAgg5
 z5:=Tryz.sizeOf5
 v5:=Tryz.zeroValue5
 t9:=Tryz.underlying9
 a9:=Tryz.isAgg9
 z9:=Tryz.sizeOf9
 v9:=Tryz.zeroValue9
 t20:=Tryz.underlying20
 a20:=Tryz.isAgg20
 z20:=Tryz.sizeOf20
 v20:=Tryz.zeroValue20
 t37:=Tryz.underlying64
 a37:=Tryz.isAgg64
 z37:=Tryz.sizeOf64
 v37:=Tryz.zeroValue64
 t46:=Tryz.underlying146
 a46:=Tryz.isAgg146
 z46:=Tryz.sizeOf146
 v46:=Tryz.zeroValue146
 t51:=Tryz.underlying183
 a51:=Tryz.isAgg183
 z51:=Tryz.sizeOf183
 v51:=Tryz.zeroValue183
 t53:=Tryz.underlying143
 a53:=Tryz.isAgg143
 z53:=Tryz.sizeOf143
 v53:=Tryz.zeroValue143
 t171:=Tryz.underlying213
 a171:=Tryz.isAgg213
 z171:=Tryz.sizeOf213
 v171:=Tryz.zeroValue213
 t173:=Tryz.underlying215
 a173:=Tryz.isAgg215
 z173:=Tryz.sizeOf215
 v173:=Tryz.zeroValue215
 t212:=Tryz.underlying223
 a212:=Tryz.isAgg223
 z212:=Tryz.sizeOf223
 v212:=Tryz.zeroValue223
 t213:=Tryz.underlying224
 a213:=Tryz.isAgg224
 z213:=Tryz.sizeOf224
 t232:=Tryz.underlying226
 a232:=Tryz.isAgg226
 z232:=Tryz.sizeOf226
 v232:=Tryz.zeroValue226
 t233:=Tryz.underlying227
 a233:=Tryz.isAgg227
 z233:=Tryz.sizeOf227
 v233:=Tryz.zeroValue227
 g17:=by kernel_rfl
 g18:=by kernel_rfl
 g19:=by kernel_rfl
 i0:=by kernel_rfl
 i2:=by kernel_rfl
 i3:=by kernel_rfl
 i4:=by kernel_rfl
 i5:=by kernel_rfl
 i9:=by kernel_rfl
 i20:=by kernel_rfl
 i37:=by kernel_rfl
 i46:=by kernel_rfl
 i51:=by kernel_rfl
 i53:=by kernel_rfl
 i171:=by kernel_rfl
 i173:=by kernel_rfl
 i212:=by kernel_rfl
 i232:=by kernel_rfl
 i233:=by kernel_rfl
 m17:=by kernel_rfl
 m18:=by kernel_rfl
 m19:=by kernel_rfl }
open Go.RowKit Go.Sort Go.Lib in
theorem Tryz.strconv_FormatInt_10 (n : Int) (h0 : -9223372036854775808 ≤ n) (h1 : n ≤ 9223372036854775807) (w : World) (htab : Lib.TabIs Tryz.prog w "internal/strconv.uint64pow10" .u64 Lib.pow10Tab) :
 Calls Tryz.prog 132 #[.int .i64 n,.int .i64 10] w fun e w'=>e=.returned (.string ⟨(Lib.itoa n).toArray⟩)∧∃ k os,w'=grow (w.drewN k) os:=Any.strconv_FormatInt_10 Tryz.laysM173 n h0 h1 w htab
def Tryz.laysC174_ren:Go.Shelf.Ren:=⟨fun | 174=>21 | 247=>47 | 245=>48 | 287=>85 | 279=>86 | 280=>87 | 281=>88 | 282=>89 | 321=>118 | 322=>119 | 316=>120 | 171=>122 | 205=>121 | 243=>133 | 246=>147 | 283=>155 | 284=>156 | 285=>157 | 286=>158 | 129=>144 | 317=>161 | 318=>162 | 319=>163 | 320=>164 | 337=>165 | 338=>166 | n=>n,fun | 9=>9 | 3=>3 | 2=>2 | 75=>69 | 85=>86 | 4=>4 | 167=>142 | 5=>5 | 53=>143 | 175=>144 | 46=>146 | 168=>147 | 37=>64 | 0=>0 | 210=>176 | 21=>21 | 127=>105 | 145=>193 | 143=>191 | 171=>213 | 173=>215 | 212=>223 | 51=>183 | 20=>20 | 213=>224 | 232=>226 | 233=>227 | 80=>73 | n=>n,fun | 15=>0 | 16=>1 | 17=>3 | 18=>4 | 19=>5 | n=>n⟩
theorem Tryz.laysC174:Go.Proofs.LaysC.n174 Tryz.prog Tryz.laysC174_ren:={
 mixed:=by kernel_rfl
 f129:=Tryz.func144.trans (congrArg some (by kernel_rfl))
 f171:=Tryz.func122.trans (congrArg some (by kernel_rfl))
 f174:=Tryz.func21.trans (congrArg some (by kernel_rfl))
 f205:=Tryz.func121.trans (congrArg some (by kernel_rfl))
 f243:=Tryz.func133.trans (congrArg some (by kernel_rfl))
 f245:=Tryz.func48.trans (congrArg some (by kernel_rfl))
 f246:=Tryz.func147.trans (congrArg some (by kernel_rfl))
 f247:=Tryz.func47.trans (congrArg some (by kernel_rfl))
 f279:=Tryz.func86.trans (congrArg some (by kernel_rfl))
 f280:=Tryz.func87.trans (congrArg some (by kernel_rfl))
 f281:=Tryz.func88.trans (congrArg some (by kernel_rfl))
 f282:=Tryz.func89.trans (congrArg some (by kernel_rfl))
 f283:=Tryz.func155.trans (congrArg some (by kernel_rfl))
 f284:=Tryz.func156.trans (congrArg some (by kernel_rfl))
 f285:=Tryz.func157.trans (congrArg some (by kernel_rfl))
 f286:=Tryz.func158.trans (congrArg some (by kernel_rfl))
 f287:=Tryz.func85.trans (congrArg some (by kernel_rfl))
 f316:=Tryz.func120.trans (congrArg some (by kernel_rfl))
 f317:=Tryz.func161.trans (congrArg some (by kernel_rfl))
 f318:=Tryz.func162.trans (congrArg some (by kernel_rfl))
 f319:=Tryz.func163.trans (congrArg some (by kernel_rfl))
 f320:=Tryz.func164.trans (congrArg some (by kernel_rfl))
 f321:=Tryz.func118.trans (congrArg some (by kernel_rfl))
 f322:=Tryz.func119.trans (congrArg some (by kernel_rfl))
 f337:=Tryz.func165.trans (congrArg some (by kernel_rfl))
 f338:=Tryz.func166.trans (congrArg some (by kernel_rfl))
 t0:=Tryz.underlying0
 a0:=Tryz.isAgg0
 z0:=Tryz.sizeOf0
 v0:=Tryz.zeroValue0
 t2:=Tryz.underlying2
 a2:=Tryz.isAgg2
 z2:=Tryz.sizeOf2
 v2:=Tryz.zeroValue2
 t3:=Tryz.underlying3
 a3:=Tryz.isAgg3
 z3:=Tryz.sizeOf3
 v3:=Tryz.zeroValue3
 t4:=Tryz.underlying4
 a4:=Tryz.isAgg4
 z4:=Tryz.sizeOf4
 v4:=Tryz.zeroValue4
 t5:=Tryz.underlying5
 a5:=Tryz.isAgg5
 z5:=Tryz.sizeOf5
 v5:=Tryz.zeroValue5
 t9:=Tryz.underlying9
 a9:=Tryz.isAgg9
 z9:=Tryz.sizeOf9
 v9:=Tryz.zeroValue9
 t20:=Tryz.underlying20
 a20:=Tryz.isAgg20
 z20:=Tryz.sizeOf20
 v20:=Tryz.zeroValue20
 t21:=Tryz.underlying21
 a21:=Tryz.isAgg21
 z21:=Tryz.sizeOf21
 v21:=Tryz.zeroValue21
 t37:=Tryz.underlying64
 a37:=Tryz.isAgg64
 z37:=Tryz.sizeOf64
 v37:=Tryz.zeroValue64
 t46:=Tryz.underlying146
 a46:=Tryz.isAgg146
 z46:=Tryz.sizeOf146
 v46:=Tryz.zeroValue146
 t51:=Tryz.underlying183
 a51:=Tryz.isAgg183
 z51:=Tryz.sizeOf183
 v51:=Tryz.zeroValue183
 t53:=Tryz.underlying143
 a53:=Tryz.isAgg143
 z53:=Tryz.sizeOf143
 v53:=Tryz.zeroValue143
 t75:=Tryz.underlying69
 a75:=Tryz.isAgg69
 z75:=Tryz.sizeOf69
 v75:=Tryz.zeroValue69
 t85:=Tryz.underlying86
 a85:=Tryz.isAgg86
 z85:=Tryz.sizeOf86
 v85:=Tryz.zeroValue86
 t127:=Tryz.underlying105
 a127:=Tryz.isAgg105
 z127:=Tryz.sizeOf105
 v127:=Tryz.zeroValue105
 t143:=Tryz.underlying191
 a143:=Tryz.isAgg191
 z143:=Tryz.sizeOf191
 v143:=Tryz.zeroValue191
 t145:=Tryz.underlying193
 a145:=Tryz.isAgg193
 z145:=Tryz.sizeOf193
 v145:=Tryz.zeroValue193
 t167:=Tryz.underlying142
 a167:=Tryz.isAgg142
 z167:=Tryz.sizeOf142
 v167:=Tryz.zeroValue142
 t168:=Tryz.underlying147
 a168:=Tryz.isAgg147
 z168:=Tryz.sizeOf147
 v168:=Tryz.zeroValue147
 t171:=Tryz.underlying213
 a171:=Tryz.isAgg213
 z171:=Tryz.sizeOf213
 v171:=Tryz.zeroValue213
 t173:=Tryz.underlying215
 a173:=Tryz.isAgg215
 z173:=Tryz.sizeOf215
 v173:=Tryz.zeroValue215
 t175:=Tryz.underlying144
 a175:=Tryz.isAgg144
 z175:=Tryz.sizeOf144
 v175:=Tryz.zeroValue144
 t210:=Tryz.underlying176
 a210:=Tryz.isAgg176
 z210:=Tryz.sizeOf176
 v210:=Tryz.zeroValue176
 t212:=Tryz.underlying223
 a212:=Tryz.isAgg223
 z212:=Tryz.sizeOf223
 v212:=Tryz.zeroValue223
 t213:=Tryz.underlying224
 a213:=Tryz.isAgg224
 z213:=Tryz.sizeOf224
 t232:=Tryz.underlying226
 a232:=Tryz.isAgg226
 z232:=Tryz.sizeOf226
 v232:=Tryz.zeroValue226
 t233:=Tryz.underlying227
 a233:=Tryz.isAgg227
 z233:=Tryz.sizeOf227
 v233:=Tryz.zeroValue227
 g15:=by kernel_rfl
 g16:=by kernel_rfl
 g17:=by kernel_rfl
 g18:=by kernel_rfl
 g19:=by kernel_rfl
 t80:=Tryz.underlying73
 a80:=Tryz.isAgg73
 z80:=Tryz.sizeOf73
 v80:=Tryz.zeroValue73
 i0:=by kernel_rfl
 i2:=by kernel_rfl
 i3:=by kernel_rfl
 i4:=by kernel_rfl
 i5:=by kernel_rfl
 i9:=by kernel_rfl
 i20:=by kernel_rfl
 i21:=by kernel_rfl
 i37:=by kernel_rfl
 i46:=by kernel_rfl
 i51:=by kernel_rfl
 i53:=by kernel_rfl
 i75:=by kernel_rfl
 i80:=by kernel_rfl
 i85:=by kernel_rfl
 i127:=by kernel_rfl
 i143:=by kernel_rfl
 i145:=by kernel_rfl
 i167:=by kernel_rfl
 i168:=by kernel_rfl
 i171:=by kernel_rfl
 i173:=by kernel_rfl
 i175:=by kernel_rfl
 i210:=by kernel_rfl
 i212:=by kernel_rfl
 i232:=by kernel_rfl
 i233:=by kernel_rfl
 m15:=by kernel_rfl
 m16:=by kernel_rfl
 m17:=by kernel_rfl
 m18:=by kernel_rfl
 m19:=by kernel_rfl
 c0:=by kernel_rfl
 c2:=by kernel_rfl
 c3:=by kernel_rfl
 c4:=by kernel_rfl
 c5:=by kernel_rfl
 c9:=by kernel_rfl
 c20:=by kernel_rfl
 c21:=by kernel_rfl
 c37:=by kernel_rfl
 c46:=by kernel_rfl
 c51:=by kernel_rfl
 c53:=by kernel_rfl
 c75:=by kernel_rfl
 c80:=by kernel_rfl
 c85:=by kernel_rfl
 c127:=by kernel_rfl
 c143:=by kernel_rfl
 c145:=by kernel_rfl
 c167:=by kernel_rfl
 c168:=by kernel_rfl
 c171:=by kernel_rfl
 c173:=by kernel_rfl
 c175:=by kernel_rfl
 c210:=by kernel_rfl
 c212:=by kernel_rfl
 c213:=by kernel_rfl
 c232:=by kernel_rfl
 c233:=by kernel_rfl }
open Go.RowKit in
theorem Tryz.strconv_ParseInt_10_at64_ok (s:ByteArray) (hmax:s.size≤9223372036854775806) (v:Int) (h:Lib.parseIntB 64 s.data.toList=.ok v) (w:World) :
 Calls Tryz.prog 21 #[.string s,.int .i64 10,.int .i64 64] w fun e w'=>e=.returned (.tuple #[.int .i64 v,.nilIface])∧(w'=w∨∃ t,w'=Lib.bytesWorld w 5 t):=Any.strconv_ParseInt_10_at64_ok Tryz.laysC174 s hmax v h w
open Go.RowKit in
theorem Tryz.strconv_ParseInt_10_at64_syntax_var (s : ByteArray) (hlim : s.size ≤ 281474976710656) (h : Lib.parseIntB 64 s.data.toList = Lib.parseIntB 64 []) (tp : TypeId) (p : Value) (w : World) (hvar : w.var? Tryz.prog "strconv.ErrSyntax" = some #[.iface tp p]) :
 Calls Tryz.prog 21 #[.string s,.int .i64 10,.int .i64 64] w fun e w'=>∃ N,e=.returned (.tuple #[.int .i64 (0),.iface 147 (.pointer (some ⟨N,0,none⟩))])∧w.heap.size≤N∧w'.heap[N]? = some (.cells #[.string ⟨#[80,97,114,115,101,73,110,116]⟩,.string s,.iface tp p] 176 (0,0))∧Below w.heap.size w w':=Any.strconv_ParseInt_10_at64_syntax_var Tryz.laysC174 s hlim h tp p w hvar
open Go.RowKit in
theorem Tryz.strconv_ParseInt_10_at64_range_var (s : ByteArray) (hlim : s.size ≤ 281474976710656) (h : Lib.parseIntB 64 s.data.toList = .range) (tp : TypeId) (p : Value) (w : World) (hvar : w.var? Tryz.prog "strconv.ErrRange" = some #[.iface tp p]) :
 Calls Tryz.prog 21 #[.string s,.int .i64 10,.int .i64 64] w fun e w'=>∃ N,e=.returned (.tuple #[.int .i64 (Lib.intSat 64 s.data.toList),.iface 147 (.pointer (some ⟨N,0,none⟩))])∧w.heap.size≤N∧w'.heap[N]? = some (.cells #[.string ⟨#[80,97,114,115,101,73,110,116]⟩,.string s,.iface tp p] 176 (0,0))∧Below w.heap.size w w':=Any.strconv_ParseInt_10_at64_range_var Tryz.laysC174 s hlim h tp p w hvar
def Tryz.lays99_ren:Go.Shelf.Ren:=⟨fun | 99=>46 | 206=>84 | n=>n,fun | 9=>9 | 4=>4 | 3=>3 | n=>n,fun | n=>n⟩
theorem Tryz.lays99:Go.Proofs.Lays.n99 Tryz.prog Tryz.lays99_ren:={
 mixed:=by kernel_rfl
 f99:=Tryz.func46.trans (congrArg some (by kernel_rfl))
 f206:=Tryz.func84.trans (congrArg some (by kernel_rfl))
 t3:=Tryz.underlying3
 a3:=Tryz.isAgg3
 z3:=Tryz.sizeOf3
 v3:=Tryz.zeroValue3
 t4:=Tryz.underlying4
 a4:=Tryz.isAgg4
 z4:=Tryz.sizeOf4
 v4:=Tryz.zeroValue4
 t9:=Tryz.underlying9
 a9:=Tryz.isAgg9
 z9:=Tryz.sizeOf9
 v9:=Tryz.zeroValue9 }
open Go.RowKit Go.Lib in
theorem Tryz.strings_HasPrefix (s p:ByteArray) (w:World) :
 Calls Tryz.prog 46 #[.string s,.string p] w fun e w'=>e=.returned (.bool (Lib.hasPrefix s.data.toList p.data.toList))∧w'=w:=Any.strings_HasPrefix Tryz.lays99 s p w
end Go.Proofs
end
section
namespace Go.Proofs.YtcmphhedaefcgaaGreatDoor
open Av
attribute [local irreducible] awp AbX
theorem ctr_frz {P:Program} {f:FuncId} {args args':List AV} {bs bs':Bx} {r:AV} (keep ks:List Nat) (hc:Ctr P f args' (AfY ks bs) r bs') (hl:args'.length=args.length) (hcov:∀ k,k<bs.length→k∈keep∨k∈ks)
 (ha:∀ (i:Nat) v v',args[i]? = some v→args'[i]? = some v'→wk v' v∨wk v' (view 8 (AfY keep bs) v)):Ctr P f args bs r bs':=by
 refine ⟨hc.1,?_⟩
 intro w0 pr fz pl w cs hS hcs hA
 have S1:=hS.kills ks
 obtain ⟨S2,le⟩:=S1.frzAll
 refine (hc.2 w0 pr _ pl w cs S2 (by rw [hl];exact hcs) ?_).mono ?_
 · intro i v' c hv' hc'
   obtain ⟨v,hv⟩:∃ v,args[i]? = some v:=by
    have:i<args'.length:=by
     rcases Nat.lt_or_ge i args'.length with h | h
     · exact h
     · rw [List.getElem?_eq_none h] at hv';cases hv'
    exact ⟨_,List.getElem?_eq_getElem (by omega)⟩
   have hr:=hA i v c hv hc'
   rcases ha i v v' hv hv' with h | h
   · exact Rep.wk _ _ _ (hr.mono le (List.prefix_refl _)) h
   · refine Rep.wk _ _ _ (.frz (view_sound (hS.kills keep) le ?_ 8 v c hr)) h
     intro k x b n hk hpl
     obtain ⟨hk1,hk2⟩:=killL_get hk
     unfold frzAll
     rw [if_neg]
     · simp only [(AtX hS hk1 hpl).2.1]
     · rintro ⟨j,y,n',hj,hpj⟩
       obtain ⟨hj1,hj2⟩:=killL_get hj
       have:=hS.inj k j x y b n n' hk1 hj1 hpl hpj
       subst this
       rcases hcov k (AoY hk1) with h | h
       · exact hk2 h
       · exact hj2 h
 · rintro e w' ⟨cv,fz',pl',h1,h2,h3⟩
   exact ⟨cv,fz',pl',h1,le.trans h2,h3⟩
end Go.Proofs.YtcmphhedaefcgaaGreatDoor
end
section
namespace Go.Proofs.YtcmphhedaefcgaaGreatDoor
open Av
attribute [local irreducible] awp AbX
open Go.RowKit
theorem sim_lt {w0:World} {pr fz:Fz} {pl:Pl} {bx:Bx} {w:World} (h:Sim w0 pr fz pl bx w) {k:Nat} {o:Obj} (e:fz k=some o):k<w.heap.size:=(Array.getElem?_eq_some_iff.1 (h.frz k o e)).1
theorem sim_below {w0:World} {pr fz:Fz} {pl:Pl} {w w':World} (h:Sim w0 pr fz pl [] w) (hb:Below w.heap.size w w'):Sim w0 pr fz pl [] w' :=
 ⟨h.lay,hb.os.trans h.os,hb.tape.trans h.tape,hb.output.trans h.output,Nat.le_trans h.size hb.size,fun k o e=>by rw [hb.block k (sim_lt h e)];exact h.frz k o e,fun k o e=>by
  have:=(Array.getElem?_eq_some_iff.1 (h.prt k o e)).1
  rw [hb.block k this];exact h.prt k o e,h.dis,h.len,(fun k sz es h=>by rw [AlZ] at h;cases h),(fun k k' x y b n n' h=>by rw [AlZ] at h;cases h)⟩
def grdA (fz:Fz) (w:World):Fz:=fun k=>match fz k with
 | some _=>none
 | none=>w.heap[k]?
theorem sim_grdA {w0:World} {pr fz:Fz} {pl:Pl} {w:World} (h:Sim w0 pr fz pl [] w):Sim w (grdA fz w) fz [] [] w :=
 ⟨h.lay,rfl,rfl,rfl,Nat.le_refl _,h.frz,fun k o e=>by
  unfold grdA at e
  split at e
  · cases e
  · exact e,fun k o e=>by unfold grdA;rw [e],rfl,(fun k sz es h=>by rw [AlZ] at h;cases h),(fun k k' x y b n n' h=>by rw [AlZ] at h;cases h)⟩
theorem below_grdA {fz fz':Fz} {pl':Pl} {bx:Bx} {w w':World} (hf:∀ k o,fz k=some o→w.heap[k]? = some o) (hle:FzLe fz fz') (h:Sim w (grdA fz w) fz' pl' bx w'):Below w.heap.size w w' :=
 ⟨h.os,h.tape,h.output,h.size,fun k hk=>by
  obtain ⟨o,ho⟩:∃ o,w.heap[k]? = some o:=⟨_,Array.getElem?_eq_getElem hk⟩
  rw [ho]
  cases hz:fz k with
  |
   some o' =>
   have h1:=hf k o' hz
   rw [ho] at h1
   injection h1 with h1
   subst h1
   exact h.frz k o (hle k o hz)
  |
   none =>
   refine h.prt k o ?_
   unfold grdA
   rw [hz];exact ho⟩
theorem ctr_two {P:Program} {f:FuncId} {a b:AV} {t:Bool} (h:Ctr P f [a,b] [] (.bool t) []) {w0:World} {pr fz:Fz} {pl:Pl} {w:World} (hS:Sim w0 pr fz pl [] w) {va vb:Value} (ra:RepF fz a va) (rb:RepF fz b vb) :
 Calls P f #[va,vb] w (fun e w'=>e=.returned (.bool t)∧Below w.heap.size w w'):=by
 refine (h.2 w (grdA fz w) fz [] w #[va,vb] (sim_grdA hS) rfl ?_).mono ?_
 · intro i v c hi hc
   match i,hi,hc with
   | 0,hi,hc=>injection hi with hi;injection hc with hc;subst hi;subst hc;exact .frz ra
   | 1,hi,hc=>injection hi with hi;injection hc with hc;subst hi;subst hc;exact .frz rb
 · rintro e w' ⟨cv,fz',pl',rfl,h1,-,h2,h3⟩
   rw [h2.inv_bool]
   exact ⟨rfl,below_grdA hS.frz h1 h3⟩
theorem list_at {fz:Fz} {sz:Nat} {L:List AV} {c:Value} (h:RepF fz (.list sz L) c) {j:Nat} {x:AV} (hx:L[j]? = some x) :
 ∃ b off cap o,c=.slice (some ⟨b,off,none⟩) L.length cap∧fz b=some o∧j<L.length∧∀ (W:World),W.heap[b]? = some o→∀ (t:Nat) (v:AV),x.cells[t]? = some v→∃ u,W.cell? ⟨b,off+(j * sz+t),none⟩=some u∧RepF fz v u∧u.oneCell'=true:=by
 cases h with
 |
  list _ _ b off arr ty fr n cp hb hn hc hs hlen h1 h2 =>
  refine ⟨b,off,cp,_,by rw [hn],hb,(List.getElem?_eq_some_iff.1 hx).1,fun W hw t v hv=>?_⟩
  have hg:=flat_get hs hx hv
  have hlt:=(List.getElem?_eq_some_iff.1 hg).1
  obtain ⟨u,hu⟩:∃ u,arr[off+(j * sz+t)]? = some u:=⟨_,Array.getElem?_eq_getElem (by omega)⟩
  refine ⟨u,?_,h2 _ _ _ hg hu,h1 _ _ _ hg hu⟩
  simp [World.cell?,hw,hu]
 | list0 _ ao cap=>cases hx
theorem rF_int {fz:Fz} {k:IntKind} {n:Int} {c:Value} (h:RepF fz (.int k n) c):c=.int k n:=by cases h;rfl
theorem rF_bool {fz:Fz} {n:Bool} {c:Value} (h:RepF fz (.bool n) c):c=.bool n:=by cases h;rfl
theorem rF_str {fz:Fz} {n:ByteArray} {c:Value} (h:RepF fz (.str n) c):c=.string n:=by cases h;rfl
theorem rF_agg {fz:Fz} {l:List AV} {c:Value} (h:RepF fz (.agg l) c):∃ cs,c=.agg cs∧l.length=cs.size∧(∀ (i:Nat) x,cs[i]? = some x→x.oneCell'=true)∧(∀ (i:Nat) v x,l[i]? = some v→cs[i]? = some x→RepF fz v x):=by
 cases h with | agg l cs hl h1 h=>exact ⟨cs,rfl,hl,h1,h⟩
theorem ctr_by {P:Program} {f:FuncId} {args:List AV} {t:Bool} (hcf:∀ (xs:Array Value) (w:World),(callFunc f xs).run P w=.ok (.enter f xs) w)
 (h:∀ (fz:Fz) (w0:World) (pr:Fz) (w:World) (cs:Array Value),Sim w0 pr fz [] [] w→args.length=cs.size→(∀ (i:Nat) v c,args[i]? = some v→cs[i]? = some c→Rep fz [] v c)→Calls P f cs w fun e w'=>e=.returned (.bool t)∧Below w.heap.size w w'):Ctr P f args [] (.bool t) []:=by
 refine ⟨hcf,fun w0 pr fz pl w cs hS hl hr=>?_⟩
 have hp:pl=[]:=List.eq_nil_of_length_eq_zero hS.len
 subst hp
 refine (h fz w0 pr w cs hS hl hr).mono ?_
 rintro e w' ⟨rfl,hb⟩
 exact ⟨_,fz,[],rfl,.refl _,List.prefix_refl _,.frz (.bool t),sim_below hS hb⟩
end Go.Proofs.YtcmphhedaefcgaaGreatDoor
end
section
namespace Go.Proofs.YtcmphhedaefcgaaGreatDoor
open Av
attribute [local irreducible] awp AbX
def wd (t:Tok):Tok:=⟨t.k,t.t,t.v,0⟩
def wdK (s:Bs):Tok:=⟨1,s,0,0⟩
def wdN (v:Int):Tok:=⟨2,Lib.itoa v,v,0⟩
def wdS (s:Bs):Tok:=⟨3,s,0,0⟩
def nw:Bs→Bool
 | []=>true
 | c::_=>!AzQ c
inductive LexR:Bs→List Tok→Prop
 | nil:LexR [] []
 | blank (c:UInt8) (y:Bs) (d:List Tok):AsY c=true→LexR y d→LexR (c::y) d
 | tok (c:UInt8) (x y:Bs) (k v:Int) (d:List Tok):ApY (c::x++y)=(k,y)→k≠0→AsY c=false→¬ (c.toNat:Int)=37→(k=2→Lib.parseIntB 64 (c::x)=.ok v)→(k≠2→v=0)→LexR y d→LexR (c::x++y) (⟨k,c::x,v,0⟩::d)
theorem blankR_cons (c:UInt8) (y:Bs) (h:AsY c=true):AnZ (c::y)=AnZ y:=by
 have e:(c::y).dropWhile AsY=y.dropWhile AsY:=List.dropWhile_cons_of_pos h
 cases hy:y.dropWhile AsY with
 | nil=>rw [blankR_nil (e.trans hy),blankR_nil hy]
 |
  cons d r =>
  by_cases hd:(d.toNat:Int)=37
  · rw [blankR_row (e.trans hy) hd,blankR_row hy hd]
  · rw [blankR_end (e.trans hy) hd,blankR_end hy hd]
theorem lexF_cons (s:Bs) (f n:Nat) (c:UInt8) (t:Bs):lexF s (f+1) n (c::t)=(if n=4096 then .error 3
 else if (ApY (c::t)).1=0 then .error 5
 else if (ApY (c::t)).1=2 then
  match Lib.parseIntB 64 ((c::t).take ((c::t).length-(ApY (c::t)).2.length)) with
  | .ok v=>(lexF s f (n+1) (AnZ (ApY (c::t)).2)).map (⟨2,(c::t).take ((c::t).length-(ApY (c::t)).2.length),v,posR s (c::t)⟩::·)
  | _=>.error 4
 else (lexF s f (n+1) (AnZ (ApY (c::t)).2)).map (⟨(ApY (c::t)).1,(c::t).take ((c::t).length-(ApY (c::t)).2.length),0,posR s (c::t)⟩::·)):=rfl
theorem lexF_nil (s:Bs) (f n:Nat):lexF s f n []=.ok []:=by cases f <;> rfl
theorem lexR_lexF (s:Bs) {x:Bs} {d:List Tok} (h:LexR x d):∀ (f n:Nat),x.length<f→n+d.length≤4096→∃ ts,lexF s f n (AnZ x)=.ok ts∧ts.map wd=d:=by
 induction h with
 | nil=>intro f n _ _;rw [blankR_nil rfl,lexF_nil];exact ⟨[],rfl,rfl⟩
 |
  blank c y d hc _ ih =>
  intro f n hf hn
  rw [blankR_cons c y hc]
  exact ih f n (by simp only [List.length_cons] at hf;omega) hn
 |
  tok c x y k v d hw hk hb h37 h2 hn2 _ ih =>
  intro f n hf hn
  have e:(c::x++y).dropWhile AsY=c::(x++y):=by rw [List.cons_append,List.dropWhile_cons_of_neg (by rw [hb];exact Bool.false_ne_true)]
  rw [blankR_end e h37]
  cases f with
  | zero=>omega
  |
   succ f =>
   simp only [List.length_append,List.length_cons] at hf hn
   obtain ⟨ts,t1,t2⟩:=ih f (n+1) (by omega) (by omega)
   rw [List.cons_append] at hw
   rw [lexF_cons,if_neg (by omega),hw]
   have et:(c::(x++y)).take ((c::(x++y)).length-y.length)=c::x:=by
    have:(c::(x++y)).length-y.length=(c::x).length:=by simp only [List.length_cons,List.length_append];omega
    rw [this,← List.cons_append,List.take_left]
   rw [if_neg hk]
   simp only [et]
   by_cases hk2:k=2
   · rw [if_pos hk2,h2 hk2,t1]
     exact ⟨_,rfl,by rw [List.map_cons,t2];simp only [wd,hk2]⟩
   · rw [if_neg hk2,t1]
     exact ⟨_,rfl,by rw [List.map_cons,t2];simp only [wd,hn2 hk2]⟩
theorem lexR_lexS {x:Bs} {d:List Tok} (h:LexR x d) (hx:x.length≤8192) (hd:d.length≤4096):∃ ts,lexS x=.ok ts∧ts.map wd=d:=by
 unfold lexS
 rw [if_neg (by omega)]
 exact lexR_lexF x h _ 0 (Nat.lt_succ_self _) (by omega)
theorem blank_cls (c:UInt8) (h:AsY c=true):clsB c=0∧(c.toNat:Int)≠45:=by
 unfold AsY at h
 simp only [List.contains_cons,List.contains_nil,Bool.or_false,Bool.or_eq_true,beq_iff_eq] at h
 rcases h with rfl | rfl | rfl | rfl <;> exact ⟨by decide,by decide⟩
theorem row_cls (c:UInt8) (h:(c.toNat:Int)=37):clsB c=0:=by
 have:c=37:=UInt8.toNat_inj.1 (by show c.toNat=37;omega)
 subst this;decide
def isWd:Bs→Bool
 | []=>false
 | c::r=>decide (clsB c=1) && r.all AzQ
theorem dropW_all (p:UInt8→Bool):∀ (x y:Bs),(∀ c∈x,p c=true)→(∀ c∈y.head?,p c=false)→(x++y).dropWhile p=y
 |
  [],y,_,hy=>by
  cases y with
  | nil=>rfl
  | cons c y=>rw [List.nil_append,List.dropWhile_cons_of_neg (by rw [hy c rfl];exact Bool.false_ne_true)]
 |
  c::x,y,hx,hy=>by
  rw [List.cons_append,List.dropWhile_cons_of_pos (hx c List.mem_cons_self)]
  exact dropW_all p x y (fun d hd=>hx d (List.mem_cons_of_mem _ hd)) hy
theorem nw_head {y:Bs} (h:nw y=true):∀ c∈y.head?,AzQ c=false:=by
 intro c hc
 cases y with
 | nil=>cases hc
 | cons d y=>injection hc with hc;subst hc;unfold nw at h;simpa using h
theorem word_dig (c:UInt8) (h:AzQ c=false):BuZ c=false:=by
 unfold AzQ at h;unfold BuZ
 rw [Bool.or_eq_false_iff] at h;exact h.2
theorem ApX (s y:Bs) (d:List Tok) (hs:isWd s=true) (hy:nw y=true) (h:LexR y d):LexR (s++y) (wdK s::d):=by
 cases s with
 | nil=>cases hs
 |
  cons c r =>
  unfold isWd at hs
  rw [Bool.and_eq_true,decide_eq_true_eq,List.all_eq_true] at hs
  obtain ⟨h1,h2⟩:=hs
  have hc:AzQ c=true:=by unfold AzQ;rw [decide_eq_true h1];rfl
  refine LexR.tok c r y 1 0 d ?_ (by decide) ?_ ?_ (fun k=>absurd k (by decide)) (fun _=>rfl) h
  · rw [List.cons_append,AsQ,if_pos h1,← List.cons_append]
    rw [dropW_all AzQ (c::r) y (fun e he=>by
     rcases List.mem_cons.1 he with rfl | he
     · exact hc
     · exact h2 e he) (nw_head hy)]
  · cases hb:AsY c with
    | false=>rfl
    | true=>rw [(blank_cls c hb).1] at h1;exact absurd h1 (by decide)
  · intro h37;rw [row_cls c h37] at h1;exact absurd h1 (by decide)
theorem dig_cls:∀ k:Fin 10,clsB (UInt8.ofNat (48+k.val))=2∧(UInt8.ofNat (48+k.val)).toNat=48+k.val:=by decide
theorem dig_cls' {k:Nat} (h:k<10):clsB (UInt8.ofNat (48+k))=2∧(UInt8.ofNat (48+k)).toNat=48+k:=dig_cls ⟨k,h⟩
theorem dec_all (u:Nat):∀ c∈Lib.decDigits u,clsB c=2:=by
 induction u using Nat.strongRecOn with
 |
  _ u ih =>
  intro c hc
  rw [Lib.decDigits] at hc
  split at hc
  · rename_i h
    rw [List.mem_singleton] at hc;subst hc;exact (dig_cls' h).1
  · rename_i h
    rcases List.mem_append.1 hc with hc | hc
    · exact ih (u / 10) (by omega) c hc
    · rw [List.mem_singleton] at hc;subst hc;exact (dig_cls' (Nat.mod_lt _ (by omega))).1
theorem dec_ne (u:Nat):Lib.decDigits u≠[]:=by
 intro h
 have:=Lib.decDigits_length u
 have h2:=Lib.nDigits_pos u
 rw [h] at this
 simp only [List.length_nil] at this;omega
theorem uint_dec (u:Nat):∀ (b:Bs),u≤2 ^ 64-1→Lib.parseUintM (2 ^ 64-1) 0 (Lib.decDigits u++b)=Lib.parseUintM (2 ^ 64-1) u b:=by
 induction u using Nat.strongRecOn with
 |
  _ u ih =>
  intro b hu
  rw [Lib.decDigits]
  split
  · rename_i h
    obtain ⟨h1,h2⟩:=dig_cls' h
    rw [List.cons_append,List.nil_append,Lib.parseUintM,h2,if_pos (by omega),if_neg (by omega),if_neg (by omega)]
    congr 1;omega
  · rename_i h
    obtain ⟨h1,h2⟩:=dig_cls' (k:=u % 10) (Nat.mod_lt _ (by omega))
    rw [List.append_assoc,ih (u / 10) (by omega) _ (by omega),List.cons_append,List.nil_append,Lib.parseUintM,h2,if_pos (by omega),if_neg (by omega),if_neg (by omega)]
    congr 1;omega
theorem uint_dec' (u:Nat) (hu:u≤2 ^ 64-1):Lib.parseUintB 64 (Lib.decDigits u)=.ok u:=by
 unfold Lib.parseUintB
 rw [if_neg (dec_ne u)]
 have:=uint_dec u [] hu
 rw [List.append_nil] at this
 rw [this];rfl
theorem int_dec (n:Int) (h:BcY n):Lib.parseIntB 64 (Lib.itoa n)=.ok n:=by
 obtain ⟨h1,h2⟩:=h
 by_cases hn:n<0
 · have e:Lib.itoa n=45::Lib.decDigits n.natAbs:=by unfold Lib.itoa;rw [if_pos hn]
   have e45:(45:UInt8).toNat=45:=rfl
   rw [e]
   unfold Lib.parseIntB
   simp only [e45,Nat.reduceEqDiff,or_true,if_true,uint_dec' n.natAbs (by omega)]
   rw [if_neg (by simp),if_neg (by omega)]
   congr 1;omega
 · have e:Lib.itoa n=Lib.decDigits n.toNat:=by unfold Lib.itoa;rw [if_neg hn]
   rw [e]
   have hall:=dec_all n.toNat
   have hu:=uint_dec' n.toNat (by omega)
   cases hd:Lib.decDigits n.toNat with
   | nil=>exact absurd hd (dec_ne _)
   |
    cons c r =>
    rw [hd] at hall hu
    have hc:=hall c List.mem_cons_self
    have h43:c.toNat≠43:=fun h=>by
     have:c=43:=UInt8.toNat_inj.1 h
     subst this;exact absurd hc (by decide)
    have h45:c.toNat≠45:=fun h=>by
     have:c=45:=UInt8.toNat_inj.1 h
     subst this;exact absurd hc (by decide)
    unfold Lib.parseIntB
    simp only [h43,h45,false_or,if_false,hu]
    rw [if_neg (by omega),if_neg (by simp)]
    congr 1;omega
theorem dig_blank (c:UInt8) (h:clsB c=2):AsY c=false∧¬ (c.toNat:Int)=37:=by
 constructor
 · cases hb:AsY c with
   | false=>rfl
   | true=>rw [(blank_cls c hb).1] at h;exact absurd h (by decide)
 · intro h37;rw [row_cls c h37] at h;exact absurd h (by decide)
theorem lx_num (n:Int) (y:Bs) (d:List Tok) (hn:BcY n) (hy:nw y=true) (h:LexR y d):LexR (Lib.itoa n++y) (wdN n::d):=by
 have hp:=int_dec n hn
 have hyd:∀ c∈y.head?,BuZ c=false:=fun c hc=>word_dig c (nw_head hy c hc)
 by_cases hneg:n<0
 · have e:Lib.itoa n=45::Lib.decDigits n.natAbs:=by unfold Lib.itoa;rw [if_pos hneg]
   unfold wdN
   rw [e] at hp ⊢
   have hall:=dec_all n.natAbs
   refine LexR.tok 45 (Lib.decDigits n.natAbs) y 2 n d ?_ (by decide) (by decide) (by decide) (fun _=>hp) (fun h=>absurd rfl h) h
   rw [List.cons_append,AsQ,if_neg (by decide),if_neg (by decide),if_pos]
   · rw [dropW_all BuZ _ y (fun c hc=>by unfold BuZ;exact decide_eq_true (hall c hc)) hyd]
   · refine ⟨by decide,?_⟩
     cases hd:Lib.decDigits n.natAbs with
     | nil=>exact absurd hd (dec_ne _)
     |
      cons c r =>
      rw [hd] at hall
      exact decide_eq_true (hall c List.mem_cons_self)
 · have e:Lib.itoa n=Lib.decDigits n.toNat:=by unfold Lib.itoa;rw [if_neg hneg]
   unfold wdN
   rw [e] at hp ⊢
   have hall:=dec_all n.toNat
   cases hd:Lib.decDigits n.toNat with
   | nil=>exact absurd hd (dec_ne _)
   |
    cons c r =>
    rw [hd] at hall hp
    have hc:=hall c List.mem_cons_self
    refine LexR.tok c r y 2 n d ?_ (by decide) (dig_blank c hc).1 (dig_blank c hc).2 (fun _=>hp) (fun h=>absurd rfl h) h
    rw [List.cons_append,AsQ,if_neg (by rw [hc];decide),if_pos hc,← List.cons_append]
    rw [dropW_all BuZ (c::r) y (fun c hc=>by unfold BuZ;exact decide_eq_true (hall c hc)) hyd]
theorem hp_iff (s p:Bs):Lib.hasPrefix s p=true↔p <+: s:=by unfold Lib.hasPrefix;exact List.isPrefixOf_iff_prefix
def isSg (c:UInt8):Bool:=([123,125,91,93,40,41,44,59,61]:Bs).contains c
theorem AsX (c:UInt8) (y:Bs) (d:List Tok) (hc:isSg c=true) (h:LexR y d):LexR (c::y) (wdS [c]::d):=by
 have key:clsB c=3∧AsY c=false∧¬ (c.toNat:Int)=37∧¬ (c.toNat:Int)=45∧c≠58∧c≠46:=by
  unfold isSg at hc
  simp only [List.contains_cons,List.contains_nil,Bool.or_false,Bool.or_eq_true,beq_iff_eq] at hc
  rcases hc with rfl | rfl | rfl | rfl | rfl | rfl | rfl | rfl | rfl <;> decide
 obtain ⟨k1,k2,k3,k4,k5,k6⟩:=key
 refine LexR.tok c [] y 3 0 d ?_ (by decide) k2 k3 (fun k=>absurd k (by decide)) (fun _=>rfl) h
 rw [List.cons_append,List.nil_append,AsQ,if_neg (by rw [k1];decide),if_neg (by rw [k1];decide),if_neg (fun h=>k4 h.1),if_neg,if_pos k1]
 intro h
 rcases h with h | h
 · have:=(hp_iff _ _).1 h
   simp at this;exact k5 this.1.symm
 · have:=(hp_iff _ _).1 h
   simp at this;exact k6 this.1.symm
theorem AkX (c:UInt8) (y:Bs) (d:List Tok) (hc:AsY c=true) (h:LexR y d):LexR (c::y) d:=.blank c y d hc h
theorem lx_colon (y:Bs) (d:List Tok) (h:LexR y d):LexR (58::32::y) (wdS [58]::d):=by
 refine LexR.tok 58 [] (32::y) 3 0 d ?_ (by decide) (by decide) (by decide) (by decide) (fun _=>rfl) (AkX 32 y d (by decide) h)
 rw [List.cons_append,List.nil_append,AsQ,if_neg (by decide),if_neg (by decide),if_neg (fun h=>absurd h.1 (by decide)),if_neg,if_pos (by decide)]
 intro h
 rcases h with h | h
 · have:=(hp_iff _ _).1 h
   simp at this
 · have:=(hp_iff _ _).1 h
   simp at this
theorem lx_colons (y:Bs) (d:List Tok) (h:LexR y d):LexR (58::58::y) (wdS [58,58]::d):=by
 refine LexR.tok 58 [58] y 3 0 d ?_ (by decide) (by decide) (by decide) (by decide) (fun _=>rfl) h
 rw [List.cons_append,AsQ,if_neg (by decide),if_neg (by decide),if_neg (fun h=>absurd h.1 (by decide)),if_pos]
 · rfl
 · exact .inl ((hp_iff _ _).2 ⟨y,rfl⟩)
theorem lx_dots (y:Bs) (d:List Tok) (h:LexR y d):LexR (46::46::y) (wdS [46,46]::d):=by
 refine LexR.tok 46 [46] y 3 0 d ?_ (by decide) (by decide) (by decide) (by decide) (fun _=>rfl) h
 rw [List.cons_append,AsQ,if_neg (by decide),if_neg (by decide),if_neg (fun h=>absurd h.1 (by decide)),if_pos]
 · rfl
 · exact .inr ((hp_iff _ _).2 ⟨y,rfl⟩)
end Go.Proofs.YtcmphhedaefcgaaGreatDoor
end
section
namespace Go.Proofs.YtcmphhedaefcgaaGreatDoor
open Av
attribute [local irreducible] awp AbX
abbrev wds (l:List Tok):List Tok:=l.map wd
def mapP {α:Type}:PR α→PR α
 | .ok (a,l)=>.ok (a,wds l)
 | .error e=>.error e
theorem AvX (l:List Tok):(wds l).tail=wds l.tail:=by cases l <;> rfl
theorem AtZ (s:Bs) (l:List Tok):isW s (wds l)=isW s l:=by cases l <;> rfl
theorem wrong_wds (l:List Tok):wrongE (wds l)=wrongE l:=by cases l <;> rfl
theorem kind_wds (l:List Tok):BeQ (wds l)=BeQ l:=by cases l <;> rfl
theorem may_wds (s:Bs) (l:List Tok):mayR s (wds l)=wds (mayR s l):=by unfold mayR;rw [AtZ];split;exact AvX l;rfl
theorem AhZ {α β:Type} {x y:PR α} {f g:α→List Tok→PR β} (hx:y=mapP x) (h:∀ a l,g a (wds l)=mapP (f a l)):andP y g=mapP (andP x f):=by
 subst hx
 cases x with
 | ok p=>obtain ⟨a,l⟩:=p;exact h a l
 | error e=>rfl
theorem ArY {α:Type} {c d:Prop} [Decidable c] [Decidable d] {x y x' y':PR α} (hc:c↔d) (hx:x'=mapP x) (hy:y'=mapP y):(if c then x' else y')=mapP (if d then x else y):=by
 by_cases h:d
 · rw [if_pos h,if_pos (hc.2 h),hx]
 · rw [if_neg h,if_neg (fun k=>h (hc.1 k)),hy]
theorem AvY:∀ (ss:List Bs) (l:List Tok),AeQ ss (wds l)=mapP (AeQ ss l)
 | [],l=>rfl
 | s::ss,l=>ArY (by rw [AtZ]) (by rw [AvX];exact AvY ss l.tail) (by rw [wrong_wds];rfl)
theorem name_wds (l:List Tok):BiQ (wds l)=mapP (BiQ l):=by
 cases l with
 | nil=>rfl
 | cons t l=>exact ArY (by rw [← kind_wds (t::l)];rfl) rfl rfl
theorem num_wds (l:List Tok):numP (wds l)=mapP (numP l):=by
 cases l with
 | nil=>rfl
 | cons t l=>exact ArY (by rw [← kind_wds (t::l)];rfl) rfl rfl
theorem exact_wds (n:Int) (l:List Tok):BmY n (wds l)=mapP (BmY n l):=by
 cases l with
 | nil=>rfl
 | cons t l=>exact ArY (by rw [← kind_wds (t::l)];exact Iff.rfl) rfl rfl
theorem plain_wds (l:List Tok):AjQ (wds l)=mapP (AjQ l):=by
 cases l with
 | nil=>rfl
 |
  cons t l =>
  exact ArY (by rw [← kind_wds (t::l)];rfl) rfl (ArY (by rw [← kind_wds (t::l)];rfl) rfl (ArY Iff.rfl rfl (ArY Iff.rfl rfl rfl)))
theorem exprsF_wds {α:Type} (one:List Tok→PR α) (e:Bs) (h1:∀ l,one (wds l)=mapP (one l)):∀ (k:Nat) (l:List Tok),BmX one e k (wds l)=mapP (BmX one e k l)
 | 0,_=>rfl
 | k+1,l=>AhZ (h1 l) fun x l1=>ArY (by rw [AtZ]) (by rw [AvX];rfl) (AhZ (AvY _ _) fun _ l2=>AhZ (exprsF_wds one e h1 k l2) fun r l3=>rfl)
theorem exprs_wds {α:Type} (one:List Tok→PR α) (e:Bs) (h1:∀ l,one (wds l)=mapP (one l)) (l:List Tok):BdY one e (wds l)=mapP (BdY one e l) :=
 ArY (by rw [AtZ]) (by rw [AvX];rfl) (exprsF_wds one e h1 64 l)
theorem expr_wds (l:List Tok):exprP (wds l)=mapP (exprP l) :=
 ArY (by rw [AtZ]) (AhZ (by rw [AvX];exact exprs_wds AjQ [93] plain_wds l.tail) fun r l1=>rfl) (AhZ (plain_wds l) fun p l1=>rfl)
theorem set_wds:∀ (k:Nat) (l:List Tok),setF k (wds l)=mapP (setF k l)
 | 0,_=>rfl
 | k+1,l=>AhZ (num_wds l) fun x l1=>ArY (by rw [AtZ]) (by rw [AvX];rfl) (AhZ (AvY _ _) fun _ l2=>AhZ (set_wds k l2) fun r l3=>rfl)
theorem dom_wds (l:List Tok):domP (wds l)=mapP (domP l) :=
 ArY (by rw [AtZ]) (by rw [AvX];rfl) (ArY (by rw [AtZ]) (AhZ (by rw [AvX];exact set_wds 256 l.tail) fun r l1=>rfl) (AhZ (num_wds l) fun lo l1=>AhZ (AvY _ _) fun _ l2=>AhZ (num_wds l2) fun hi l3=>rfl))
theorem out_wds (l:List Tok):outP (wds l)=mapP (outP l) :=
 ArY (by rw [AtZ]) (AhZ (by rw [AvX];exact AvY _ _) fun _ l1=>rfl) rfl
theorem init_wds (l:List Tok):initP (wds l)=mapP (initP l) :=
 ArY (by rw [AtZ]) (AhZ (by rw [AvX];exact plain_wds _) fun _ l1=>rfl) rfl
theorem variable_wds (l:List Tok):BgZ (wds l)=mapP (BgZ l) :=
 AhZ (dom_wds l) fun d l1=>AhZ (AvY _ _) fun _ l2=>AhZ (name_wds _) fun n l3=>AhZ (out_wds _) fun o l4=>AhZ (init_wds _) fun v l5=>rfl
theorem truth_wds (l:List Tok):truthP (wds l)=mapP (truthP l) :=
 ArY (by rw [AtZ]) (by rw [AvX];rfl) (AhZ (AvY _ _) fun _ l1=>rfl)
theorem outA_wds (v:Bool) (size:Int) (l:List Tok):outAP v size (wds l)=mapP (outAP v size l) :=
 ArY (by rw [AtZ]) (AhZ (by rw [AvX];exact AvY _ _) fun _ l1=>AhZ (exact_wds _ _) fun _ l2=>AhZ (AvY _ _) fun _ l3=>AhZ (exact_wds _ _) fun _ l4=>AhZ (AvY _ _) fun _ l5=>rfl) rfl
theorem array_wds (l:List Tok):arrayP (wds l)=mapP (arrayP l) :=
 AhZ (AvY _ _) fun _ l1=>AhZ (exact_wds _ _) fun _ l2=>AhZ (AvY _ _) fun _ l3=>AhZ (num_wds _) fun size l4=>AhZ (AvY _ _) fun _ l5 =>
  AhZ (by rw [may_wds];exact truth_wds _) fun b l6=>AhZ (AvY _ _) fun _ l7=>AhZ (name_wds _) fun n l8=>AhZ (by rw [AtZ];exact outA_wds _ _ _) fun o l9 =>
   AhZ (AvY _ _) fun _ l10=>AhZ (exprs_wds AjQ [93] plain_wds _) fun v l11=>by rw [AtZ];rfl
theorem par_wds (l:List Tok):parP (wds l)=mapP (parP l) :=
 AhZ (truth_wds l) fun b l1=>AhZ (AvY _ _) fun _ l2=>AhZ (name_wds _) fun n l3=>AhZ (AvY _ _) fun _ l4 =>
  ArY (by rw [AtZ,AtZ,kind_wds]) (by rw [wrong_wds];rfl) (AhZ (plain_wds _) fun p l5=>rfl)
theorem goal_wds (l:List Tok):goalP (wds l)=mapP (goalP l) :=
 ArY (by rw [AtZ]) (by rw [AvX];rfl) (ArY (by rw [AtZ]) (AhZ (by rw [AvX];exact name_wds _) fun n l1=>rfl) (ArY (by rw [AtZ]) (AhZ (by rw [AvX];exact name_wds _) fun n l1=>rfl) (by rw [wrong_wds];rfl)))
theorem item_wds (l:List Tok):itemP (wds l)=mapP (itemP l) :=
 ArY (by rw [AtZ,AtZ]) (par_wds l) (ArY (by rw [AtZ]) (by rw [AvX];exact variable_wds _) (ArY (by rw [AtZ]) (by rw [AvX];exact array_wds _) (ArY (by rw [AtZ])
  (AhZ (by rw [AvX];exact name_wds _) fun n l1=>AhZ (AvY _ _) fun _ l2=>AhZ (exprs_wds exprP [41] expr_wds _) fun v l3=>rfl)
  (ArY (by rw [AtZ]) (by rw [AvX];exact goal_wds _) (by rw [wrong_wds];rfl)))))
theorem all_wds:∀ (k:Nat) (l:List Tok),allF k (wds l)=allF k l
 | k,[]=>by cases k <;> rfl
 | 0,t::l=>rfl
 |
  k+1,t::l=>by
  have h:(andP (itemP (wds (t::l))) fun x l1=>andP (AeQ [[59]] l1) fun _ l2=>.ok (x,l2))=mapP (andP (itemP (t::l)) fun x l1=>andP (AeQ [[59]] l1) fun _ l2=>.ok (x,l2)) :=
   AhZ (item_wds _) fun x l1=>AhZ (AvY _ _) fun _ l2=>rfl
  have e1:allF (k+1) (wds (t::l))=match andP (itemP (wds (t::l))) fun x l1=>andP (AeQ [[59]] l1) fun _ l2=>.ok (x,l2) with
   | .ok (x,l2)=>(allF k l2).map (x::·)
   | .error e=>.error e:=rfl
  have e2:allF (k+1) (t::l)=match andP (itemP (t::l)) fun x l1=>andP (AeQ [[59]] l1) fun _ l2=>.ok (x,l2) with
   | .ok (x,l2)=>(allF k l2).map (x::·)
   | .error e=>.error e:=rfl
  rw [e1,e2,h]
  cases (andP (itemP (t::l)) fun x l1=>andP (AeQ [[59]] l1) fun _ l2=>(.ok (x,l2):PR It)) with
  | ok p=>obtain ⟨x,l2⟩:=p;show (allF k (wds l2)).map _=_;rw [all_wds k l2]
  | error e=>rfl
theorem parse_lexR {x:Bs} {d:List Tok} (h:LexR x d) (hx:x.length≤8192) (hd:d.length≤4096):BtZ x=allF 512 d∧errE (lexS x)=0:=by
 obtain ⟨ts,t1,t2⟩:=lexR_lexS h hx hd
 unfold BtZ
 rw [t1]
 refine ⟨?_,rfl⟩
 rw [← t2]
 exact (all_wds 512 ts).symm
end Go.Proofs.YtcmphhedaefcgaaGreatDoor
end
section
namespace Go.Proofs.YtcmphhedaefcgaaGreatDoor
open Av
attribute [local irreducible] awp AbX
def TokOk (t:Tok):Prop:=1≤t.t.length∧(t.k=1→isWd t.t=true)∧(t.k=2→Lib.parseIntB 64 t.t=.ok t.v)
def ToksOk (l:List Tok):Prop:=∀ t∈l,TokOk t
theorem ToksOk.tail {t:Tok} {l:List Tok} (h:ToksOk (t::l)):ToksOk l:=fun x hx=>h x (List.mem_cons_of_mem _ hx)
theorem ToksOk.head {t:Tok} {l:List Tok} (h:ToksOk (t::l)):TokOk t:=h t List.mem_cons_self
def lenW:List Tok→Nat
 | []=>0
 | t::l=>t.t.length+lenW l
theorem BuY (t:Tok) (l:List Tok):lenW (t::l)=t.t.length+lenW l:=rfl
theorem nDig_le {u k:Nat} (hk:1≤k) (h:u<10 ^ k):Lib.nDigits u≤k:=by
 induction k generalizing u with
 | zero=>omega
 |
  succ k ih =>
  by_cases h10:u<10
  · rw [Lib.nDigits_small h10];omega
  · rw [Lib.nDigits_big h10]
    have:1≤k:=by
     cases k with
     | zero=>omega
     | succ k=>omega
    have:=ih (u:=u / 10) this (by rw [Nat.pow_succ] at h;omega)
    omega
theorem uintM_lt (M:Nat):∀ (r:Bs) (acc u:Nat),Lib.parseUintM M acc r=.ok u→u<(acc+1) * 10 ^ r.length∧(r≠[]→u≤M)
 | [],acc,u,h=>by injection h with h;subst h;exact ⟨by simp,fun h=>absurd rfl h⟩
 |
  c::r,acc,u,h=>by
  rw [Lib.parseUintM] at h
  split at h
  · rename_i hd
    split at h
    · cases h
    · split at h
      · cases h
      · rename_i h1 h2
        obtain ⟨i1,i2⟩:=uintM_lt M r _ u h
        refine ⟨?_,fun _=>?_⟩
        · rw [List.length_cons,Nat.pow_succ,Nat.mul_comm (10 ^ r.length) 10,← Nat.mul_assoc]
          exact Nat.lt_of_lt_of_le i1 (Nat.mul_le_mul_right _ (by omega))
        · cases r with
          | nil=>injection h with h;omega
          | cons d r=>exact i2 (by simp)
  · cases h
theorem uintB_len {r:Bs} {u:Nat} (h:Lib.parseUintB 64 r=.ok u):1≤r.length∧Lib.nDigits u≤r.length:=by
 unfold Lib.parseUintB at h
 split at h
 · cases h
 · rename_i hne
   have h1:1≤r.length:=by cases r with
    | nil=>exact absurd rfl hne
    | cons c r=>simp
   have:=(uintM_lt _ r 0 u h).1
   exact ⟨h1,nDig_le h1 (by simpa using this)⟩
theorem int_len {t:Bs} {v:Int} (h:Lib.parseIntB 64 t=.ok v):BcY v∧(Lib.itoa v).length≤t.length:=by
 cases t with
 | nil=>cases h
 |
  cons c r =>
  unfold Lib.parseIntB at h
  simp only at h
  have hl:∀ u,Lib.parseUintB 64 (if c.toNat=43∨c.toNat=45 then r else c::r)=.ok u→(Lib.decDigits u).length≤(if c.toNat=43∨c.toNat=45 then r.length else r.length+1):=by
   intro u hu
   rw [Lib.decDigits_length]
   have:=(uintB_len hu).2
   split <;> rename_i hc <;> simp only [hc,if_true,if_false,List.length_cons] at this <;> exact this
  cases hu:Lib.parseUintB 64 (if c.toNat=43∨c.toNat=45 then r else c::r) with
  |
   ok u =>
   have hlu:=hl u hu
   rw [hu] at h
   simp only at h
   by_cases h45:c.toNat=45
   · simp only [h45,not_true,false_and,if_false,true_and,if_true] at h
     split at h
     · cases h
     · rename_i hr
       injection h with h
       subst h
       simp only [h45,or_true,if_true] at hlu
       refine ⟨⟨by omega,by omega⟩,?_⟩
       rw [List.length_cons]
       by_cases h0:1≤u
       · rw [Lib.itoa_neg u h0,List.length_cons];omega
       · have:u=0:=by omega
         subst this
         have:Lib.itoa (-((0:Nat):Int))=Lib.decDigits 0:=rfl
         rw [this];omega
   · simp only [h45,not_false_iff,true_and,if_false,false_and,or_false] at h hlu
     split at h
     · cases h
     · rename_i hr
       injection h with h
       subst h
       refine ⟨⟨by omega,by omega⟩,?_⟩
       rw [Lib.itoa_nonneg,List.length_cons]
       split at hlu <;> omega
  | _=>rw [hu] at h;cases h
theorem takeW_all (p:UInt8→Bool) (l:Bs):∀ c∈l.take (l.length-(l.dropWhile p).length),p c=true:=by
 induction l with
 | nil=>intro c hc;cases hc
 |
  cons a l ih =>
  intro c hc
  by_cases ha:p a=true
  · rw [List.dropWhile_cons_of_pos ha,List.length_cons] at hc
    have hle:(l.dropWhile p).length≤l.length:=(List.dropWhile_suffix _).length_le
    rw [show l.length+1-(l.dropWhile p).length=(l.length-(l.dropWhile p).length)+1 from by omega,List.take_succ_cons] at hc
    rcases List.mem_cons.1 hc with rfl | hc
    · exact ha
    · exact ih c hc
  · rw [List.dropWhile_cons_of_neg ha,Nat.sub_self,List.take_zero] at hc
    cases hc
theorem wordR_one {c:UInt8} {t:Bs} (h:(ApY (c::t)).1=1):clsB c=1∧(ApY (c::t)).2=(c::t).dropWhile AzQ:=by
 rw [AsQ] at h ⊢
 by_cases k:clsB c=1
 · rw [if_pos k];exact ⟨k,rfl⟩
 · rw [if_neg k] at h
   exfalso;revert h
   repeat' split
   all_goals (intro h;simp at h)
theorem lexF_ok (s:Bs):∀ (f n:Nat) (r:Bs) (ts:List Tok),lexF s f n r=.ok ts→ToksOk ts∧lenW ts≤r.length
 | 0,n,r,ts,h=>by injection h with h;subst h;exact ⟨fun t ht=>(by cases ht),Nat.zero_le _⟩
 | f+1,n,[],ts,h=>by injection h with h;subst h;exact ⟨fun t ht=>(by cases ht),Nat.zero_le _⟩
 |
  f+1,n,c::t,ts,h=>by
  rw [lexF_cons] at h
  split at h
  · cases h
  · split at h
    · cases h
    · rename_i hn hk
      have hsuf:=wordR_suf c t hk
      have hle:=hsuf.length_le
      obtain ⟨x,hx⟩:∃ x,(c::t).take ((c::t).length-(ApY (c::t)).2.length)=x:=⟨_,rfl⟩
      have hxl:x.length+(ApY (c::t)).2.length=t.length+1:=by
       rw [← hx,List.length_take,List.length_cons];omega
      have hb:(AnZ (ApY (c::t)).2).length≤(ApY (c::t)).2.length:=(blankR_suf _).length_le
      have hcons:∀ (k v:Int) (hk1:k=1→isWd x=true) (hk2:k=2→Lib.parseIntB 64 x=.ok v) (ts:List Tok),(lexF s f (n+1) (AnZ (ApY (c::t)).2)).map (⟨k,x,v,posR s (c::t)⟩::·)=.ok ts→ToksOk ts∧lenW ts≤(c::t).length:=by
       intro k v hk1 hk2 ts h
       cases hr:lexF s f (n+1) (AnZ (ApY (c::t)).2) with
       | error e=>rw [hr] at h;cases h
       |
        ok l =>
        rw [hr] at h
        injection h with h
        subst h
        obtain ⟨i1,i2⟩:=lexF_ok s f (n+1) _ l hr
        refine ⟨fun y hy=>?_,?_⟩
        · rcases List.mem_cons.1 hy with rfl | hy
          · exact ⟨by show 1≤x.length;omega,hk1,hk2⟩
          · exact i1 y hy
        · rw [BuY,List.length_cons]
          show x.length+_≤_
          omega
      rw [hx] at h
      split at h
      · rename_i h2
        split at h
        · rename_i v hv
          exact hcons 2 v (fun k=>absurd k (by decide)) (fun _=>hv) ts h
        · cases h
      · rename_i h2
        refine hcons _ 0 (fun h1=>?_) (fun h=>absurd h h2) ts h
        obtain ⟨w1,w2⟩:=wordR_one h1
        rw [w2] at hx
        cases x with
        | nil=>simp only [List.length_nil] at hxl;omega
        |
         cons a x =>
         have hall:=takeW_all AzQ (c::t)
         rw [hx] at hall
         have ha:a=c:=by
          have h0:=congrArg (·.head?) hx
          have hd0:(c::t).length-((c::t).dropWhile AzQ).length≠0:=by rw [← w2,List.length_cons];omega
          obtain ⟨m,hm⟩:=Nat.exists_eq_succ_of_ne_zero hd0
          rw [hm] at h0
          simpa using h0.symm
         unfold isWd
         rw [Bool.and_eq_true,decide_eq_true_eq,List.all_eq_true,ha]
         exact ⟨w1,fun d hd=>hall d (List.mem_cons_of_mem _ hd)⟩
theorem lexS_ok {s:Bs} {ts:List Tok} (h:lexS s=.ok ts):ToksOk ts∧lenW ts≤s.length:=by
 unfold lexS at h
 split at h
 · cases h
 · obtain ⟨h1,h2⟩:=lexF_ok s _ _ _ ts h
   exact ⟨h1,Nat.le_trans h2 (blankR_suf s).length_le⟩
end Go.Proofs.YtcmphhedaefcgaaGreatDoor
end
section
namespace Go.Proofs.YtcmphhedaefcgaaGreatDoor
open Av
attribute [local irreducible] awp AbX
structure NameOk (s:Bs):Prop where
 w:isWd s=true
 k:wordB s=false
 len:s.length≤2000
structure Src (l:List Tok):Prop where
 ok:ToksOk l
 len:lenW l≤2000
abbrev tT:Bs:=[116,114,117,101]
abbrev fT:Bs:=[102,97,108,115,101]
inductive PlS:Pe→Bs→List Tok→Prop
 | num (n:Int):BcY n→PlS ⟨1,n,[]⟩ (Lib.itoa n) [wdN n]
 | tt:PlS ⟨2,1,[]⟩ tT [wdK tT]
 | ff:PlS ⟨2,0,[]⟩ fT [wdK fT]
 | name (s:Bs):NameOk s→PlS ⟨3,0,s⟩ s [wdK s]
theorem Src.tail {t:Tok} {l:List Tok} (h:Src (t::l)):Src l:=⟨h.ok.tail,by have:=h.len;rw [BuY] at this;omega⟩
theorem Src.one {t:Tok} {l:List Tok} (h:Src (t::l)):1≤t.t.length:=h.ok.head.1
theorem kind_cons (t:Tok) (l:List Tok):BeQ (t::l)=if t.k=1∧wordB t.t=true then 0 else t.k:=rfl
theorem nameP_c (t:Tok) (l:List Tok):BiQ (t::l)=if BeQ (t::l)=1 then .ok (t.t,l) else .error 5:=rfl
theorem numP_c (t:Tok) (l:List Tok):numP (t::l)=if BeQ (t::l)=2 then .ok (t.v,l) else .error 5:=rfl
theorem exactP_c (n:Int) (t:Tok) (l:List Tok):BmY n (t::l)=if BeQ (t::l)=2∧t.v=n then .ok ((),l) else .error 5:=rfl
theorem takeP_c (s:Bs) (ss:List Bs) (l:List Tok):AeQ (s::ss) l=if isW s l=true then AeQ ss l.tail else .error (wrongE l):=rfl
theorem plainP_c (t:Tok) (l:List Tok):AjQ (t::l)=if BeQ (t::l)=2 then .ok (⟨1,t.v,[]⟩,l) else if BeQ (t::l)=1 then .ok (⟨3,0,t.t⟩,l) else if t.t=tT then .ok (⟨2,1,[]⟩,l) else if t.t=fT then .ok (⟨2,0,[]⟩,l) else .error 5:=rfl
theorem kind_N (n:Int) (r:List Tok):BeQ (wdN n::r)=2:=by
 rw [kind_cons,if_neg (fun h=>absurd h.1 (show ¬ (2:Int)=1 by decide))];rfl
theorem kind_K {s:Bs} (h:wordB s=false) (r:List Tok):BeQ (wdK s::r)=1:=by
 rw [kind_cons,if_neg (fun k=>absurd (h.symm.trans k.2) Bool.false_ne_true)];rfl
theorem itoa_ne (n:Int) (hn:BcY n) (e:Bs) (he:∀ v,Lib.parseIntB 64 e≠.ok v):Lib.itoa n≠e:=fun h=>he n (h ▸ int_dec n hn)
theorem isW_N (n:Int) (hn:BcY n) (e:Bs) (he:∀ v,Lib.parseIntB 64 e≠.ok v) (r:List Tok):isW e (wdN n::r)=false:=decide_eq_false (itoa_ne n hn e he)
theorem isW_Kw {s e:Bs} (h:isWd s=true) (he:isWd e=false) (r:List Tok):isW e (wdK s::r)=false:=decide_eq_false fun k=>Bool.false_ne_true (he.symm.trans ((congrArg isWd k).symm.trans h))
theorem no_int (e:Bs) (he:Lib.parseIntB 64 e=Lib.parseIntB 64 []):∀ v,Lib.parseIntB 64 e≠.ok v:=fun v h=>by rw [he] at h;simp [Lib.parseIntB] at h
theorem name_rd (s:Bs) (h:wordB s=false) (r:List Tok):BiQ (wdK s::r)=.ok (s,r):=by rw [nameP_c,if_pos (kind_K h r)];rfl
theorem num_rd (n:Int) (r:List Tok):numP (wdN n::r)=.ok (n,r):=by rw [numP_c,if_pos (kind_N n r)];rfl
theorem exact_rd (n:Int) (r:List Tok):BmY n (wdN n::r)=.ok ((),r):=by rw [exactP_c,if_pos ⟨kind_N n r,rfl⟩]
theorem AvZ (s:Bs) (ss:List Bs) (r:List Tok):AeQ (s::ss) (wdS s::r)=AeQ ss r:=by rw [takeP_c,if_pos (show isW s (wdS s::r)=true from decide_eq_true rfl)];rfl
theorem take_rdK (s:Bs) (ss:List Bs) (r:List Tok):AeQ (s::ss) (wdK s::r)=AeQ ss r:=by rw [takeP_c,if_pos (show isW s (wdK s::r)=true from decide_eq_true rfl)];rfl
theorem BaZ (r:List Tok):AeQ [] r=.ok ((),r):=rfl
theorem plain_rd {p:Pe} {t:Bs} {c:List Tok} (h:PlS p t c) (r:List Tok):AjQ (c++r)=.ok (p,r):=by
 cases h with
 |
  num n hn =>
  show AjQ (wdN n::r)=_
  rw [plainP_c,if_pos (kind_N n r)];rfl
 | tt=>rfl
 | ff=>rfl
 |
  name s hs =>
  show AjQ (wdK t::r)=_
  rw [plainP_c,kind_K hs.k,if_neg (by decide),if_pos rfl];rfl
theorem plain_lx {p:Pe} {t:Bs} {c:List Tok} (h:PlS p t c) (y:Bs) (d:List Tok) (hy:nw y=true) (hl:LexR y d):LexR (t++y) (c++d):=by
 cases h with
 | num n hn=>exact lx_num n y d hn hy hl
 | tt=>exact ApX tT y d (by decide) hy hl
 | ff=>exact ApX fT y d (by decide) hy hl
 | name s hs=>exact ApX t y d hs.w hy hl
theorem plain_nh {p:Pe} {t:Bs} {c:List Tok} (h:PlS p t c) (r:List Tok):isW [93] (c++r)=false∧isW [41] (c++r)=false∧isW [91] (c++r)=false:=by
 cases h with
 | num n hn=>exact ⟨isW_N n hn _ (no_int _ (by decide)) r,isW_N n hn _ (no_int _ (by decide)) r,isW_N n hn _ (no_int _ (by decide)) r⟩
 | tt=>exact ⟨rfl,rfl,rfl⟩
 | ff=>exact ⟨rfl,rfl,rfl⟩
 | name s hs=>exact ⟨isW_Kw hs.w (by decide) r,isW_Kw hs.w (by decide) r,isW_Kw hs.w (by decide) r⟩
theorem name_ok {s:Bs} (h:NameOk s):BpQ s=true:=by
 have h1:LexR (s++[]) [wdK s]:=ApX s [] [] h.w rfl .nil
 rw [List.append_nil] at h1
 obtain ⟨ts,t1,t2⟩:=lexR_lexS h1 (by have:=h.len;omega) (by simp)
 have h2:LexR ([115,111,108,118,101]++(32::([109,105,110,105,109,105,122,101]++(32::(s++[59]))))) [wdK [115,111,108,118,101],wdK [109,105,110,105,109,105,122,101],wdK s,wdS [59]] :=
  ApX _ _ _ (by decide) rfl (AkX 32 _ _ rfl (ApX _ _ _ (by decide) rfl (AkX 32 _ _ rfl (ApX s [59] _ h.w rfl (AsX 59 [] [] rfl .nil)))))
 have h3:=(parse_lexR h2 (by have:=h.len;simp only [List.length_append,List.length_cons,List.length_nil];omega) (by simp)).1
 have h4:allF 512 [wdK [115,111,108,118,101],wdK [109,105,110,105,109,105,122,101],wdK s,wdS [59]]=.ok [⟨6,s,false,[],0,false,[],1⟩]:=by
  have e1:itemP [wdK [115,111,108,118,101],wdK [109,105,110,105,109,105,122,101],wdK s,wdS [59]]=andP (BiQ [wdK s,wdS [59]]) fun n l1=>.ok (⟨6,n,false,[],0,false,[],1⟩,l1):=rfl
  have e2:allF 512 [wdK [115,111,108,118,101],wdK [109,105,110,105,109,105,122,101],wdK s,wdS [59]]=match andP (itemP [wdK [115,111,108,118,101],wdK [109,105,110,105,109,105,122,101],wdK s,wdS [59]]) fun x l1=>andP (AeQ [[59]] l1) fun _ l2=>.ok (x,l2) with
   | .ok (x,l2)=>(allF 511 l2).map (x::·)
   | .error e=>.error e:=rfl
  rw [e2,e1,name_rd s h.k]
  rfl
 unfold BpQ
 rw [t1]
 cases ts with
 | nil=>cases t2
 |
  cons t ts =>
  cases ts with
  | cons u ts=>exact absurd (congrArg List.length t2) (by simp)
  |
   nil =>
   injection t2 with t2 _
   have k1:t.k=1:=congrArg Tok.k t2
   have k2:t.t=s:=congrArg Tok.t t2
   have k3:BtZ ([115,111,108,118,101,32,109,105,110,105,109,105,122,101,32]++s++[59])=.ok [⟨6,s,false,[],0,false,[],1⟩]:=by
    rw [← h4,← h3]
    rw [List.append_assoc];rfl
   simp only [k1,k2,k3,decide_true,Bool.and_self,errE]
theorem plain_sh {p:Pe} {t:Bs} {c:List Tok} (h:PlS p t c):AfQ p.ex=(t,true):=by
 cases h with
 | num n hn=>rfl
 | tt=>rfl
 | ff=>rfl
 |
  name s hs =>
  unfold AfQ Pe.ex
  simp [name_ok hs]
theorem name_src {l:List Tok} {s:Bs} {l':List Tok} (hl:Src l) (h:BiQ l=.ok (s,l')):NameOk s∧Src l'∧s.length+lenW l'=lenW l∧1≤s.length:=by
 cases l with
 | nil=>cases h
 |
  cons t l =>
  rw [nameP_c] at h
  split at h
  · rename_i hk
    injection h with h
    injection h with h1 h2
    subst h1;subst h2
    rw [kind_cons] at hk
    split at hk
    · cases hk
    · rename_i hn
      have hw:wordB t.t=false:=by
       cases hb:wordB t.t with
       | false=>rfl
       | true=>exact absurd ⟨hk,hb⟩ hn
      refine ⟨⟨hl.ok.head.2.1 hk,hw,?_⟩,hl.tail,rfl,hl.one⟩
      have:=hl.len;rw [BuY] at this;omega
  · cases h
theorem num_src {l:List Tok} {n:Int} {l':List Tok} (hl:Src l) (h:numP l=.ok (n,l')):BcY n∧Src l'∧(Lib.itoa n).length+lenW l'≤lenW l∧1+lenW l'≤lenW l:=by
 cases l with
 | nil=>cases h
 |
  cons t l =>
  rw [numP_c] at h
  split at h
  · rename_i hk
    injection h with h
    injection h with h1 h2
    subst h1;subst h2
    rw [kind_cons] at hk
    split at hk
    · cases hk
    · obtain ⟨k1,k2⟩:=int_len (hl.ok.head.2.2 hk)
      have:=hl.one
      exact ⟨k1,hl.tail,by rw [BuY];omega,by rw [BuY];omega⟩
  · cases h
theorem exact_src {l:List Tok} {n:Int} {l':List Tok} (hl:Src l) (h:BmY n l=.ok ((),l')):BcY n∧Src l'∧(Lib.itoa n).length+lenW l'≤lenW l∧1+lenW l'≤lenW l:=by
 cases l with
 | nil=>cases h
 |
  cons t l =>
  rw [exactP_c] at h
  split at h
  · rename_i hk
    refine num_src hl ?_
    rw [numP_c,if_pos hk.1]
    injection h with h
    injection h with h1 h2
    rw [hk.2,h2]
  · cases h
theorem BfX {s:Bs} {l:List Tok} (hl:Src l) (h:isW s l=true):Src l.tail∧s.length+lenW l.tail=lenW l:=by
 cases l with
 | nil=>cases h
 |
  cons t l =>
  have h:=of_decide_eq_true h
  exact ⟨hl.tail,by rw [← h];rfl⟩
def lenS:List Bs→Nat
 | []=>0
 | s::ss=>s.length+lenS ss
theorem AnQ:∀ (ss:List Bs) {l:List Tok} {l':List Tok} {u:Unit},Src l→AeQ ss l=.ok (u,l')→Src l'∧lenS ss+lenW l'=lenW l
 | [],l,l',u,hl,h=>by injection h with h;injection h with _ h;subst h;exact ⟨hl,by simp [lenS]⟩
 |
  s::ss,l,l',u,hl,h=>by
  rw [takeP_c] at h
  split at h
  · rename_i hw
    obtain ⟨a1,a2⟩:=BfX hl hw
    obtain ⟨b1,b2⟩:=AnQ ss a1 h
    exact ⟨b1,by simp only [lenS];omega⟩
  · cases h
theorem AfX {α β:Type} {x:PR α} {f:α→List Tok→PR β} {b:β} {l':List Tok} (h:andP x f=.ok (b,l')):∃ a l,x=.ok (a,l)∧f a l=.ok (b,l'):=by
 cases x with
 | ok p=>obtain ⟨a,l⟩:=p;exact ⟨a,l,rfl,h⟩
 | error e=>cases h
theorem plain_src {l:List Tok} {p:Pe} {l':List Tok} (hl:Src l) (h:AjQ l=.ok (p,l')):∃ t c,PlS p t c∧Src l'∧t.length+lenW l'≤lenW l∧c.length+lenW l'≤lenW l∧(BeQ l=2→p.k=1)∧((isW tT l || isW fT l)=true→p.k=2):=by
 cases l with
 | nil=>cases h
 |
  cons t l =>
  have h1:=hl.one
  have hword:(isW tT (t::l) || isW fT (t::l))=true→t.t=tT∨t.t=fT:=by
   intro h
   rcases Bool.or_eq_true _ _ ▸ h with h | h
   · exact .inl (of_decide_eq_true h)
   · exact .inr (of_decide_eq_true h)
  rw [plainP_c] at h
  split at h
  · rename_i hk
    have hn:=num_src hl (n:=t.v) (l':=l) (by rw [numP_c,if_pos hk])
    have hnw:¬ (isW tT (t::l) || isW fT (t::l))=true:=by
     intro hw
     rw [kind_cons] at hk
     split at hk
     · cases hk
     · have hp:=hl.ok.head.2.2 hk
       rcases hword hw with e | e
       · rw [e] at hp;exact no_int tT (by decide) _ hp
       · rw [e] at hp;exact no_int fT (by decide) _ hp
    injection h with h
    injection h with h1 h2
    subst h1;subst h2
    exact ⟨_,_,.num t.v hn.1,hl.tail,hn.2.2.1,by have:=hn.2.2.2;simp only [List.length_singleton];omega,fun _=>rfl,fun k=>absurd k hnw⟩
  · rename_i hk2
    split at h
    · rename_i hk
      have hn:=name_src hl (s:=t.t) (l':=l) (by rw [nameP_c,if_pos hk])
      injection h with h
      injection h with h1 h2
      subst h1;subst h2
      refine ⟨_,_,.name t.t hn.1,hl.tail,Nat.le_of_eq hn.2.2.1,by have:=hn.2.2;simp only [List.length_singleton];omega,fun k=>absurd k hk2,fun hw=>?_⟩
      have:=hn.1.k
      rcases hword hw with e | e
      · rw [e] at this;exact absurd this (by decide)
      · rw [e] at this;exact absurd this (by decide)
    · rename_i hk1
      split at h
      · rename_i hk
        injection h with h
        injection h with h1 h2
        subst h1;subst h2
        exact ⟨_,_,.tt,hl.tail,by rw [BuY,hk];exact Nat.le_refl _,by rw [BuY];simp only [List.length_singleton];omega,fun k=>absurd k hk2,fun _=>rfl⟩
      · split at h
        · rename_i hk
          injection h with h
          injection h with h1 h2
          subst h1;subst h2
          exact ⟨_,_,.ff,hl.tail,by rw [BuY,hk];exact Nat.le_refl _,by rw [BuY];simp only [List.length_singleton];omega,fun k=>absurd k hk2,fun _=>rfl⟩
        · cases h
end Go.Proofs.YtcmphhedaefcgaaGreatDoor
end
section
namespace Go.Proofs.YtcmphhedaefcgaaGreatDoor
open Av
attribute [local irreducible] awp AbX
structure Shw {α:Type} (one:List Tok→PR α) (sh:Ex→Bs × Bool) (ex:α→Ex) (a:α) (t:Bs) (c:List Tok):Prop where
 sh:sh (ex a)=(t,true)
 lx:∀ y d,nw y=true→LexR y d→LexR (t++y) (c++d)
 rd:∀ r,one (c++r)=.ok (a,r)
 nh:∀ r,isW [93] (c++r)=false∧isW [41] (c++r)=false
def OneOk {α:Type} (one:List Tok→PR α) (sh:Ex→Bs × Bool) (ex:α→Ex) (Q:α→Prop):Prop :=
 ∀ l a l',Src l→one l=.ok (a,l')→∃ t c,Shw one sh ex a t c∧Src l'∧t.length+4 * lenW l'≤4 * lenW l∧c.length+lenW l'≤lenW l∧Q a
theorem joinB_one (w:Bs):joinB [w]=w:=Lib.join_one w _
theorem joinB_cons (w v:Bs) (ws:List Bs):joinB (w::v::ws)=w++(44::32::joinB (v::ws)):=by
 unfold joinB
 rw [Lib.join_cons,Lib.join_cons]
 simp [Lib.joinTail]
def isE (e:Bs):Prop:=e=[93]∨e=[41]
theorem isE_lx {e:Bs} (he:isE e) (y:Bs) (d:List Tok) (h:LexR y d):LexR (e++y) (wdS e::d):=by
 rcases he with rfl | rfl
 · exact AsX 93 y d (by decide) h
 · exact AsX 41 y d (by decide) h
theorem isE_nw {e:Bs} (he:isE e) (y:Bs):nw (e++y)=true:=by rcases he with rfl | rfl <;> rfl
theorem isE_len {e:Bs} (he:isE e):e.length=1:=by rcases he with rfl | rfl <;> rfl
theorem isE_ne {e:Bs} (he:isE e):([44]:Bs)≠e:=by rcases he with rfl | rfl <;> decide
theorem exprsF_rd {α:Type} (one:List Tok→PR α) (e:Bs) (k:Nat) (l:List Tok):BmX one e (k+1) l=andP (one l) fun x l1=>if isW e l1=true then .ok ([x],l1.tail) else andP (AeQ [[44]] l1) fun _ l2=>andP (BmX one e k l2) fun r l3=>.ok (x::r,l3):=rfl
theorem isW_Sd (s e:Bs) (h:s≠e) (r:List Tok):isW e (wdS s::r)=false:=decide_eq_false h
theorem isW_Ss (e:Bs) (r:List Tok):isW e (wdS e::r)=true:=decide_eq_true rfl
theorem exprsF_src {α:Type} {one:List Tok→PR α} {sh:Ex→Bs × Bool} {ex:α→Ex} {Q:α→Prop} (h1:OneOk one sh ex Q) {e:Bs} (he:isE e):∀ (k:Nat) (l:List Tok) (xs:List α) (l':List Tok),Src l→BmX one e k l=.ok (xs,l') →
 ∃ w ws c,xs.length≤k∧BiY sh (xs.map ex)=some (w::ws)∧(∀ y d,LexR y d→LexR (joinB (w::ws)++(e++y)) (c++d))∧(∀ r,BmX one e k (c++r)=.ok (xs,r))∧(∀ r,isW e (c++r)=false)∧Src l'∧(joinB (w::ws)).length+4+4 * lenW l'≤4 * lenW l∧c.length+lenW l'≤lenW l∧(∀ a∈xs,Q a)
 | 0,l,xs,l',hl,h=>by cases h
 |
  k+1,l,xs,l',hl,h=>by
  rw [exprsF_rd] at h
  obtain ⟨x,l1,hx,h⟩:=AfX h
  obtain ⟨t,c,s1,s2,s3,s4,s5⟩:=h1 l x l1 hl hx
  have hnh:∀ r,isW e (c++r)=false:=fun r=>by
   rcases he with rfl | rfl
   · exact (s1.nh r).1
   · exact (s1.nh r).2
  split at h
  · rename_i hw
    obtain ⟨a1,a2⟩:=BfX s2 hw
    injection h with h
    injection h with e1 e2
    subst e1;subst e2
    refine ⟨t,[],c++[wdS e],by simp,?_,?_,?_,?_,a1,?_,?_,?_⟩
    · show (if (sh (ex x)).2=true then (BiY sh []).map ((sh (ex x)).1::·) else none)=_
      rw [s1.sh];rfl
    · intro y d hy
      rw [joinB_one,List.append_assoc]
      exact s1.lx _ _ (isE_nw he y) (isE_lx he y d hy)
    · intro r
      rw [exprsF_rd,List.append_assoc,s1.rd]
      show (if isW e (wdS e::r)=true then _ else _)=_
      rw [if_pos (isW_Ss e r)];rfl
    · intro r;rw [List.append_assoc];exact hnh _
    · rw [joinB_one];have:=isE_len he;omega
    · rw [List.length_append,List.length_singleton];have:=isE_len he;omega
    · intro a ha;rw [List.mem_singleton] at ha;subst ha;exact s5
  · rename_i hw
    obtain ⟨_,l2,ht,h⟩:=AfX h
    obtain ⟨t1,t2⟩:=AnQ _ s2 ht
    obtain ⟨rs,l3,hr,h⟩:=AfX h
    injection h with h
    injection h with e1 e2
    subst e1;subst e2
    obtain ⟨w,ws,c',i1,i2,i3,i4,i5,i6,i7,i8,i9⟩:=exprsF_src h1 he k l2 rs l3 t1 hr
    simp only [lenS,List.length_cons,List.length_nil] at t2
    refine ⟨t,w::ws,c++(wdS [44]::c'),by simp only [List.length_cons];omega,?_,?_,?_,?_,i6,?_,?_,?_⟩
    · show (if (sh (ex x)).2=true then (BiY sh (rs.map ex)).map ((sh (ex x)).1::·) else none)=_
      rw [s1.sh,i2];rfl
    · intro y d hy
      rw [joinB_cons,List.append_assoc,List.append_assoc,List.cons_append,List.cons_append,List.cons_append]
      exact s1.lx _ _ rfl (AsX 44 _ _ (by decide) (AkX 32 _ _ (by decide) (i3 y d hy)))
    · intro r
      rw [exprsF_rd,List.append_assoc,s1.rd]
      show (if isW e (wdS [44]::(c'++r))=true then _ else andP (AeQ [[44]] (wdS [44]::(c'++r))) _)=_
      rw [if_neg (by rw [isW_Sd _ _ (isE_ne he)];decide),AvZ,BaZ,AbY,i4];rfl
    · intro r;rw [List.append_assoc];exact hnh _
    · rw [joinB_cons,List.length_append,List.length_cons,List.length_cons];omega
    · rw [List.length_append,List.length_cons];omega
    · intro a ha
      rcases List.mem_cons.1 ha with rfl | ha
      · exact s5
      · exact i9 a ha
theorem exprs_src {α:Type} {one:List Tok→PR α} {sh:Ex→Bs × Bool} {ex:α→Ex} {Q:α→Prop} (h1:OneOk one sh ex Q) {e:Bs} (he:isE e) {l:List Tok} {xs:List α} {l':List Tok} (hl:Src l) (h:BdY one e l=.ok (xs,l')) :
 ∃ t c,xs.length≤64∧BbQ sh (xs.map ex)=(t,true)∧(∀ y d,LexR y d→LexR (t++(e++y)) (c++d))∧(∀ r,BdY one e (c++r)=.ok (xs,r))∧Src l'∧t.length+4+4 * lenW l'≤4 * lenW l∧c.length+lenW l'≤lenW l∧(∀ a∈xs,Q a):=by
 change (if isW e l=true then _ else _)=_ at h
 split at h
 · rename_i hw
   obtain ⟨a1,a2⟩:=BfX hl hw
   injection h with h
   injection h with e1 e2
   subst e1;subst e2
   have:=isE_len he
   refine ⟨[],[wdS e],by simp,rfl,fun y d hy=>isE_lx he y d hy,fun r=>?_,a1,by simp only [List.length_nil];omega,by simp only [List.length_singleton];omega,fun a ha=>by cases ha⟩
   show (if isW e (wdS e::r)=true then _ else _)=_
   rw [if_pos (isW_Ss e r)];rfl
 · obtain ⟨w,ws,c,i1,i2,i3,i4,i5,i6,i7,i8,i9⟩:=exprsF_src h1 he 64 l xs l' hl h
   refine ⟨joinB (w::ws),c,i1,?_,i3,fun r=>?_,i6,i7,i8,i9⟩
   · unfold BbQ
     rw [List.length_map,if_neg (by omega),i2]
   · show (if isW e (c++r)=true then _ else BmX one e 64 (c++r))=_
     rw [if_neg (by rw [i5];decide),i4]
theorem zeroB:BcY 0:=⟨by decide,by decide⟩
def PeQ (p:Pe):Prop:=BcY p.n∧p.s.length≤2000∧p.k≠4
theorem PlS.q {p:Pe} {t:Bs} {c:List Tok} (h:PlS p t c):PeQ p:=by
 cases h with
 | num n hn=>exact ⟨hn,Nat.zero_le _,show ¬ (1:Int)=4 by decide⟩
 | tt=>exact ⟨⟨by decide,by decide⟩,Nat.zero_le _,show ¬ (2:Int)=4 by decide⟩
 | ff=>exact ⟨⟨by decide,by decide⟩,Nat.zero_le _,show ¬ (2:Int)=4 by decide⟩
 | name s hs=>exact ⟨⟨by show (-9223372036854775808:Int)≤0;decide,by show (0:Int)≤9223372036854775807;decide⟩,hs.len,show ¬ (3:Int)=4 by decide⟩
theorem plain_one:OneOk AjQ AfQ Pe.ex PeQ:=by
 intro l a l' hl h
 obtain ⟨t,c,s1,s2,s3,s4,_,_⟩:=plain_src hl h
 exact ⟨t,c,⟨plain_sh s1,fun y d=>plain_lx s1 y d,fun r=>plain_rd s1 r,fun r=>⟨(plain_nh s1 r).1,(plain_nh s1 r).2.1⟩⟩,s2,by omega,s4,s1.q⟩
def ExQ (x:Ex):Prop:=x.Fine∧x.l.length≤64
theorem exQ_ex {p:Pe} (h:PeQ p):ExQ p.ex:=⟨⟨h.1,by have:=h.2.1;show p.s.length≤_;omega,Nat.zero_le _,fun q hq=>by cases hq⟩,Nat.zero_le _⟩
theorem expr_one:OneOk exprP exprS id ExQ:=by
 intro l a l' hl h
 change (if isW [91] l=true then _ else _)=_ at h
 split at h
 · rename_i hw
   obtain ⟨a1,a2⟩:=BfX hl hw
   obtain ⟨xs,l1,hx,h⟩:=AfX h
   injection h with h
   injection h with e1 e2
   subst e1;subst e2
   obtain ⟨t,c,i1,i2,i3,i4,i5,i6,i7,i8⟩:=exprs_src plain_one (.inl rfl) a1 hx
   simp only [List.length_singleton] at a2
   refine ⟨91::(t++[93]),wdS [91]::c,⟨?_,?_,?_,?_⟩,i5,?_,?_,?_⟩
   · unfold exprS
     simp only [id,ne_eq,not_true,if_false,i2]
     simp
   · intro y d hy hl
     rw [List.cons_append,List.cons_append,List.append_assoc]
     exact AsX 91 _ _ (by decide) (i3 y d hl)
   · intro r
     show (if isW [91] (wdS [91]::(c++r))=true then andP (BdY AjQ [93] (c++r)) _ else _)=_
     rw [if_pos (isW_Ss _ _),i4];rfl
   · intro r;exact ⟨rfl,rfl⟩
   · simp only [List.length_cons,List.length_append,List.length_nil];omega
   · simp only [List.length_cons];omega
   · exact ⟨⟨zeroB,Nat.zero_le _,by show xs.length≤_;omega,fun p hp=>⟨(i8 p hp).1,by have:=(i8 p hp).2.1;omega⟩⟩,i1⟩
 · obtain ⟨p,l1,hx,h⟩:=AfX h
   injection h with h
   injection h with e1 e2
   subst e1;subst e2
   obtain ⟨t,c,s1,s2,s3,s4,_,_⟩:=plain_src hl hx
   refine ⟨t,c,⟨?_,fun y d=>plain_lx s1 y d,?_,fun r=>⟨(plain_nh s1 r).1,(plain_nh s1 r).2.1⟩⟩,s2,by omega,s4,exQ_ex s1.q⟩
   · unfold exprS
     rw [if_pos (show (id p.ex).k≠4 from s1.q.2.2)]
     exact plain_sh s1
   · intro r
     show (if isW [91] (c++r)=true then _ else andP (AjQ (c++r)) _)=_
     rw [if_neg (by rw [(plain_nh s1 r).2.2];decide),plain_rd s1];rfl
theorem setF_rd (k:Nat) (l:List Tok):setF (k+1) l=andP (numP l) fun x l1=>if isW [125] l1=true then .ok ([x],l1.tail) else andP (AeQ [[44]] l1) fun _ l2=>andP (setF k l2) fun r l3=>.ok (x::r,l3):=rfl
def itoas (ns:List Int):List Bs:=ns.map Lib.itoa
theorem setF_src:∀ (k:Nat) (l:List Tok) (ns:List Int) (l':List Tok),Src l→setF k l=.ok (ns,l') →
 ∃ n r c,ns=n::r∧ns.length≤k∧(∀ y d,LexR y d→LexR (joinB (itoas ns)++(125::y)) (c++d))∧(∀ r,setF k (c++r)=.ok (ns,r))∧Src l'∧(joinB (itoas ns)).length+2+2 * lenW l'≤2 * lenW l∧c.length+lenW l'≤lenW l∧(∀ n∈ns,BcY n)∧(∀ r,∃ r',c++r=wdN n::r')∧(r=[]→(Lib.itoa n).length+1+lenW l'≤lenW l)∧2+lenW l'≤lenW l
 | 0,l,xs,l',hl,h=>by cases h
 |
  k+1,l,xs,l',hl,h=>by
  rw [setF_rd] at h
  obtain ⟨x,l1,hx,h⟩:=AfX h
  obtain ⟨s1,s2,s3,s4⟩:=num_src hl hx
  split at h
  · rename_i hw
    obtain ⟨a1,a2⟩:=BfX s2 hw
    simp only [List.length_singleton] at a2
    injection h with h
    injection h with e1 e2
    subst e1;subst e2
    refine ⟨x,[],[wdN x,wdS [125]],rfl,by simp,?_,?_,a1,?_,?_,?_,fun r=>⟨_,rfl⟩,fun _=>by omega,by omega⟩
    · intro y d hy
      show LexR (joinB [Lib.itoa x]++_) _
      rw [joinB_one]
      exact lx_num x _ _ s1 rfl (AsX 125 _ _ (by decide) hy)
    · intro r
      show setF (k+1) (wdN x::wdS [125]::r)=_
      rw [setF_rd,num_rd,AbY,if_pos (isW_Ss _ _)];rfl
    · have e:itoas [x]=[Lib.itoa x]:=rfl
      rw [e,joinB_one];omega
    · simp only [List.length_cons,List.length_nil];omega
    · intro a ha;rw [List.mem_singleton] at ha;subst ha;exact s1
  · rename_i hw
    obtain ⟨_,l2,ht,h⟩:=AfX h
    obtain ⟨t1,t2⟩:=AnQ _ s2 ht
    obtain ⟨rs,l3,hr,h⟩:=AfX h
    injection h with h
    injection h with e1 e2
    subst e1;subst e2
    obtain ⟨n,q,c',i0,i1,i3,i4,i6,i7,i8,i9,i10,i11,i12⟩:=setF_src k l2 rs l3 t1 hr
    simp only [lenS,List.length_cons,List.length_nil] at t2
    refine ⟨x,rs,wdN x::wdS [44]::c',rfl,by simp only [List.length_cons];omega,?_,?_,i6,?_,?_,?_,fun r=>⟨_,rfl⟩,fun h=>(by rw [h] at i0;cases i0),by omega⟩
    · intro y d hy
      rw [i0]
      show LexR (joinB (Lib.itoa x::Lib.itoa n::itoas q)++_) _
      rw [joinB_cons,List.append_assoc,List.cons_append,List.cons_append]
      have:=i3 y d hy
      rw [i0] at this
      exact lx_num x _ _ s1 rfl (AsX 44 _ _ (by decide) (AkX 32 _ _ (by decide) this))
    · intro r
      show setF (k+1) (wdN x::wdS [44]::(c'++r))=_
      rw [setF_rd,num_rd,AbY,if_neg (by rw [isW_Sd _ _ (by decide)];decide),AvZ,BaZ,AbY,i4];rfl
    · have e:itoas (x::n::q)=Lib.itoa x::Lib.itoa n::itoas q:=rfl
      have e2:itoas (n::q)=Lib.itoa n::itoas q:=rfl
      rw [i0,e,joinB_cons,List.length_append,List.length_cons,List.length_cons]
      have:=i7
      rw [i0,e2] at this
      omega
    · simp only [List.length_cons];omega
    · intro a ha
      rcases List.mem_cons.1 ha with rfl | ha
      · exact s1
      · exact i9 a ha
end Go.Proofs.YtcmphhedaefcgaaGreatDoor
end
section
namespace Go.Proofs.YtcmphhedaefcgaaGreatDoor
open Av
attribute [local irreducible] awp AbX
theorem BiZ {α:Type} {a a':α} {l l':List Tok} (h:(.ok (a,l):PR α)=.ok (a',l')):a=a'∧l=l':=by
 injection h with h
 injection h with h1 h2
 exact ⟨h1,h2⟩
theorem itoa_1:Lib.itoa 1=[49]:=by
 have e:Lib.itoa 1=Lib.decDigits 1:=Lib.itoa_nonneg 1
 rw [e,Lib.decDigits_one (by decide)];rfl
theorem joinS_one {p:Pe} {t:Bs} {c:List Tok} (h:PlS p t c):BbQ AfQ [p.ex]=(t,true):=by
 have e:BiY AfQ [p.ex]=some [t]:=by
  show (if (AfQ p.ex).2=true then (BiY AfQ []).map ((AfQ p.ex).1::·) else none)=_
  rw [plain_sh h];rfl
 unfold BbQ
 rw [if_neg (show ¬ 64<[p.ex].length by simp),e]
 simp only [joinB_one]
theorem itemS_1 {x:It} (h:x.kind=1):BaY x=parS x:=by unfold BaY;simp [h]
theorem itemS_2 {x:It} (h:x.kind=2):BaY x=AwQ x:=by unfold BaY;simp [h]
theorem itemS_3 {x:It} (h:x.kind=3∨x.kind=4):BaY x=arrayS x:=by unfold BaY;rcases h with h | h <;> simp [h]
theorem itemS_6 {x:It} (h:x.kind=6):BaY x=goalS x:=by unfold BaY;simp [h]
abbrev kVar:Bs:=[118,97,114]
abbrev kArr:Bs:=[97,114,114,97,121]
abbrev kBool:Bs:=[98,111,111,108]
abbrev kInt:Bs:=[105,110,116]
abbrev kCon:Bs:=[99,111,110,115,116,114,97,105,110,116]
abbrev BlQ:Bs:=[115,111,108,118,101]
abbrev kSat:Bs:=[115,97,116,105,115,102,121]
abbrev kMin:Bs:=[109,105,110,105,109,105,122,101]
abbrev kMax:Bs:=[109,97,120,105,109,105,122,101]
abbrev kOutV:Bs:=[111,117,116,112,117,116,95,118,97,114]
abbrev kOutA:Bs:=[111,117,116,112,117,116,95,97,114,114,97,121]
abbrev kOf:Bs:=[111,102]
theorem bool_src {l:List Tok} (hl:Src l) {b:Bool} {l':List Tok} (h:truthP l=.ok (b,l')):Src l'∧(ApZ b).length+lenW l'=lenW l:=by
 have e:truthP l=if isW kBool l=true then .ok (true,l.tail) else andP (AeQ [kInt] l) fun _ l1=>.ok (false,l1):=rfl
 rw [e] at h
 split at h
 · rename_i hw
   obtain ⟨e1,e2⟩:=BiZ h
   subst e1;subst e2
   exact BfX hl hw
 · obtain ⟨_,l1,ht,h⟩:=AfX h
   obtain ⟨e1,e2⟩:=BiZ h
   subst e1;subst e2
   have:=AnQ _ hl ht
   exact ⟨this.1,by have:=this.2;simp only [lenS,Nat.add_zero] at this;exact this⟩
theorem truth_rd (b:Bool) (r:List Tok):truthP (wdK (ApZ b)::r)=.ok (b,r):=by cases b <;> rfl
theorem truth_wd (b:Bool):isWd (ApZ b)=true:=by cases b <;> decide
theorem dom_src {l:List Tok} (hl:Src l) {d:Dm} {l':List Tok} (h:domP l=.ok (d,l')) :
 ∃ t c,(∀ x:It,x.bool=d.isB→x.dom=d.rows→domS x=(t,true))∧(∀ y e,nw y=true→LexR y e→LexR (t++y) (c++e))∧(∀ r,∃ d',domP (c++r)=.ok (d',r)∧d'.isB=d.isB∧d'.rows=d.rows)∧Src l'∧t.length+4 * lenW l'≤4 * lenW l∧c.length+lenW l'≤lenW l∧d.rows.length≤256∧(∀ r∈d.rows,BcY r.1∧BcY r.2):=by
 have e:domP l=if isW kBool l=true then .ok (.b,l.tail) else if isW [123] l=true then andP (setF 256 l.tail) fun r l1=>.ok (.set r,l1) else andP (numP l) fun lo l1=>andP (AeQ [[46,46]] l1) fun _ l2=>andP (numP l2) fun hi l3=>.ok (.rng lo hi,l3):=rfl
 have hrng:∀ lo hi,BcY lo→BcY hi→(∀ y e,nw y=true→LexR y e→LexR ((Lib.itoa lo++[46,46]++Lib.itoa hi)++y) ([wdN lo,wdS [46,46],wdN hi]++e))∧(∀ r,domP ([wdN lo,wdS [46,46],wdN hi]++r)=.ok (.rng lo hi,r)):=by
  intro lo hi h1 h2
  constructor
  · intro y e hy hl
    rw [List.append_assoc,List.append_assoc]
    exact lx_num lo _ _ h1 rfl (lx_dots _ _ (lx_num hi y e h2 hy hl))
  · intro r
    have e:domP (wdN lo::wdS [46,46]::wdN hi::r)=if isW kBool (wdN lo::wdS [46,46]::wdN hi::r)=true then .ok (.b,_) else if isW [123] (wdN lo::wdS [46,46]::wdN hi::r)=true then andP (setF 256 _) fun r l1=>.ok (.set r,l1) else andP (numP (wdN lo::wdS [46,46]::wdN hi::r)) fun lo l1=>andP (AeQ [[46,46]] l1) fun _ l2=>andP (numP l2) fun hi l3=>.ok (.rng lo hi,l3):=rfl
    show domP (wdN lo::wdS [46,46]::wdN hi::r)=_
    rw [e,isW_N lo h1 _ (no_int _ (by decide)),isW_N lo h1 _ (no_int _ (by decide)),if_neg (by decide),if_neg (by decide),num_rd,AbY,AvZ,BaZ,AbY,num_rd,AbY]
 rw [e] at h
 split at h
 · rename_i hw
   obtain ⟨a1,a2⟩:=BfX hl hw
   obtain ⟨e1,e2⟩:=BiZ h
   subst e1;subst e2
   refine ⟨kBool,[wdK kBool],?_,fun y e hy hl=>ApX kBool y e (by decide) hy hl,fun r=>⟨.b,rfl,rfl,rfl⟩,a1,by omega,by simp only [List.length_cons,List.length_nil] at a2 ⊢;omega,Nat.zero_le _,fun r hr=>by cases hr⟩
   intro x hb hd
   have hb:x.bool=true:=hb
   have hd:x.dom=[]:=hd
   unfold domS
   rw [if_pos hb,hd];rfl
 · split at h
   · rename_i hw
     obtain ⟨a1,a2⟩:=BfX hl hw
     obtain ⟨ns,l1,hs,h⟩:=AfX h
     obtain ⟨e1,e2⟩:=BiZ h
     subst e1;subst e2
     obtain ⟨n,q,c,i0,i1,i3,i4,i6,i7,i8,i9,i10,i11,i12⟩:=setF_src 256 _ ns l1 a1 hs
     simp only [List.length_singleton] at a2
     have hrow:∀ r∈(Dm.set ns).rows,BcY r.1∧BcY r.2:=by
      intro r hr
      obtain ⟨m,hm,rfl⟩:=List.mem_map.1 hr
      exact ⟨i9 m hm,i9 m hm⟩
     have hlen:(Dm.set ns).rows.length≤256:=by
      show (ns.map _).length≤_
      rw [List.length_map];exact i1
     cases q with
     |
      nil =>
      subst i0
      have hn:=i9 n List.mem_cons_self
      obtain ⟨r1,r2⟩:=hrng n n hn hn
      refine ⟨_,_,?_,r1,fun r=>⟨_,r2 r,rfl,rfl⟩,i6,?_,?_,hlen,hrow⟩
      · intro x hb hd
        have hb:x.bool=false:=hb
        unfold domS
        rw [if_neg (by rw [hb];decide),hd];rfl
      · have:=i11 rfl
        simp only [List.length_append,List.length_cons,List.length_nil];omega
      · simp only [List.length_cons,List.length_nil];omega
     |
      cons m q =>
      refine ⟨[123]++joinB (itoas ns)++[125],wdS [123]::c,?_,?_,?_,i6,?_,?_,hlen,hrow⟩
      · intro x hb hd
        have hb:x.bool=false:=hb
        unfold domS
        rw [if_neg (by rw [hb];decide),hd]
        have hsg:∀ l:List Int,sgls (l.map fun n=>(n,n))=true:=by
         intro l
         induction l with
         | nil=>rfl
         | cons a l ih=>show (if a=a then sgls (l.map fun n=>(n,n)) else false)=true;rw [if_pos rfl];exact ih
        have e1:(Dm.set ns).rows=(n,n)::(m,m)::q.map fun n=>(n,n):=by rw [i0];rfl
        have e2:(Dm.set ns).rows.map (fun r=>Lib.itoa r.1)=itoas ns:=by
         show (ns.map _).map _=_
         rw [List.map_map];rfl
        have e3:sgls (Dm.set ns).rows=true:=hsg ns
        rw [e1] at hlen e2 e3 ⊢
        simp only
        rw [if_neg (by omega),if_pos e3,e2]
      · intro y e hy hl
        rw [List.append_assoc,List.append_assoc,List.cons_append]
        exact AsX 123 _ _ (by decide) (i3 y e hl)
      · intro r
        refine ⟨.set ns,?_,rfl,rfl⟩
        have e:domP (wdS [123]::(c++r))=andP (setF 256 (c++r)) fun r l1=>.ok (.set r,l1):=rfl
        show domP (wdS [123]::(c++r))=_
        rw [e,i4];rfl
      · simp only [List.length_append,List.length_cons,List.length_nil];omega
      · simp only [List.length_cons];omega
   · obtain ⟨lo,l1,h1,h⟩:=AfX h
     obtain ⟨_,l2,h2,h⟩:=AfX h
     obtain ⟨hi,l3,h3,h⟩:=AfX h
     obtain ⟨e1,e2⟩:=BiZ h
     subst e1;subst e2
     obtain ⟨a1,a2,a3,a4⟩:=num_src hl h1
     obtain ⟨b1,b2⟩:=AnQ _ a2 h2
     obtain ⟨c1,c2,c3,c4⟩:=num_src b1 h3
     simp only [lenS,List.length_cons,List.length_nil] at b2
     obtain ⟨r1,r2⟩:=hrng lo hi a1 c1
     refine ⟨_,_,?_,r1,fun r=>⟨_,r2 r,rfl,rfl⟩,c2,?_,?_,by show 1≤256;decide,?_⟩
     · intro x hb hd
       have hb:x.bool=false:=hb
       unfold domS
       rw [if_neg (by rw [hb];decide),hd];rfl
     · simp only [List.length_append,List.length_cons,List.length_nil];omega
     · simp only [List.length_cons,List.length_nil];omega
     · intro r hr
       rw [show (Dm.rng lo hi).rows=[(lo,hi)] from rfl,List.mem_singleton] at hr
       subst hr;exact ⟨a1,c1⟩
def oneP (l:List Tok):PR It:=andP (itemP l) fun x l1=>andP (AeQ [[59]] l1) fun _ l2=>.ok (x,l2)
structure ItOk (x:It) (t:Bs) (c:List Tok):Prop where
 sh:BaY x=(t,true)
 lx:∀ y d,LexR y d→LexR (t++y) (c++d)
 rd:∀ r,oneP (c++r)=.ok (x,r)
 fine:x.Fine
 vlen:x.vals.length≤64
 elen:∀ v∈x.vals,v.l.length≤64
def ItGood (l:List Tok) (x:It) (l':List Tok):Prop:=∃ t c,ItOk x t c∧Src l'∧t.length+1+4 * lenW l'≤4 * lenW l∧c.length+lenW l'≤lenW l∧1≤c.length
theorem end_rd (x:It) (r:List Tok):(andP (.ok (x,wdS [59]::r)) fun x l1=>andP (AeQ [[59]] l1) fun _ l2=>.ok (x,l2))=(.ok (x,r):PR It):=by
 rw [AbY,AvZ,BaZ,AbY]
theorem con_src {l:List Tok} (hl:Src l) (hw:isW kCon l=true) {x:It} {l':List Tok} (h:(andP (andP (BiQ l.tail) fun n l1=>andP (AeQ [[40]] l1) fun _ l2=>andP (BdY exprP [41] l2) fun v l3=>.ok (⟨5,n,false,[],0,false,v,0⟩,l3)) fun x l1=>andP (AeQ [[59]] l1) fun _ l2=>.ok (x,l2))=(.ok (x,l'):PR It)):ItGood l x l':=by
 obtain ⟨a1,a2⟩:=BfX hl hw
 obtain ⟨x',m1,h,hz⟩:=AfX h
 obtain ⟨n,l1,h1,h⟩:=AfX h
 obtain ⟨_,l2,h2,h⟩:=AfX h
 obtain ⟨v,l3,h3,h⟩:=AfX h
 obtain ⟨e1,e2⟩:=BiZ h
 subst e1;subst e2
 obtain ⟨_,l4,h4,hz⟩:=AfX hz
 obtain ⟨e1,e2⟩:=BiZ hz
 subst e1;subst e2
 obtain ⟨n1,n2,n3,n4⟩:=name_src a1 h1
 obtain ⟨b1,b2⟩:=AnQ _ n2 h2
 obtain ⟨t,c,i1,i2,i3,i4,i5,i6,i7,i8⟩:=exprs_src expr_one (.inr rfl) b1 h3
 obtain ⟨d1,d2⟩:=AnQ _ i5 h4
 rw [List.map_id] at i2
 simp only [lenS,List.length_cons,List.length_nil] at a2 b2 d2
 refine ⟨kCon++[32]++n++[40]++t++[41,59],wdK kCon::wdK n::wdS [40]::(c++[wdS [59]]),⟨?_,?_,?_,?_,i1,fun y hy=>(i8 y hy).2⟩,d1,?_,?_,?_⟩
 · show BfY _=_
   unfold BfY
   simp only [i2,name_ok n1]
   rfl
 · intro y d hy
   have e:kCon++[32]++n++[40]++t++[41,59]++y=kCon++(32::(n++(40::(t++([41]++(59::y)))))):=by simp
   have ec:(wdK kCon::wdK n::wdS [40]::(c++[wdS [59]]))++d=wdK kCon::wdK n::wdS [40]::(c++(wdS [59]::d)):=by simp
   rw [e,ec]
   exact ApX _ _ _ (by decide) rfl (AkX 32 _ _ (by decide) (ApX n _ _ n1.w rfl (AsX 40 _ _ (by decide) (i3 _ _ (AsX 59 _ _ (by decide) hy)))))
 · intro r
   have e:oneP (wdK kCon::wdK n::wdS [40]::(c++[wdS [59]]++r))=andP (andP (BiQ (wdK n::wdS [40]::(c++[wdS [59]]++r))) fun n l1=>andP (AeQ [[40]] l1) fun _ l2=>andP (BdY exprP [41] l2) fun v l3=>.ok (⟨5,n,false,[],0,false,v,0⟩,l3)) fun x l1=>andP (AeQ [[59]] l1) fun _ l2=>.ok (x,l2):=rfl
   show oneP (wdK kCon::wdK n::wdS [40]::(c++[wdS [59]]++r))=_
   rw [e,name_rd n n1.k,AbY,AvZ,BaZ,AbY,List.append_assoc,i4,AbY]
   exact end_rd _ _
 · exact ⟨by have:=n1.len;show n.length≤_;omega,zeroB,Nat.zero_le _,fun r hr=>(by cases hr),by show v.length≤_;omega,fun y hy=>(i8 y hy).1⟩
 · simp only [List.length_append,List.length_cons,List.length_nil];omega
 · simp only [List.length_append,List.length_cons,List.length_nil];omega
 · simp only [List.length_cons];omega
theorem goal_src {l:List Tok} (hl:Src l) (hw:isW BlQ l=true) {x:It} {l':List Tok} (h:(andP (goalP l.tail) fun x l1=>andP (AeQ [[59]] l1) fun _ l2=>.ok (x,l2))=(.ok (x,l'):PR It)):ItGood l x l':=by
 obtain ⟨a1,a2⟩:=BfX hl hw
 obtain ⟨x',m1,hg,hz⟩:=AfX h
 clear h
 obtain ⟨_,l4,h4,hz⟩:=AfX hz
 obtain ⟨e1,e2⟩:=BiZ hz
 subst e1;subst e2
 have e:∀ l,goalP l=if isW kSat l=true then .ok (⟨6,[],false,[],0,false,[],0⟩,l.tail) else if isW kMin l=true then andP (BiQ l.tail) fun n l1=>.ok (⟨6,n,false,[],0,false,[],1⟩,l1) else if isW kMax l=true then andP (BiQ l.tail) fun n l1=>.ok (⟨6,n,false,[],0,false,[],2⟩,l1) else .error (wrongE l):=fun _=>rfl
 have h:=hg
 clear hg
 rw [e] at h
 simp only [List.length_cons,List.length_nil] at a2
 have fine:∀ (n:Bs) (k:Int),n.length≤2000→(⟨6,n,false,[],0,false,[],k⟩:It).Fine:=fun n k hn=>⟨by show n.length≤_;omega,zeroB,Nat.zero_le _,fun r hr=>(by cases hr),Nat.zero_le _,fun r hr=>(by cases hr)⟩
 split at h
 · rename_i hs
   obtain ⟨b1,b2⟩:=BfX a1 hs
   obtain ⟨e1,e2⟩:=BiZ h
   subst e1;subst e2
   obtain ⟨d1,d2⟩:=AnQ _ b1 h4
   simp only [lenS,List.length_cons,List.length_nil] at b2 d2
   refine ⟨BlQ++[32]++kSat++[59],[wdK BlQ,wdK kSat,wdS [59]],⟨rfl,?_,fun r=>rfl,fine _ _ (Nat.zero_le _),Nat.zero_le _,fun r hr=>(by cases hr)⟩,d1,?_,?_,by simp⟩
   · intro y d hy
     exact ApX BlQ _ _ (by decide) rfl (AkX 32 _ _ (by decide) (ApX kSat _ _ (by decide) rfl (AsX 59 _ _ (by decide) hy)))
   · simp only [List.length_append,List.length_cons,List.length_nil];omega
   · simp only [List.length_append,List.length_cons,List.length_nil];omega
 · split at h
   · rename_i hs
     obtain ⟨b1,b2⟩:=BfX a1 hs
     obtain ⟨n,l1,h1,h⟩:=AfX h
     obtain ⟨e1,e2⟩:=BiZ h
     subst e1;subst e2
     obtain ⟨n1,n2,n3,n4⟩:=name_src b1 h1
     obtain ⟨d1,d2⟩:=AnQ _ n2 h4
     simp only [lenS,List.length_cons,List.length_nil] at b2 d2
     refine ⟨BlQ++[32]++kMin++[32]++n++[59],[wdK BlQ,wdK kMin,wdK n,wdS [59]],⟨?_,?_,?_,fine _ _ n1.len,Nat.zero_le _,fun r hr=>(by cases hr)⟩,d1,?_,?_,by simp⟩
     · rw [itemS_6 rfl]
       unfold goalS
       simp only [name_ok n1]
       rfl
     · intro y d hy
       have e:BlQ++[32]++kMin++[32]++n++[59]++y=BlQ++(32::(kMin++(32::(n++(59::y))))):=by simp
       rw [e]
       exact ApX BlQ _ _ (by decide) rfl (AkX 32 _ _ (by decide) (ApX kMin _ _ (by decide) rfl (AkX 32 _ _ (by decide) (ApX n _ _ n1.w rfl (AsX 59 _ _ (by decide) hy)))))
     · intro r
       have e:oneP (wdK BlQ::wdK kMin::wdK n::wdS [59]::r)=andP (andP (BiQ (wdK n::wdS [59]::r)) fun n l1=>.ok (⟨6,n,false,[],0,false,[],1⟩,l1)) fun x l1=>andP (AeQ [[59]] l1) fun _ l2=>.ok (x,l2):=rfl
       show oneP (wdK BlQ::wdK kMin::wdK n::wdS [59]::r)=_
       rw [e,name_rd n n1.k,AbY]
       exact end_rd _ _
     · simp only [List.length_append,List.length_cons,List.length_nil];omega
     · simp only [List.length_append,List.length_cons,List.length_nil];omega
   · split at h
     · rename_i hs
       obtain ⟨b1,b2⟩:=BfX a1 hs
       obtain ⟨n,l1,h1,h⟩:=AfX h
       obtain ⟨e1,e2⟩:=BiZ h
       subst e1;subst e2
       obtain ⟨n1,n2,n3,n4⟩:=name_src b1 h1
       obtain ⟨d1,d2⟩:=AnQ _ n2 h4
       simp only [lenS,List.length_cons,List.length_nil] at b2 d2
       refine ⟨BlQ++[32]++kMax++[32]++n++[59],[wdK BlQ,wdK kMax,wdK n,wdS [59]],⟨?_,?_,?_,fine _ _ n1.len,Nat.zero_le _,fun r hr=>(by cases hr)⟩,d1,?_,?_,by simp⟩
       · rw [itemS_6 rfl]
         unfold goalS
         simp only [name_ok n1]
         rfl
       · intro y d hy
         have e:BlQ++[32]++kMax++[32]++n++[59]++y=BlQ++(32::(kMax++(32::(n++(59::y))))):=by simp
         rw [e]
         exact ApX BlQ _ _ (by decide) rfl (AkX 32 _ _ (by decide) (ApX kMax _ _ (by decide) rfl (AkX 32 _ _ (by decide) (ApX n _ _ n1.w rfl (AsX 59 _ _ (by decide) hy)))))
       · intro r
         have e:oneP (wdK BlQ::wdK kMax::wdK n::wdS [59]::r)=andP (andP (BiQ (wdK n::wdS [59]::r)) fun n l1=>.ok (⟨6,n,false,[],0,false,[],2⟩,l1)) fun x l1=>andP (AeQ [[59]] l1) fun _ l2=>.ok (x,l2):=rfl
         show oneP (wdK BlQ::wdK kMax::wdK n::wdS [59]::r)=_
         rw [e,name_rd n n1.k,AbY]
         exact end_rd _ _
       · simp only [List.length_append,List.length_cons,List.length_nil];omega
       · simp only [List.length_append,List.length_cons,List.length_nil];omega
     · cases h
end Go.Proofs.YtcmphhedaefcgaaGreatDoor
end
section
namespace Go.Proofs.YtcmphhedaefcgaaGreatDoor
open Av
attribute [local irreducible] awp AbX
theorem PlS.two {p:Pe} {t:Bs} {c:List Tok} (h:PlS p t c) (hp:p.k=2) (r:List Tok):(isW tT (c++r) || isW fT (c++r))=true:=by
 cases h with
 | num n hn=>exact absurd hp (show ¬ (1:Int)=2 by decide)
 | tt=>rfl
 | ff=>rfl
 | name s hs=>exact absurd hp (show ¬ (3:Int)=2 by decide)
theorem PlS.uno {p:Pe} {t:Bs} {c:List Tok} (h:PlS p t c) (hp:p.k=1) (r:List Tok):(isW tT (c++r) || isW fT (c++r))=false∧BeQ (c++r)=2:=by
 cases h with
 | num n hn=>exact ⟨by show (isW tT (wdN n::r) || isW fT (wdN n::r))=false;rw [isW_N n hn _ (no_int _ (by decide)),isW_N n hn _ (no_int _ (by decide))];rfl,kind_N n r⟩
 | tt=>exact absurd hp (show ¬ (2:Int)=1 by decide)
 | ff=>exact absurd hp (show ¬ (2:Int)=1 by decide)
 | name s hs=>exact absurd hp (show ¬ (3:Int)=1 by decide)
theorem lx_truth (b:Bool) (y:Bs) (d:List Tok) (hy:nw y=true) (h:LexR y d):LexR (ApZ b++y) (wdK (ApZ b)::d):=ApX _ _ _ (truth_wd b) hy h
theorem par_src {l:List Tok} (hl:Src l) {x:It} {l':List Tok} (h:(andP (parP l) fun x l1=>andP (AeQ [[59]] l1) fun _ l2=>.ok (x,l2))=(.ok (x,l'):PR It)):ItGood l x l':=by
 obtain ⟨x',m1,hg,hz⟩:=AfX h
 clear h
 obtain ⟨_,l9,h9,hz⟩:=AfX hz
 obtain ⟨e1,e2⟩:=BiZ hz
 subst e1;subst e2
 have e:∀ l,parP l=andP (truthP l) fun b l1=>andP (AeQ [[58]] l1) fun _ l2=>andP (BiQ l2) fun n l3=>andP (AeQ [[61]] l3) fun _ l4 =>
  if b≠(isW tT l4 || isW fT l4)∨b=false∧BeQ l4≠2 then .error (wrongE l4)
  else andP (AjQ l4) fun p l5=>.ok (⟨1,n,b,[],0,false,[p.ex],0⟩,l5):=fun _=>rfl
 rw [e] at hg
 obtain ⟨b,l1,h1,hg⟩:=AfX hg
 obtain ⟨_,l2,h2,hg⟩:=AfX hg
 obtain ⟨n,l3,h3,hg⟩:=AfX hg
 obtain ⟨_,l4,h4,hg⟩:=AfX hg
 split at hg
 · cases hg
 · rename_i hc
   obtain ⟨p,l5,h5,hg⟩:=AfX hg
   obtain ⟨e1,e2⟩:=BiZ hg
   subst e1;subst e2
   obtain ⟨a1,a2⟩:=bool_src hl h1
   obtain ⟨b1,b2⟩:=AnQ _ a1 h2
   obtain ⟨n1,n2,n3,n4⟩:=name_src b1 h3
   obtain ⟨c1,c2⟩:=AnQ _ n2 h4
   obtain ⟨t,c,s1,s2,s3,s4,s5,s6⟩:=plain_src c1 h5
   obtain ⟨d1,d2⟩:=AnQ _ s2 h9
   simp only [lenS,List.length_cons,List.length_nil] at b2 c2 d2
   have hk:p.k=(if b=true then 2 else 1)∧∀ r,¬ (b≠(isW tT (c++r) || isW fT (c++r))∨b=false∧BeQ (c++r)≠2):=by
    cases b with
    |
     true =>
     have:(isW tT l4 || isW fT l4)=true:=by
      cases hb:(isW tT l4 || isW fT l4) with
      | true=>rfl
      | false=>exact absurd (.inl (by rw [hb];decide)) hc
     have hp:=s6 this
     refine ⟨hp,fun r hr=>?_⟩
     rw [s1.two hp r] at hr
     simp at hr
    |
     false =>
     have:BeQ l4=2:=Decidable.byContradiction fun hn=>hc (.inr ⟨rfl,hn⟩)
     have hp:=s5 this
     refine ⟨hp,fun r hr=>?_⟩
     obtain ⟨u1,u2⟩:=s1.uno hp r
     rw [u1,u2] at hr
     simp at hr
   refine ⟨ApZ b++[58,32]++n++[32,61,32]++t++[59],wdK (ApZ b)::wdS [58]::wdK n::wdS [61]::(c++[wdS [59]]),⟨?_,?_,?_,?_,by show 1≤64;decide,?_⟩,d1,?_,?_,?_⟩
   · rw [itemS_1 rfl]
     unfold parS
     simp only [joinS_one s1,name_ok n1]
     have:headK [p.ex] (if b=true then 2 else 1)=true:=decide_eq_true hk.1
     rw [this];rfl
   · intro y d hy
     have e:ApZ b++[58,32]++n++[32,61,32]++t++[59]++y=ApZ b++(58::32::(n++(32::61::32::(t++(59::y))))):=by simp
     have ec:(wdK (ApZ b)::wdS [58]::wdK n::wdS [61]::(c++[wdS [59]]))++d=wdK (ApZ b)::wdS [58]::wdK n::wdS [61]::(c++(wdS [59]::d)):=by simp
     rw [e,ec]
     exact lx_truth b _ _ rfl (lx_colon _ _ (ApX n _ _ n1.w rfl (AkX 32 _ _ (by decide) (AsX 61 _ _ (by decide) (AkX 32 _ _ (by decide) (plain_lx s1 _ _ rfl (AsX 59 _ _ (by decide) hy)))))))
   · intro r
     have ei:∀ q,oneP (wdK (ApZ b)::q)=andP (parP (wdK (ApZ b)::q)) fun x l1=>andP (AeQ [[59]] l1) fun _ l2=>.ok (x,l2):=by intro q;cases b <;> rfl
     have ec:(wdK (ApZ b)::wdS [58]::wdK n::wdS [61]::(c++[wdS [59]]))++r=wdK (ApZ b)::wdS [58]::wdK n::wdS [61]::(c++(wdS [59]::r)):=by simp
     rw [ec,ei,e,truth_rd,AbY,AvZ,BaZ,AbY,name_rd n n1.k,AbY,AvZ,BaZ,AbY,if_neg (hk.2 _),plain_rd s1,AbY]
     exact end_rd _ _
   · refine ⟨by have:=n1.len;show n.length≤_;omega,zeroB,Nat.zero_le _,fun r hr=>(by cases hr),by show 1≤900000000000;decide,fun y hy=>?_⟩
     rw [List.mem_singleton] at hy;subst hy;exact (exQ_ex s1.q).1
   · intro y hy
     rw [List.mem_singleton] at hy;subst hy;exact Nat.zero_le _
   · simp only [List.length_append,List.length_cons,List.length_nil];omega
   · simp only [List.length_append,List.length_cons,List.length_nil]
     have:1≤(ApZ b).length:=by cases b <;> decide
     omega
   · simp only [List.length_cons];omega
theorem outP_src {l:List Tok} (hl:Src l) {o:Bool} {l':List Tok} (h:outP l=.ok (o,l')):Src l'∧(o=true∧12+lenW l'=lenW l∨o=false∧l'=l):=by
 have e:outP l=if isW [58,58] l=true then andP (AeQ [kOutV] l.tail) fun _ l1=>.ok (true,l1) else .ok (false,l):=rfl
 rw [e] at h
 split at h
 · rename_i hw
   obtain ⟨a1,a2⟩:=BfX hl hw
   obtain ⟨_,l1,h1,h⟩:=AfX h
   obtain ⟨b1,b2⟩:=AnQ _ a1 h1
   obtain ⟨e1,e2⟩:=BiZ h
   subst e1;subst e2
   simp only [lenS,List.length_cons,List.length_nil] at a2 b2
   exact ⟨b1,.inl ⟨rfl,by omega⟩⟩
 · obtain ⟨e1,e2⟩:=BiZ h
   subst e1;subst e2
   exact ⟨hl,.inr ⟨rfl,rfl⟩⟩
theorem initP_src {l:List Tok} (hl:Src l) {v:List Ex} {l':List Tok} (h:initP l=.ok (v,l')):Src l'∧((∃ p t c,v=[p.ex]∧PlS p t c∧t.length+1+lenW l'≤lenW l∧c.length+1+lenW l'≤lenW l)∨v=[]∧l'=l):=by
 have e:initP l=if isW [61] l=true then andP (AjQ l.tail) fun p l1=>.ok ([p.ex],l1) else .ok ([],l):=rfl
 rw [e] at h
 split at h
 · rename_i hw
   obtain ⟨a1,a2⟩:=BfX hl hw
   obtain ⟨p,l1,h1,h⟩:=AfX h
   obtain ⟨t,c,s1,s2,s3,s4,_,_⟩:=plain_src a1 h1
   obtain ⟨e1,e2⟩:=BiZ h
   subst e1;subst e2
   simp only [List.length_singleton] at a2
   exact ⟨s2,.inl ⟨p,t,c,rfl,s1,by omega,by omega⟩⟩
 · obtain ⟨e1,e2⟩:=BiZ h
   subst e1;subst e2
   exact ⟨hl,.inr ⟨rfl,rfl⟩⟩
structure InOk (v:List Ex) (t:Bs) (c:List Tok):Prop where
 sh:(if v≠[] then [32,61,32]++(BbQ AfQ v).1 else [])=t
 two:(BbQ AfQ v).2=true
 lx:∀ y d,LexR y d→LexR (t++(59::y)) (c++(wdS [59]::d))
 nw:∀ y,nw (t++(59::y))=true
 rd:∀ r,initP (c++(wdS [59]::r))=.ok (v,wdS [59]::r)
 no:∀ r,outP (c++(wdS [59]::r))=.ok (false,c++(wdS [59]::r))
 len:v.length≤1
 q:∀ x∈v,ExQ x
theorem in_ok {l:List Tok} (hl:Src l) {v:List Ex} {l':List Tok} (h:initP l=.ok (v,l')):∃ t c,InOk v t c∧Src l'∧t.length+4 * lenW l'≤4 * lenW l∧c.length+lenW l'≤lenW l:=by
 obtain ⟨h1,h2⟩:=initP_src hl h
 rcases h2 with ⟨p,t,c,rfl,s1,s2,s3⟩ | ⟨rfl,rfl⟩
 · refine ⟨32::61::32::t,wdS [61]::c,⟨?_,?_,?_,fun y=>rfl,?_,fun r=>rfl,Nat.le_refl _,?_⟩,h1,?_,?_⟩
   · rw [if_pos (by simp),joinS_one s1];rfl
   · rw [joinS_one s1]
   · intro y d hy
     exact AkX 32 _ _ (by decide) (AsX 61 _ _ (by decide) (AkX 32 _ _ (by decide) (plain_lx s1 _ _ rfl (AsX 59 _ _ (by decide) hy))))
   · intro r
     have e:initP (wdS [61]::(c++(wdS [59]::r)))=andP (AjQ (c++(wdS [59]::r))) fun p l1=>.ok ([p.ex],l1):=rfl
     show initP (wdS [61]::(c++(wdS [59]::r)))=_
     rw [e,plain_rd s1];rfl
   · intro y hy
     rw [List.mem_singleton] at hy;subst hy;exact exQ_ex s1.q
   · simp only [List.length_cons];omega
   · simp only [List.length_cons];omega
 · exact ⟨[],[],⟨rfl,rfl,fun y d hy=>AsX 59 _ _ (by decide) hy,fun y=>rfl,fun r=>rfl,fun r=>rfl,Nat.zero_le _,fun x hx=>(by cases hx)⟩,h1,by simp,by simp⟩
theorem var_src {l:List Tok} (hl:Src l) (hw:isW kVar l=true) {x:It} {l':List Tok} (h:(andP (BgZ l.tail) fun x l1=>andP (AeQ [[59]] l1) fun _ l2=>.ok (x,l2))=(.ok (x,l'):PR It)):ItGood l x l':=by
 obtain ⟨w1,w2⟩:=BfX hl hw
 obtain ⟨x',m1,hg,hz⟩:=AfX h
 clear h
 obtain ⟨_,l9,h9,hz⟩:=AfX hz
 obtain ⟨e1,e2⟩:=BiZ hz
 subst e1;subst e2
 have e:∀ l,BgZ l=andP (domP l) fun d l1=>andP (AeQ [[58]] l1) fun _ l2=>andP (BiQ l2) fun n l3=>andP (outP l3) fun o l4=>andP (initP l4) fun v l5=>.ok (⟨2,n,d.isB,d.rows,0,o,v,0⟩,l5):=fun _=>rfl
 rw [e] at hg
 obtain ⟨dm,l1,h1,hg⟩:=AfX hg
 obtain ⟨_,l2,h2,hg⟩:=AfX hg
 obtain ⟨n,l3,h3,hg⟩:=AfX hg
 obtain ⟨o,l4,h4,hg⟩:=AfX hg
 obtain ⟨v,l5,h5,hg⟩:=AfX hg
 obtain ⟨e1,e2⟩:=BiZ hg
 subst e1;subst e2
 obtain ⟨td,cd,a1,a2,a3,a4,a5,a6,a7,a8⟩:=dom_src w1 h1
 obtain ⟨b1,b2⟩:=AnQ _ a4 h2
 obtain ⟨n1,n2,n3,n4⟩:=name_src b1 h3
 obtain ⟨c1,c2⟩:=outP_src n2 h4
 obtain ⟨ti,ci,i1,i2,i3,i4⟩:=in_ok c1 h5
 obtain ⟨d1,d2⟩:=AnQ _ i2 h9
 simp only [lenS,List.length_cons,List.length_nil] at w2 b2 d2
 have ho:∃ to co,(if o=true then ([32,58,58,32,111,117,116,112,117,116,95,118,97,114]:Bs) else [])=to∧(∀ y d,nw y=true→LexR y d→LexR (to++y) (co++d))∧(∀ y,nw y=true→nw (to++y)=true)∧(∀ r,outP (co++(ci++(wdS [59]::r)))=.ok (o,ci++(wdS [59]::r)))∧to.length+4 * lenW l4≤4 * lenW l3∧co.length+lenW l4≤lenW l3:=by
  rcases c2 with ⟨rfl,c2⟩ | ⟨rfl,rfl⟩
  · refine ⟨_,[wdS [58,58],wdK kOutV],rfl,?_,fun y hy=>rfl,fun r=>rfl,?_,?_⟩
    · intro y d hy hl
      exact AkX 32 _ _ (by decide) (lx_colons _ _ (AkX 32 _ _ (by decide) (ApX kOutV _ _ (by decide) hy hl)))
    · simp only [if_true,List.length_cons,List.length_nil];omega
    · simp only [List.length_cons,List.length_nil];omega
  · exact ⟨[],[],rfl,fun y d hy hl=>hl,fun y hy=>hy,fun r=>i1.no r,by simp,by simp⟩
 obtain ⟨to,co,o1,o2,o3,o4,o5,o6⟩:=ho
 refine ⟨kVar++[32]++td++[58,32]++n++to++ti++[59],wdK kVar::(cd++(wdS [58]::wdK n::(co++(ci++[wdS [59]])))),⟨?_,?_,?_,?_,by have:=i1.len;show v.length≤64;omega,fun y hy=>(i1.q y hy).2⟩,d1,?_,?_,?_⟩
 · rw [itemS_2 rfl]
   unfold AwQ
   rw [a1 ⟨2,n,dm.isB,dm.rows,0,o,v,0⟩ rfl rfl]
   simp only [o1,i1.sh,i1.two,name_ok n1,i1.len,decide_true,Bool.and_self]
   rfl
 · intro y d hy
   have e:kVar++[32]++td++[58,32]++n++to++ti++[59]++y=kVar++(32::(td++(58::32::(n++(to++(ti++(59::y))))))):=by simp
   have ec:(wdK kVar::(cd++(wdS [58]::wdK n::(co++(ci++[wdS [59]])))))++d=wdK kVar::(cd++(wdS [58]::wdK n::(co++(ci++(wdS [59]::d))))):=by simp
   rw [e,ec]
   exact ApX kVar _ _ (by decide) rfl (AkX 32 _ _ (by decide) (a2 _ _ rfl (lx_colon _ _ (ApX n _ _ n1.w (o3 _ (i1.nw y)) (o2 _ _ (i1.nw y) (i1.lx y d hy))))))
 · intro r
   have ei:∀ q,oneP (wdK kVar::q)=andP (BgZ q) fun x l1=>andP (AeQ [[59]] l1) fun _ l2=>.ok (x,l2):=fun q=>rfl
   have ec:(wdK kVar::(cd++(wdS [58]::wdK n::(co++(ci++[wdS [59]])))))++r=wdK kVar::(cd++(wdS [58]::wdK n::(co++(ci++(wdS [59]::r))))):=by simp
   obtain ⟨dm',k1,k2,k3⟩:=a3 (wdS [58]::wdK n::(co++(ci++(wdS [59]::r))))
   rw [ec,ei,e,k1,AbY,AvZ,BaZ,AbY,name_rd n n1.k,AbY,o4,AbY,i1.rd,AbY,k2,k3]
   exact end_rd _ _
 · exact ⟨by have:=n1.len;show n.length≤_;omega,zeroB,by show dm.rows.length≤_;omega,a8,by have:=i1.len;show v.length≤_;omega,fun y hy=>(i1.q y hy).1⟩
 · simp only [List.length_append,List.length_cons,List.length_nil];omega
 · simp only [List.length_append,List.length_cons,List.length_nil];omega
 · simp only [List.length_cons];omega
end Go.Proofs.YtcmphhedaefcgaaGreatDoor
end
section
namespace Go.Proofs.YtcmphhedaefcgaaGreatDoor
open Av
attribute [local irreducible] awp AbX
theorem lx_size (n:Int) (hn:BcY n) (y:Bs) (d:List Tok) (h:LexR y d):LexR (91::49::46::46::(Lib.itoa n++(93::y))) (wdS [91]::wdN 1::wdS [46,46]::wdN n::wdS [93]::d):=by
 have h1:=lx_num 1 (46::46::(Lib.itoa n++(93::y))) _ ⟨by decide,by decide⟩ rfl (lx_dots _ _ (lx_num n _ _ hn rfl (AsX 93 _ _ (by decide) h)))
 rw [itoa_1] at h1
 exact AsX 91 _ _ (by decide) h1
theorem outA_src {v:Bool} {size:Int} (hsz:BcY size) {l:List Tok} (hl:Src l) {o:Bool} {l':List Tok} (h:outAP v size l=.ok (o,l')):Src l'∧(o=true∧v=true∧18+(Lib.itoa size).length+lenW l'≤lenW l∨o=false∧l'=l):=by
 have e:outAP v size l=if (v && isW [58,58] l)=true then andP (AeQ [kOutA,[40],[91]] l.tail) fun _ l1=>andP (BmY 1 l1) fun _ l2=>andP (AeQ [[46,46]] l2) fun _ l3=>andP (BmY size l3) fun _ l4=>andP (AeQ [[93],[41]] l4) fun _ l5=>.ok (true,l5) else .ok (false,l):=rfl
 rw [e] at h
 split at h
 · rename_i hw
   rw [Bool.and_eq_true] at hw
   obtain ⟨a1,a2⟩:=BfX hl hw.2
   obtain ⟨_,l1,h1,h⟩:=AfX h
   obtain ⟨_,l2,h2,h⟩:=AfX h
   obtain ⟨_,l3,h3,h⟩:=AfX h
   obtain ⟨_,l4,h4,h⟩:=AfX h
   obtain ⟨_,l5,h5,h⟩:=AfX h
   obtain ⟨e1,e2⟩:=BiZ h
   subst e1;subst e2
   obtain ⟨b1,b2⟩:=AnQ _ a1 h1
   obtain ⟨_,c2,c3,c4⟩:=exact_src b1 h2
   obtain ⟨d1,d2⟩:=AnQ _ c2 h3
   obtain ⟨_,f2,f3,f4⟩:=exact_src d1 h4
   obtain ⟨g1,g2⟩:=AnQ _ f2 h5
   simp only [lenS,List.length_cons,List.length_nil] at a2 b2 d2 g2
   exact ⟨g1,.inl ⟨rfl,hw.1,by omega⟩⟩
 · obtain ⟨e1,e2⟩:=BiZ h
   subst e1;subst e2
   exact ⟨hl,.inr ⟨rfl,rfl⟩⟩
theorem arr_src {l:List Tok} (hl:Src l) (hw:isW kArr l=true) {x:It} {l':List Tok} (h:(andP (arrayP l.tail) fun x l1=>andP (AeQ [[59]] l1) fun _ l2=>.ok (x,l2))=(.ok (x,l'):PR It)):ItGood l x l':=by
 obtain ⟨w1,w2⟩:=BfX hl hw
 obtain ⟨x',m1,hg,hz⟩:=AfX h
 clear h
 obtain ⟨_,l12,h12,hz⟩:=AfX hz
 obtain ⟨e1,e2⟩:=BiZ hz
 subst e1;subst e2
 have e:∀ l,arrayP l=andP (AeQ [[91]] l) fun _ l1=>andP (BmY 1 l1) fun _ l2=>andP (AeQ [[46,46]] l2) fun _ l3=>andP (numP l3) fun size l4=>andP (AeQ [[93],kOf] l4) fun _ l5 =>
  andP (truthP (mayR kVar l5)) fun b l6=>andP (AeQ [[58]] l6) fun _ l7=>andP (BiQ l7) fun n l8=>andP (outAP (isW kVar l5) size l8) fun o l9 =>
   andP (AeQ [[61],[91]] l9) fun _ l10=>andP (BdY AjQ [93] l10) fun v l11=>.ok (⟨if isW kVar l5=true then 4 else 3,n,b,[],size,o,v.map Pe.ex,0⟩,l11):=fun _=>rfl
 rw [e] at hg
 obtain ⟨_,l1,h1,hg⟩:=AfX hg
 obtain ⟨_,l2,h2,hg⟩:=AfX hg
 obtain ⟨_,l3,h3,hg⟩:=AfX hg
 obtain ⟨size,l4,h4,hg⟩:=AfX hg
 obtain ⟨_,l5,h5,hg⟩:=AfX hg
 obtain ⟨b,l6,h6,hg⟩:=AfX hg
 obtain ⟨_,l7,h7,hg⟩:=AfX hg
 obtain ⟨n,l8,h8,hg⟩:=AfX hg
 obtain ⟨o,l9,h9,hg⟩:=AfX hg
 obtain ⟨_,l10,h10,hg⟩:=AfX hg
 obtain ⟨v,l11,h11,hg⟩:=AfX hg
 obtain ⟨e1,e2⟩:=BiZ hg
 subst e1;subst e2
 obtain ⟨a1,a2⟩:=AnQ _ w1 h1
 obtain ⟨_,b2,b3,b4⟩:=exact_src a1 h2
 obtain ⟨c1,c2⟩:=AnQ _ b2 h3
 obtain ⟨z1,z2,z3,z4⟩:=num_src c1 h4
 obtain ⟨f1,f2⟩:=AnQ _ z2 h5
 obtain ⟨vr,hvr⟩:∃ vr,isW kVar l5=vr:=⟨_,rfl⟩
 have hv:∃ tv cv,(if vr=true then ([118,97,114,32]:Bs) else [])=tv∧(∀ y d,LexR y d→LexR (tv++y) (cv++d))∧(∀ q,isW kVar (cv++(wdK (ApZ b)::q))=vr)∧(∀ q,mayR kVar (cv++(wdK (ApZ b)::q))=wdK (ApZ b)::q)∧Src (mayR kVar l5)∧tv.length+4 * lenW (mayR kVar l5)≤4 * lenW l5∧cv.length+lenW (mayR kVar l5)≤lenW l5:=by
  cases vr with
  |
   true =>
   obtain ⟨q1,q2⟩:=BfX f1 hvr
   have em:mayR kVar l5=l5.tail:=by unfold mayR;rw [if_pos hvr]
   rw [em]
   simp only [List.length_cons,List.length_nil] at q2
   refine ⟨_,[wdK kVar],rfl,fun y d hy=>ApX kVar (32::y) d (by decide) rfl (AkX 32 _ _ (by decide) hy),fun q=>rfl,fun q=>rfl,q1,?_,?_⟩
   · simp only [if_true,List.length_cons,List.length_nil];omega
   · simp only [List.length_cons,List.length_nil];omega
  |
   false =>
   have em:mayR kVar l5=l5:=by unfold mayR;rw [if_neg (by rw [hvr];decide)]
   rw [em]
   exact ⟨[],[],rfl,fun y d hy=>hy,fun q=>(by cases b <;> rfl),fun q=>(by cases b <;> rfl),f1,by simp,by simp⟩
 obtain ⟨tv,cv,v1,v2,v3,v4,v5,v6,v7⟩:=hv
 rw [hvr] at h9
 obtain ⟨t1,t2⟩:=bool_src v5 h6
 obtain ⟨g1,g2⟩:=AnQ _ t1 h7
 obtain ⟨n1,n2,n3,n4⟩:=name_src g1 h8
 obtain ⟨o1,o2⟩:=outA_src z1 n2 h9
 obtain ⟨p1,p2⟩:=AnQ _ o1 h10
 obtain ⟨tj,cj,i1,i2,i3,i4,i5,i6,i7,i8⟩:=exprs_src plain_one (.inl rfl) p1 h11
 obtain ⟨d1,d2⟩:=AnQ _ i5 h12
 have ho:∃ to co,(if o=true then ([32,58,58,32,111,117,116,112,117,116,95,97,114,114,97,121,40]++([91,49,46,46]++Lib.itoa size++[93])++[41]:Bs) else [])=to∧(∀ y d,LexR y d→LexR (to++(32::y)) (co++d))∧(∀ y,nw (to++(32::y))=true)∧(∀ r,outAP vr size (co++(wdS [61]::r))=.ok (o,wdS [61]::r))∧to.length+4 * lenW l9≤4 * lenW l8∧co.length+lenW l9≤lenW l8∧(o=true→vr=true):=by
  rcases o2 with ⟨rfl,rfl,o2⟩ | ⟨rfl,rfl⟩
  · refine ⟨_,[wdS [58,58],wdK kOutA,wdS [40],wdS [91],wdN 1,wdS [46,46],wdN size,wdS [93],wdS [41]],rfl,?_,fun y=>rfl,?_,?_,?_,fun _=>rfl⟩
    · intro y d hy
      have ex:(if true=true then ([32,58,58,32,111,117,116,112,117,116,95,97,114,114,97,121,40]++([91,49,46,46]++Lib.itoa size++[93])++[41]:Bs) else [])++(32::y)=32::58::58::32::(kOutA++(40::91::49::46::46::(Lib.itoa size++(93::41::32::y)))):=by simp
      rw [ex]
      exact AkX 32 _ _ (by decide) (lx_colons _ _ (AkX 32 _ _ (by decide) (ApX kOutA _ _ (by decide) rfl (AsX 40 _ _ (by decide) (lx_size size z1 _ _ (AsX 41 _ _ (by decide) (AkX 32 _ _ (by decide) hy)))))))
    · intro r
      have ea:outAP true size (wdS [58,58]::wdK kOutA::wdS [40]::wdS [91]::wdN 1::wdS [46,46]::wdN size::wdS [93]::wdS [41]::wdS [61]::r)=andP (AeQ [kOutA,[40],[91]] (wdK kOutA::wdS [40]::wdS [91]::wdN 1::wdS [46,46]::wdN size::wdS [93]::wdS [41]::wdS [61]::r)) fun _ l1=>andP (BmY 1 l1) fun _ l2=>andP (AeQ [[46,46]] l2) fun _ l3=>andP (BmY size l3) fun _ l4=>andP (AeQ [[93],[41]] l4) fun _ l5=>.ok (true,l5):=rfl
      show outAP true size (wdS [58,58]::wdK kOutA::wdS [40]::wdS [91]::wdN 1::wdS [46,46]::wdN size::wdS [93]::wdS [41]::wdS [61]::r)=_
      rw [ea,take_rdK,AvZ,AvZ,BaZ,AbY,exact_rd,AbY,AvZ,BaZ,AbY,exact_rd,AbY,AvZ,AvZ,BaZ,AbY]
    · simp only [if_true,List.length_append,List.length_cons,List.length_nil];omega
    · simp only [List.length_cons,List.length_nil];omega
  · refine ⟨[],[],rfl,fun y d hy=>AkX 32 _ _ (by decide) hy,fun y=>rfl,fun r=>?_,by simp,by simp,fun h=>(by cases h)⟩
    cases vr <;> rfl
 obtain ⟨to,co,q1,q2,q3,q4,q5,q6,q7⟩:=ho
 simp only [lenS,List.length_cons,List.length_nil] at w2 a2 c2 f2 g2 p2 d2
 have hkd:(if isW kVar l5=true then (4:Int) else 3)=if vr=true then 4 else 3:=by rw [hvr]
 rw [hkd]
 have hk34:(if vr=true then (4:Int) else 3)=3∨(if vr=true then (4:Int) else 3)=4:=by cases vr;exact .inl rfl;exact .inr rfl
 have hk4:((if vr=true then (4:Int) else 3)=4)↔vr=true:=by cases vr <;> decide
 refine ⟨kArr++[32]++([91,49,46,46]++Lib.itoa size++[93])++[32,111,102,32]++tv++ApZ b++[58,32]++n++to++[32,61,32,91]++tj++[93,59],wdK kArr::wdS [91]::wdN 1::wdS [46,46]::wdN size::wdS [93]::wdK kOf::(cv++(wdK (ApZ b)::wdS [58]::wdK n::(co++(wdS [61]::wdS [91]::(cj++[wdS [59]]))))),⟨?_,?_,?_,?_,by show (v.map Pe.ex).length≤64;rw [List.length_map];exact i1,?_⟩,d1,?_,?_,?_⟩
 · rw [itemS_3 hk34]
   unfold arrayS sizeS
   have ex:(if (if vr=true then (4:Int) else 3)=4 then ([118,97,114,32]:Bs) else [])=tv:=by rw [← v1];cases vr <;> rfl
   have eo:(!o || decide ((if vr=true then (4:Int) else 3)=4))=true:=by
    cases o with
    | false=>rfl
    | true=>rw [q7 rfl];rfl
   simp only [i2,ex,eo,q1,name_ok n1]
   rfl
 · intro y d hy
   have e:kArr++[32]++([91,49,46,46]++Lib.itoa size++[93])++[32,111,102,32]++tv++ApZ b++[58,32]++n++to++[32,61,32,91]++tj++[93,59]++y=kArr++(32::91::49::46::46::(Lib.itoa size++(93::32::(kOf++(32::(tv++(ApZ b++(58::32::(n++(to++(32::61::32::91::(tj++([93]++(59::y)))))))))))))):=by simp
   have ec:(wdK kArr::wdS [91]::wdN 1::wdS [46,46]::wdN size::wdS [93]::wdK kOf::(cv++(wdK (ApZ b)::wdS [58]::wdK n::(co++(wdS [61]::wdS [91]::(cj++[wdS [59]]))))))++d=wdK kArr::wdS [91]::wdN 1::wdS [46,46]::wdN size::wdS [93]::wdK kOf::(cv++(wdK (ApZ b)::wdS [58]::wdK n::(co++(wdS [61]::wdS [91]::(cj++(wdS [59]::d)))))):=by simp
   rw [e,ec]
   exact ApX kArr _ _ (by decide) rfl (AkX 32 _ _ (by decide) (lx_size size z1 _ _ (AkX 32 _ _ (by decide) (ApX kOf _ _ (by decide) rfl (AkX 32 _ _ (by decide) (v2 _ _ (lx_truth b _ _ rfl (lx_colon _ _ (ApX n _ _ n1.w (q3 _) (q2 _ _ (AsX 61 _ _ (by decide) (AkX 32 _ _ (by decide) (AsX 91 _ _ (by decide) (i3 _ _ (AsX 59 _ _ (by decide) hy)))))))))))))))
 · intro r
   have ei:∀ q,oneP (wdK kArr::q)=andP (arrayP q) fun x l1=>andP (AeQ [[59]] l1) fun _ l2=>.ok (x,l2):=fun q=>rfl
   have ec:(wdK kArr::wdS [91]::wdN 1::wdS [46,46]::wdN size::wdS [93]::wdK kOf::(cv++(wdK (ApZ b)::wdS [58]::wdK n::(co++(wdS [61]::wdS [91]::(cj++[wdS [59]]))))))++r=wdK kArr::wdS [91]::wdN 1::wdS [46,46]::wdN size::wdS [93]::wdK kOf::(cv++(wdK (ApZ b)::wdS [58]::wdK n::(co++(wdS [61]::wdS [91]::(cj++(wdS [59]::r)))))):=by simp
   rw [ec,ei,e,AvZ,BaZ,AbY,exact_rd,AbY,AvZ,BaZ,AbY,num_rd,AbY,AvZ,take_rdK,BaZ,AbY,v4,v3,truth_rd,AbY,AvZ,BaZ,AbY,name_rd n n1.k,AbY,q4,AbY,AvZ,AvZ,BaZ,AbY,i4,AbY]
   exact end_rd _ _
 · refine ⟨by have:=n1.len;show n.length≤_;omega,z1,Nat.zero_le _,fun r hr=>(by cases hr),by show (v.map Pe.ex).length≤_;rw [List.length_map];omega,fun y hy=>?_⟩
   obtain ⟨p,hp,rfl⟩:=List.mem_map.1 hy
   exact (exQ_ex (i8 p hp)).1
 · intro y hy
   obtain ⟨p,hp,rfl⟩:=List.mem_map.1 hy
   exact Nat.zero_le _
 · simp only [List.length_append,List.length_cons,List.length_nil]
   omega
 · simp only [List.length_append,List.length_cons,List.length_nil]
   have:1≤(ApZ b).length:=by cases b <;> decide
   omega
 · simp only [List.length_cons];omega
theorem item_src {l:List Tok} (hl:Src l) {x:It} {l':List Tok} (h:oneP l=.ok (x,l')):ItGood l x l':=by
 unfold oneP at h
 have e:itemP l=if (isW kInt l || isW kBool l)=true then parP l
  else if isW kVar l=true then BgZ l.tail
  else if isW kArr l=true then arrayP l.tail
  else if isW kCon l=true then andP (BiQ l.tail) fun n l1=>andP (AeQ [[40]] l1) fun _ l2=>andP (BdY exprP [41] l2) fun v l3=>.ok (⟨5,n,false,[],0,false,v,0⟩,l3)
  else if isW BlQ l=true then goalP l.tail
  else .error (wrongE l):=rfl
 rw [e] at h
 by_cases c1:(isW kInt l || isW kBool l)=true
 · rw [if_pos c1] at h;exact par_src hl h
 rw [if_neg c1] at h
 by_cases c2:isW kVar l=true
 · rw [if_pos c2] at h;exact var_src hl c2 h
 rw [if_neg c2] at h
 by_cases c3:isW kArr l=true
 · rw [if_pos c3] at h;exact arr_src hl c3 h
 rw [if_neg c3] at h
 by_cases c4:isW kCon l=true
 · rw [if_pos c4] at h;exact con_src hl c4 h
 rw [if_neg c4] at h
 by_cases c5:isW BlQ l=true
 · rw [if_pos c5] at h;exact goal_src hl c5 h
 rw [if_neg c5] at h
 cases h
theorem allF_one (k:Nat) (t:Tok) (l:List Tok):allF (k+1) (t::l)=match oneP (t::l) with
 | .ok (x,l2)=>(allF k l2).map (x::·)
 | .error e=>.error e:=rfl
theorem all_src:∀ (k:Nat) (l:List Tok) (its:List It),Src l→allF k l=.ok its →
 ∃ t c,allS_ its=some t∧LexR t c∧allF k c=.ok its∧t.length≤4 * lenW l∧c.length≤lenW l∧its.length≤k∧∀ x∈its,x.Fine∧x.vals.length≤64∧∀ v∈x.vals,v.l.length≤64
 |
  k,[],its,hl,h=>by
  have:allF k []=.ok []:=by cases k <;> rfl
  rw [this] at h
  injection h with h;subst h
  exact ⟨[],[],rfl,.nil,this,Nat.zero_le _,Nat.zero_le _,Nat.zero_le _,fun x hx=>(by cases hx)⟩
 | 0,t::l,its,hl,h=>by cases h
 |
  k+1,t::l,its,hl,h=>by
  rw [allF_one] at h
  cases ho:oneP (t::l) with
  | error e=>rw [ho] at h;cases h
  |
   ok p =>
   obtain ⟨x,l2⟩:=p
   rw [ho] at h
   simp only at h
   cases hr:allF k l2 with
   | error e=>rw [hr] at h;cases h
   |
    ok its' =>
    rw [hr] at h
    injection h with h;subst h
    obtain ⟨tx,cx,x1,x2,x3,x4,x5⟩:=item_src hl ho
    obtain ⟨tr,cr,r1,r2,r3,r4,r5,r6,r7⟩:=all_src k l2 its' x2 hr
    have hlen:=hl.len
    refine ⟨tx++[10]++tr,cx++cr,?_,?_,?_,?_,?_,?_,?_⟩
    · have hlx:=x1.lx [] [] .nil
      rw [List.append_nil,List.append_nil] at hlx
      obtain ⟨_,f2⟩:=parse_lexR hlx (by omega) (by omega)
      have hf:AdX x=true:=by
       unfold AdX fitsB
       rw [x1.sh]
       simp only [f2,decide_true,Bool.and_self]
      show (if AdX x=true then (allS_ its').map fun r=>(BaY x).1++[10]++r else none)=_
      rw [if_pos hf,r1,x1.sh];rfl
    · rw [List.append_assoc]
      exact x1.lx _ _ (AkX 10 _ _ (by decide) r2)
    · cases cx with
      | nil=>simp at x5
      |
       cons u cx =>
       have hrd:=x1.rd cr
       rw [List.cons_append] at hrd ⊢
       rw [allF_one,hrd]
       show (allF k cr).map (x::·)=_
       rw [r3];rfl
    · simp only [List.length_append,List.length_cons,List.length_nil];omega
    · rw [List.length_append];omega
    · rw [List.length_cons];omega
    · intro y hy
      rcases List.mem_cons.1 hy with rfl | hy
      · exact ⟨x1.fine,x1.vlen,x1.elen⟩
      · exact r7 y hy
theorem round_text {s:Bs} (hs:s.length≤2000) {its:List It} (h:BtZ s=.ok its) :
 ∃ t,showS its=(t,0)∧BtZ t=.ok its∧t.length≤8000∧its.length≤512∧∀ x∈its,x.Fine∧x.vals.length≤64∧∀ v∈x.vals,v.l.length≤64:=by
 unfold BtZ at h
 cases hl:lexS s with
 | error e=>rw [hl] at h;cases h
 |
  ok ts =>
  rw [hl] at h
  simp only at h
  obtain ⟨k1,k2⟩:=lexS_ok hl
  obtain ⟨t,c,r1,r2,r3,r4,r5,r6,r7⟩:=all_src 512 ts its ⟨k1,by omega⟩ h
  obtain ⟨p1,p2⟩:=parse_lexR r2 (by omega) (by omega)
  refine ⟨t,?_,by rw [p1,r3],by omega,r6,r7⟩
  unfold showS
  rw [if_neg (by omega),r1]
  show (if fitsB t=true then (t,0) else (([],3):Bs × Int))=_
  have:fitsB t=true:=decide_eq_true p2
  rw [if_pos this]
end Go.Proofs.YtcmphhedaefcgaaGreatDoor
end
