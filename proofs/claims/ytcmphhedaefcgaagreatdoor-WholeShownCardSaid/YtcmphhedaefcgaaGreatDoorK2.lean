/- Abstract code: calls, loops, walks. -/
import Derived.Test.YtcmphhedaefcgaaGreatDoorK1
set_option linter.unusedVariables false
set_option linter.unusedSimpArgs false
section
namespace Go.Proofs.YtcmphhedaefcgaaGreatDoor.Av
def Ctr (P:Program) (f:FuncId) (args:List AV) (bs:Bx) (r:AV) (bs':Bx):Prop :=
 (∀ (xs:Array Value) (w:World),(callFunc f xs).run P w=.ok (.enter f xs) w) ∧
 ∀ (w0:World) (pr fz:Fz) (pl:Pl) (w:World) (cs:Array Value),Sim w0 pr fz pl bs w→args.length=cs.size→(∀ (i:Nat) v c,args[i]? = some v→cs[i]? = some c→Rep fz pl v c) →
  Calls P f cs w fun e w'=>∃ cv fz' pl',e=.returned cv∧FzLe fz fz'∧pl <+: pl'∧Rep fz' pl' r cv∧Sim w0 pr fz' pl' bs' w'
mutual
def wk:AV→AV→Prop
 | .any,_=>True
 | .list _ [],.nils=>True
 | .agg l,.agg r=>wkL l r
 | .tuple l,.tuple r=>wkL l r
 | v,u=>v=u
def wkL:List AV→List AV→Prop
 | [],[]=>True
 | v::l,u::r=>wk v u∧wkL l r
 | _,_=>False
end
mutual
theorem wk_refl:∀ v:AV,wk v v
 | .any=>by simp [wk]
 | .agg l=>by simp only [wk];exact AaQ l
 | .tuple l=>by simp only [wk];exact AaQ l
 | .list _ []=>by simp [wk]
 | .list _ (_::_)=>by simp [wk]
 | .int ..=>by simp [wk]
 | .bool _=>by simp [wk]
 | .str _=>by simp [wk]
 | .nils=>by simp [wk]
 | .nilp=>by simp [wk]
 | .nilf=>by simp [wk]
 | .fn ..=>by simp [wk]
 | .rptr _=>by simp [wk]
 | .ptr ..=>by simp [wk]
 | .sl ..=>by simp [wk]
 | .nilm=>by simp [wk]
 | .mp _=>by simp [wk]
 | .ifn=>by simp [wk]
 | .ifc=>by simp [wk]
 | .fb ..=>by simp [wk]
 | .dat ..=>by simp [wk]
theorem AaQ:∀ l:List AV,wkL l l
 | []=>by simp [wkL]
 | v::l=>by simp only [wkL];exact ⟨wk_refl v,AaQ l⟩
end
theorem wkL_get:∀ {l r:List AV},wkL l r→l.length=r.length∧∀ (i:Nat) v u,l[i]? = some v→r[i]? = some u→wk v u
 | [],[],_=>by simp
 |
  v::l,u::r,h=>by
  simp only [wkL] at h
  obtain ⟨h1,h2⟩:=wkL_get h.2
  refine ⟨by simp [h1],?_⟩
  intro i x y hx hy
  cases i with
  | zero=>simp at hx hy;subst hx;subst hy;exact h.1
  | succ i=>exact h2 i x y (by simpa using hx) (by simpa using hy)
 | [],_::_,h=>by simp [wkL] at h
 | _::_,[],h=>by simp [wkL] at h
section
variable {w0:World} {pr fz:Fz} {pl:Pl} {bx:Bx} {w:World} {P:Program}
theorem Rep.wk_leaf {v u:AV} {c:Value} (ha:∀ l r,v=.agg l→u=.agg r→False) (ht:∀ l r,v=.tuple l→u=.tuple r→False) (h:Rep fz pl u c) (hw:wk v u):Rep fz pl v c:=by
 unfold Av.wk at hw
 split at hw
 · exact .frz (.any _)
 · obtain ⟨ao,rfl⟩:=h.inv_nils;exact .frz (.list0 _ _ _)
 · exact (ha _ _ rfl rfl).elim
 · exact (ht _ _ rfl rfl).elim
 · subst hw;exact h
mutual
theorem Rep.wk:∀ (v u:AV) (c:Value),Rep fz pl u c→Av.wk v u→Rep fz pl v c
 |
  .agg l,u,c,h,hw=>by
  cases u with
  |
   agg r =>
   simp only [Av.wk] at hw
   obtain ⟨cs,rfl,k1,k2,k3⟩:=h.inv_agg
   obtain ⟨e1,_⟩:=wkL_get hw
   exact .agg l cs (by omega) k2 (Rep.wkL l r cs.toList hw (by simpa using k1) (fun i v x a b=>k3 i v x a (by simpa using b)))
  | _=>exact Rep.wk_leaf (fun _ _ _ e=>by cases e) (fun _ _ e _=>by cases e) h hw
 |
  .tuple l,u,c,h,hw=>by
  cases u with
  |
   tuple r =>
   simp only [Av.wk] at hw
   obtain ⟨cs,rfl,k1,k3⟩:=h.inv_tuple
   obtain ⟨e1,_⟩:=wkL_get hw
   exact .tuple l cs (by omega) (Rep.wkL l r cs.toList hw (by simpa using k1) (fun i v x a b=>k3 i v x a (by simpa using b)))
  | _=>exact Rep.wk_leaf (fun _ _ e _=>by cases e) (fun _ _ _ e=>by cases e) h hw
 | .any,u,c,h,hw=>Rep.wk_leaf (fun _ _ e _=>by cases e) (fun _ _ e _=>by cases e) h hw
 | .int ..,u,c,h,hw=>Rep.wk_leaf (fun _ _ e _=>by cases e) (fun _ _ e _=>by cases e) h hw
 | .bool _,u,c,h,hw=>Rep.wk_leaf (fun _ _ e _=>by cases e) (fun _ _ e _=>by cases e) h hw
 | .str _,u,c,h,hw=>Rep.wk_leaf (fun _ _ e _=>by cases e) (fun _ _ e _=>by cases e) h hw
 | .nils,u,c,h,hw=>Rep.wk_leaf (fun _ _ e _=>by cases e) (fun _ _ e _=>by cases e) h hw
 | .nilp,u,c,h,hw=>Rep.wk_leaf (fun _ _ e _=>by cases e) (fun _ _ e _=>by cases e) h hw
 | .nilf,u,c,h,hw=>Rep.wk_leaf (fun _ _ e _=>by cases e) (fun _ _ e _=>by cases e) h hw
 | .fn ..,u,c,h,hw=>Rep.wk_leaf (fun _ _ e _=>by cases e) (fun _ _ e _=>by cases e) h hw
 | .list ..,u,c,h,hw=>Rep.wk_leaf (fun _ _ e _=>by cases e) (fun _ _ e _=>by cases e) h hw
 | .rptr _,u,c,h,hw=>Rep.wk_leaf (fun _ _ e _=>by cases e) (fun _ _ e _=>by cases e) h hw
 | .ptr ..,u,c,h,hw=>Rep.wk_leaf (fun _ _ e _=>by cases e) (fun _ _ e _=>by cases e) h hw
 | .sl ..,u,c,h,hw=>Rep.wk_leaf (fun _ _ e _=>by cases e) (fun _ _ e _=>by cases e) h hw
 | .nilm,u,c,h,hw=>Rep.wk_leaf (fun _ _ e _=>by cases e) (fun _ _ e _=>by cases e) h hw
 | .mp _,u,c,h,hw=>Rep.wk_leaf (fun _ _ e _=>by cases e) (fun _ _ e _=>by cases e) h hw
 | .ifn,u,c,h,hw=>Rep.wk_leaf (fun _ _ e _=>by cases e) (fun _ _ e _=>by cases e) h hw
 | .ifc,u,c,h,hw=>Rep.wk_leaf (fun _ _ e _=>by cases e) (fun _ _ e _=>by cases e) h hw
 | .fb ..,u,c,h,hw=>Rep.wk_leaf (fun _ _ e _=>by cases e) (fun _ _ e _=>by cases e) h hw
 | .dat ..,u,c,h,hw=>Rep.wk_leaf (fun _ _ e _=>by cases e) (fun _ _ e _=>by cases e) h hw
theorem Rep.wkL:∀ (l r:List AV) (cs:List Value),Av.wkL l r→r.length=cs.length→(∀ (i:Nat) v x,r[i]? = some v→cs[i]? = some x→Rep fz pl v x)→∀ (i:Nat) v x,l[i]? = some v→cs.toArray[i]? = some x→Rep fz pl v x
 | [],r,cs,hw,hl,h,i,v,x,hv,hx=>by simp at hv
 | y::l,[],cs,hw,hl,h,i,v,x,hv,hx=>by simp [Av.wkL] at hw
 | y::l,z::r,[],hw,hl,h,i,v,x,hv,hx=>by simp at hl
 |
  y::l,z::r,c::cs,hw,hl,h,i,v,x,hv,hx=>by
  simp only [Av.wkL] at hw
  cases i with
  |
   zero =>
   simp at hv hx;subst hv;subst hx
   exact Rep.wk y z c (h 0 z c (by simp) (by simp)) hw.1
  |
   succ i =>
   exact Rep.wkL l r cs hw.2 (by simpa using hl) (fun j a b p q=>h (j+1) a b (by simpa using p) (by simpa using q)) i v x (by simpa using hv) (by simpa using hx)
end
mutual
theorem scal_flat:∀ v:AV,v.scal=true→v.flat=true
 | .fn _ l,h=>by simp only [AV.scal] at h;simp only [AV.flat];exact scalL_flatL l h
 | .fb _ l,h=>by simp only [AV.scal] at h;simp only [AV.flat];exact scalL_flatL l h
 | .ifn,_=>rfl
 | .ifc,_=>rfl
 | .dat ..,_=>rfl
 | .agg l,h=>by simp only [AV.scal] at h;simp only [AV.flat];exact scalL_flatL l h
 | .tuple l,h=>by simp only [AV.scal] at h;simp only [AV.flat];exact scalL_flatL l h
 | .ptr ..,h=>by simp [AV.scal] at h
 | .sl ..,h=>by simp [AV.scal] at h
 | .mp _,h=>by simp [AV.scal] at h
 | .nilm,_=>rfl
 | .list ..,h=>by simp [AV.scal] at h
 | .rptr ..,h=>by simp [AV.scal] at h
 | .any,_=>rfl
 | .int ..,_=>rfl
 | .bool ..,_=>rfl
 | .str ..,_=>rfl
 | .nils,_=>rfl
 | .nilp,_=>rfl
 | .nilf,_=>rfl
theorem scalL_flatL:∀ l:List AV,scalL l=true→BdX l=true
 | [],_=>rfl
 |
  v::l,h=>by
  simp only [scalL,Bool.and_eq_true] at h
  simp only [BdX,Bool.and_eq_true]
  exact ⟨scal_flat v h.1,scalL_flatL l h.2⟩
end
theorem scalL_mem:∀ {l:List AV},scalL l=true→∀ x∈l,x.scal=true
 | [],_,x,hx=>by simp at hx
 |
  y::l,h,x,hx=>by
  simp only [scalL,Bool.and_eq_true] at h
  rcases List.mem_cons.1 hx with rfl | hx
  · exact h.1
  · exact scalL_mem h.2 x hx
theorem RepF.scal {fz fz':Fz} {v:AV} {c:Value} (h:RepF fz v c):v.scal=true→RepF fz' v c:=by
 induction h with
 | any v=>intro _;exact .any v
 | int k n=>intro _;exact .int k n
 | bool b=>intro _;exact .bool b
 | str s=>intro _;exact .str s
 | nils ao=>intro _;exact .nils ao
 | nilp=>intro _;exact .nilp
 | nilf=>intro _;exact .nilf
 | fn f l cs hl h ih=>intro hs;exact .fn f l cs hl fun i v c a b=>ih i v c a b (scalL_mem (by simpa [AV.scal] using hs) v (List.mem_of_getElem? a))
 | agg l cs hl h1 h ih=>intro hs;exact .agg l cs hl h1 fun i v c a b=>ih i v c a b (scalL_mem (by simpa [AV.scal] using hs) v (List.mem_of_getElem? a))
 | tuple l cs hl h ih=>intro hs;exact .tuple l cs hl fun i v c a b=>ih i v c a b (scalL_mem (by simpa [AV.scal] using hs) v (List.mem_of_getElem? a))
 | list=>intro hs;simp [AV.scal] at hs
 | list0=>intro hs;simp [AV.scal] at hs
 | rptr=>intro hs;simp [AV.scal] at hs
 | nilm=>intro _;exact .nilm
 | ifn=>intro _;exact .ifn
 | ifc t v=>intro _;exact .ifc t v
 | fb f l cs hl h ih=>intro hs;exact .fb f l cs hl fun i v c a b=>ih i v c a b (scalL_mem (by simpa [AV.scal] using hs) v (List.mem_of_getElem? a))
def view:Nat→Bx→AV→AV
 |
  0,_,v=>match v.flat with
  | true=>v
  | false=>.any
 |
  n+1,bx,v=>match v.flat with
  | true=>v
  |
   false=>match v with
   | .agg l=>.agg (l.map (view n bx))
   | .tuple l=>.tuple (l.map (view n bx))
   | .fn f l=>.fn f (l.map (view n bx))
   |
    .ptr sz k i off=>match AeZ bx k with
    |
     some (s,es)=>match decide (s=sz),es[i]? with
     |
      true,some e=>match decide (off<e.cells.length) with
      | true=>.rptr ((e.cells.drop off).map (view n bx))
      | false=>.any
     | _,_=>.any
    | none=>.any
   |
    .sl sz k off len=>match elemsOf bx sz (.sl sz k off len) with
    |
     some es=>match BdX es with
     | true=>.list sz es
     |
      false=>match n with
      | 0=>.any
      | n+1=>.list sz (es.map (view (n+1) bx))
    | none=>.any
   | .mp _=>.any
   | .fb _ _=>.any
   | v=>v
theorem view_flat {n:Nat} {v:AV} (h:v.flat=true):view n bx v=v:=by
 cases n with
 | zero=>unfold view;rw [h]
 | succ n=>unfold view;rw [h]
theorem view_cells (n:Nat) (e:AV):(view (n+1) bx e).cells.length=e.cells.length ∧
 ∀ (t:Nat) (y:AV),(view (n+1) bx e).cells[t]? = some y→∃ x m,e.cells[t]? = some x∧m≤n+1∧y=view m bx x:=by
 cases hf:e.flat with
 |
  true =>
  rw [view_flat hf]
  exact ⟨rfl,fun t y hy=>⟨y,0,hy,by omega,by rw [view_flat (cells_flat hf y (List.mem_of_getElem? hy))]⟩⟩
 |
  false =>
  have leaf:(∀ l,view (n+1) bx e≠.agg l)→(∀ l,e≠.agg l)→(∀ ks vs,view (n+1) bx e≠.dat ks vs)→_:=fun h1 h2 h3=>by
   have c1:(view (n+1) bx e).cells=[view (n+1) bx e]:=by
    generalize view (n+1) bx e=v at h1 h3
    cases v <;> first | exact absurd rfl (h1 _) | exact absurd rfl (h3 _ _) | rfl
   have c2:e.cells=[e]:=by cases e <;> first | exact absurd rfl (h2 _) | rfl | (simp [AV.flat] at hf)
   show (view (n+1) bx e).cells.length=e.cells.length ∧
    ∀ (t:Nat) (y:AV),(view (n+1) bx e).cells[t]? = some y→∃ x m,e.cells[t]? = some x∧m≤n+1∧y=view m bx x
   rw [c1,c2]
   refine ⟨rfl,?_⟩
   intro t y hy
   cases t with
   | zero=>simp at hy;subst hy;exact ⟨e,n+1,by simp,by omega,rfl⟩
   | succ t=>simp at hy
  cases e with
  |
   agg l =>
   simp only [view,hf,AV.cells]
   refine ⟨by simp,?_⟩
   intro t y hy
   rw [List.getElem?_map] at hy
   cases ht:l[t]? with
   | none=>rw [ht] at hy;cases hy
   | some x=>rw [ht] at hy;injection hy with hy;exact ⟨x,n,rfl,by omega,hy.symm⟩
  | ptr sz k i off=>exact leaf (fun l h=>by simp only [view,hf] at h;(repeat' split at h) <;> cases h) (fun l h=>by cases h) (fun _ _ h=>by simp only [view,hf] at h;(repeat' split at h) <;> cases h)
  | sl sz k off len=>exact leaf (fun l h=>by simp only [view,hf] at h;(repeat' split at h) <;> cases h) (fun l h=>by cases h) (fun _ _ h=>by simp only [view,hf] at h;(repeat' split at h) <;> cases h)
  | mp k=>exact leaf (fun l h=>by simp only [view,hf] at h;cases h) (fun l h=>by cases h) (fun _ _ h=>by simp only [view,hf] at h;cases h)
  | fb f l=>exact leaf (fun l h=>by simp only [view,hf] at h;cases h) (fun l h=>by cases h) (fun _ _ h=>by simp only [view,hf] at h;cases h)
  | fn f l=>exact leaf (fun l h=>by simp only [view,hf] at h;cases h) (fun l h=>by cases h) (fun _ _ h=>by simp only [view,hf] at h;cases h)
  | tuple l=>exact leaf (fun l h=>by simp only [view,hf] at h;cases h) (fun l h=>by cases h) (fun _ _ h=>by simp only [view,hf] at h;cases h)
  | _=>simp [AV.flat] at hf
theorem view_sound (hS:Sim w0 pr fz pl bx w) {fz2:Fz} (le:FzLe fz fz2) (hbx:∀ (k:Nat) x b m,AeZ bx k=some x→pl[k]? = some (some (b,m))→fz2 b=w.heap[b]?):∀ (n:Nat) (v:AV) (c:Value),Rep fz pl v c→RepF fz2 (view n bx v) c:=by
 intro n
 induction n using Nat.strongRecOn with
 |
  _ n ih =>
  intro v c h
  cases hf:v.flat with
  | true=>rw [view_flat hf];exact (h.flat hf).mono le
  |
   false =>
   cases n with
   | zero=>simp only [view,hf];exact .any _
   |
    succ n =>
    cases v with
    |
     agg l =>
     obtain ⟨cs,rfl,k1,k2,k3⟩:=h.inv_agg
     simp only [view,hf]
     refine .agg _ cs (by simpa using k1) k2 ?_
     intro i x y hx hy
     rw [List.getElem?_map] at hx
     cases hi:l[i]? with
     | none=>rw [hi] at hx;cases hx
     | some z=>rw [hi] at hx;injection hx with hx;subst hx;exact ih n (by omega) z y (k3 _ _ _ hi hy)
    |
     tuple l =>
     obtain ⟨cs,rfl,k1,k3⟩:=h.inv_tuple
     simp only [view,hf]
     refine .tuple _ cs (by simpa using k1) ?_
     intro i x y hx hy
     rw [List.getElem?_map] at hx
     cases hi:l[i]? with
     | none=>rw [hi] at hx;cases hx
     | some z=>rw [hi] at hx;injection hx with hx;subst hx;exact ih n (by omega) z y (k3 _ _ _ hi hy)
    |
     fn f l =>
     obtain ⟨cs,rfl,k1,k3⟩:=h.inv_fn
     simp only [view,hf]
     refine .fn _ _ cs (by simpa using k1) ?_
     intro i x y hx hy
     rw [List.getElem?_map] at hx
     cases hi:l[i]? with
     | none=>rw [hi] at hx;cases hx
     | some z=>rw [hi] at hx;injection hx with hx;subst hx;exact ih n (by omega) z y (k3 _ _ _ hi hy)
    | mp k=>simp only [view,hf];exact .any _
    | fb f l=>simp only [view,hf];exact .any _
    |
     ptr sz k i off =>
     obtain ⟨b,m,rfl,hp⟩:=h.inv_ptr
     simp only [view,hf]
     split
     · rename_i s es hk
       split
       · rename_i e hd he
         have hs:s=sz:=of_decide_eq_true hd
         subst hs
         split
         · rename_i hle
           have hle':off<e.cells.length:=of_decide_eq_true hle
           have hle:off≤e.cells.length:=Nat.le_of_lt hle'
           rcases hS.box k s es hk with (h1 | ⟨b',o',M⟩) | ⟨b',n',arr,e',B⟩
           · rw [h1.1] at hp;cases hp
           · obtain ⟨hec,_,_,_⟩:=M.none_at he;rw [hec] at hle';simp at hle'
           · obtain ⟨rfl,rfl⟩:=B.unique hp
             have hi:=(List.getElem?_eq_some_iff.1 he).1
             have hcl:e.cells.length=s:=B.elem e (List.mem_of_getElem? he)
             have hfl:=AeX B.elem
             have hmu:i * s+s≤es.length * s:=by rw [← Nat.succ_mul];exact Nat.mul_le_mul_right _ hi
             have hfit:=B.fits
             have hsz:=B.size
             have get:∀ (j:Nat) x,((e.cells.drop off).map (view n bx))[j]? = some x→∃ z,(es.flatMap AV.cells)[i * s+off+j]? = some z∧x=view n bx z:=by
              intro j x hx
              rw [List.getElem?_map,List.getElem?_drop] at hx
              cases hz:e.cells[off+j]? with
              | none=>rw [hz] at hx;cases hx
              | some z=>rw [hz] at hx;injection hx with hx;exact ⟨z,by rw [Nat.add_assoc];exact flat_get B.elem he hz,hx.symm⟩
             refine .rptr _ b (i * s+off) arr e' (0,0) ((hbx _ _ _ _ hk B.plc).trans B.heap) (by simp;omega) ?_ ?_
             · intro j x y hx hy
               obtain ⟨z,hz,rfl⟩:=get j x hx
               exact B.one _ _ _ hz hy
             · intro j x y hx hy
               obtain ⟨z,hz,rfl⟩:=get j x hx
               exact ih n (by omega) z y (B.rep _ _ _ hz hy)
         · exact .any _
       · exact .any _
     · exact .any _
    |
     sl sz k off len =>
     simp only [view,hf]
     split
     · rename_i es hes
       obtain ⟨hel,ao,cap,cs,rfl,_,_,_,_⟩:=elemsOf_sound hS h hes
       rcases h.inv_sl with ⟨b,m,cap',he,hp,hcp,hn'⟩ | ⟨ao',he,h0⟩
       · injection he with e1 e2 e3
         subst e1;subst e3
         have row:∃ s xs,AeZ bx k=some (s,xs)∧s=sz∧off+len≤xs.length∧es=(xs.drop off).take len:=by
          simp only [elemsOf] at hes
          split at hes
          · split at hes
            · rename_i s xs hk
              split at hes
              · rename_i q1 q2;injection hes with hes;exact ⟨s,xs,hk,of_decide_eq_true q1,of_decide_eq_true q2,hes.symm⟩
              · cases hes
            · cases hes
          · cases hes
         obtain ⟨s,xs,hk,rfl,hol,hesq⟩:=row
         rcases hS.box k s xs hk with (h1 | ⟨b',o',M⟩) | ⟨b',n',arr,e',B⟩
         · rw [h1.1] at hp;cases hp
         · have hc0:=M.cap0 hp hn'
           have h0:es=[]:=by
            rw [hesq]
            have:len=0:=by omega
            rw [this];simp
           subst h0
           exact .list0 _ _ _
         · obtain ⟨rfl,rfl⟩:=B.unique hp
           have hlen:es.length=len:=by rw [hesq];simp;omega
           have hfl:=AeX B.elem
           have hfe:=AeX hel
           have hfit:=B.fits
           have hsz:=B.size
           have hmul:off * s+len * s≤xs.length * s:=by rw [← Nat.add_mul];exact Nat.mul_le_mul_right _ hol
           have hsub:∀ (i:Nat) v,(es.flatMap AV.cells)[i]? = some v→(xs.flatMap AV.cells)[off * s+i]? = some v:=by
            intro i v hv
            by_cases hz:0<s
            · obtain ⟨e,h1,h2⟩:=BcQ hel hv hz
              have hlt:=(List.getElem?_eq_some_iff.1 h1).1
              rw [hlen] at hlt
              rw [hesq,List.getElem?_take,if_pos hlt,List.getElem?_drop] at h1
              have:=flat_get B.elem h1 h2
              rw [Nat.add_mul,Nat.add_assoc] at this
              rwa [show i / s * s+i % s=i by rw [Nat.mul_comm];exact Nat.div_add_mod i s] at this
            · have h0:s=0:=by omega
              have:=(List.getElem?_eq_some_iff.1 hv).1
              rw [AeX hel,h0] at this
              simp at this
           split
           · rename_i hfl'
             have hfm:=BgQ hfl'
             refine .list s es b (off * s) arr e' (0,0) es.length cap ((hbx _ _ _ _ hk B.plc).trans B.heap) rfl (by omega) hel (by rw [hfe,hlen];omega) (fun i v c a d=>B.one _ _ _ (hsub i v a) d) ?_
             intro i v c a d
             have hvf:v.flat=true:=by
              obtain ⟨x,hx,hvx⟩:=List.mem_flatMap.1 (List.mem_of_getElem? a)
              exact cells_flat (hfm x hx) v hvx
             exact ((B.rep _ _ _ (hsub i v a) d).flat hvf).mono le
           · cases n with
             | zero=>exact .any _
             |
              succ n =>
              have hel':∀ x∈es.map (view (n+1) bx),x.cells.length=s:=by
               intro x hx
               obtain ⟨y,hy,rfl⟩:=List.mem_map.1 hx
               rw [(view_cells n y).1];exact hel y hy
              have get:∀ (i:Nat) v,((es.map (view (n+1) bx)).flatMap AV.cells)[i]? = some v→∃ x m,(es.flatMap AV.cells)[i]? = some x∧m≤n+1∧v=view m bx x:=by
               intro i v hv
               by_cases hz:0<s
               · obtain ⟨e,h1,h2⟩:=BcQ hel' hv hz
                 rw [List.getElem?_map] at h1
                 cases he:es[i / s]? with
                 | none=>rw [he] at h1;cases h1
                 |
                  some x =>
                  rw [he] at h1;injection h1 with h1;subst h1
                  obtain ⟨y,m,q1,q2,q3⟩:=(view_cells n x).2 _ _ h2
                  have:=flat_get hel he q1
                  rw [show i / s * s+i % s=i by rw [Nat.mul_comm];exact Nat.div_add_mod i s] at this
                  exact ⟨y,m,this,q2,q3⟩
               · have h0:s=0:=by omega
                 have:=(List.getElem?_eq_some_iff.1 hv).1
                 rw [AeX hel',h0] at this
                 simp at this
              refine .list s _ b (off * s) arr e' (0,0) es.length cap ((hbx _ _ _ _ hk B.plc).trans B.heap) (by simp) (by omega) hel' (by rw [AeX hel',List.length_map,hlen];omega) ?_ ?_
              · intro i v c a d
                obtain ⟨x,m,q1,_,_⟩:=get i v a
                exact B.one _ _ _ (hsub i x q1) d
              · intro i v c a d
                obtain ⟨x,m,q1,q2,rfl⟩:=get i v a
                exact ih m (by omega) x c (B.rep _ _ _ (hsub i x q1) d)
       · injection he with e1 e2 e3
         have hnil:es=[]:=List.eq_nil_of_length_eq_zero e2
         subst hnil
         split
         · exact .list0 _ _ _
         · rename_i hx;simp [BdX] at hx
     · exact .any _
    | _=>simp [AV.flat] at hf
end
end Go.Proofs.YtcmphhedaefcgaaGreatDoor.Av
namespace Go.Proofs.YtcmphhedaefcgaaGreatDoor.Av
def getN:List Nat→Nat→Nat
 | [],_=>0
 | x::_,0=>x
 | _::l,n+1=>getN l n
theorem getN_eq:∀ (l:List Nat) (i x:Nat),l[i]? = some x→getN l i=x
 | [],_,_,h=>by simp at h
 | y::_,0,x,h=>by simp at h;simp [getN,h]
 | _::l,i+1,x,h=>by simp [getN];exact getN_eq l i x (by simpa using h)
def renL (ix:List Nat):AV→AV
 | .ptr sz k i off=>.ptr sz (getN ix k) i off
 | .sl sz k off n=>.sl sz (getN ix k) off n
 | .mp k=>.mp (getN ix k)
 | v=>v
def renC (ix:List Nat):AV→AV
 | .agg l=>.agg (l.map (renL ix))
 | v=>renL ix v
def ren (ix:List Nat):AV→AV
 | .tuple l=>.tuple (l.map (renC ix))
 | .fn f l=>.fn f (l.map (renC ix))
 | .fb f l=>.fb f (l.map (renC ix))
 | v=>renC ix v
def okL (n:Nat):AV→Bool
 | .ptr _ k _ _=>decide (k<n)
 | .sl _ k _ _=>decide (k<n)
 | .mp k=>decide (k<n)
 | v=>v.flat
def okC (n:Nat):AV→Bool
 | .agg l=>l.all (okL n)
 | v=>okL n v
def okR (n:Nat):AV→Bool
 | .tuple l=>l.all (okC n)
 | .fn _ l=>l.all (okC n)
 | .fb _ l=>l.all (okC n)
 | v=>okC n v
def renEs (ix:List Nat) (es:List AV):List AV :=
 match BdX es with
 | true=>es
 | false=>es.map (renC ix)
def okEs (n:Nat) (es:List AV):Bool :=
 match BdX es with
 | true=>true
 | false=>es.all (okC n)
section
variable {w0:World} {pr fz:Fz} {pl pls:Pl} {bx:Bx} {w:World} {P:Program} {ix:List Nat} {n:Nat}
theorem Rep.anyPl {pl':Pl} {v:AV} {c:Value} (h:Rep fz pl v c) (hf:v.flat=true):Rep fz pl' v c:=.frz (h.flat hf)
theorem renL_fwd (hp:∀ (k:Nat) b,pls[k]? = some (some b)→pl[getN ix k]? = some (some b)) {v:AV} {c:Value} (h:Rep fz pls v c) (ho:okL n v=true):Rep fz pl (renL ix v) c:=by
 cases v with
 | ptr sz k i off=>obtain ⟨b,m,rfl,hk⟩:=h.inv_ptr;exact .ptr _ _ _ _ b m (hp _ _ hk)
 | mp k=>obtain ⟨b,m,rfl,hk⟩:=h.inv_mp;exact .mp _ b m (hp _ _ hk)
 |
  sl sz k off len =>
  rcases h.inv_sl with ⟨b,m,cap,rfl,hk,hc,hn⟩ | ⟨ao,rfl,rfl⟩
  · exact .sl _ _ _ _ b m cap (hp _ _ hk) hc hn
  · exact .sl0 _ _ _ _
 | _=>exact Rep.anyPl h ho
theorem renC_fwd (hp:∀ (k:Nat) b,pls[k]? = some (some b)→pl[getN ix k]? = some (some b)) {v:AV} {c:Value} (h:Rep fz pls v c) (ho:okC n v=true):Rep fz pl (renC ix v) c:=by
 cases v with
 |
  agg l =>
  obtain ⟨cs,rfl,k1,k2,k3⟩:=h.inv_agg
  simp only [okC,List.all_eq_true] at ho
  refine .agg _ cs (by simpa using k1) k2 ?_
  intro i x y hx hy
  rw [List.getElem?_map] at hx
  cases hi:l[i]? with
  | none=>rw [hi] at hx;cases hx
  | some z=>rw [hi] at hx;injection hx with hx;subst hx;exact renL_fwd hp (k3 _ _ _ hi hy) (ho z (List.mem_of_getElem? hi))
 | _=>exact renL_fwd (n:=n) hp h ho
theorem ren_fwd (hp:∀ (k:Nat) b,pls[k]? = some (some b)→pl[getN ix k]? = some (some b)) {v:AV} {c:Value} (h:Rep fz pls v c) (ho:okR n v=true):Rep fz pl (ren ix v) c:=by
 cases v with
 |
  tuple l =>
  obtain ⟨cs,rfl,k1,k3⟩:=h.inv_tuple
  simp only [okR,List.all_eq_true] at ho
  refine .tuple _ cs (by simpa using k1) ?_
  intro i x y hx hy
  rw [List.getElem?_map] at hx
  cases hi:l[i]? with
  | none=>rw [hi] at hx;cases hx
  | some z=>rw [hi] at hx;injection hx with hx;subst hx;exact renC_fwd hp (k3 _ _ _ hi hy) (ho z (List.mem_of_getElem? hi))
 |
  fn f l =>
  obtain ⟨cs,rfl,k1,k3⟩:=h.inv_fn
  simp only [okR,List.all_eq_true] at ho
  refine .fn _ _ cs (by simpa using k1) ?_
  intro i x y hx hy
  rw [List.getElem?_map] at hx
  cases hi:l[i]? with
  | none=>rw [hi] at hx;cases hx
  | some z=>rw [hi] at hx;injection hx with hx;subst hx;exact renC_fwd hp (k3 _ _ _ hi hy) (ho z (List.mem_of_getElem? hi))
 |
  fb f l =>
  obtain ⟨cs,rfl,k1,k3⟩:=h.inv_fb
  simp only [okR,List.all_eq_true] at ho
  refine .fb _ _ cs (by simpa using k1) ?_
  intro i x y hx hy
  rw [List.getElem?_map] at hx
  cases hi:l[i]? with
  | none=>rw [hi] at hx;cases hx
  | some z=>rw [hi] at hx;injection hx with hx;subst hx;exact renC_fwd hp (k3 _ _ _ hi hy) (ho z (List.mem_of_getElem? hi))
 | _=>exact renC_fwd (n:=n) hp h ho
theorem renL_bwd (hp:∀ (k:Nat),k<n→pls[k]? = pl[getN ix k]?) {v:AV} {c:Value} (h:Rep fz pl (renL ix v) c) (ho:okL n v=true):Rep fz pls v c:=by
 cases v with
 |
  ptr sz k i off =>
  have hk:k<n:=of_decide_eq_true ho
  obtain ⟨b,m,rfl,hb⟩:=h.inv_ptr;exact .ptr _ _ _ _ b m (by rw [hp k hk];exact hb)
 |
  mp k =>
  have hk:k<n:=of_decide_eq_true ho
  obtain ⟨b,m,rfl,hb⟩:=h.inv_mp;exact .mp _ b m (by rw [hp k hk];exact hb)
 |
  sl sz k off len =>
  have hk:k<n:=of_decide_eq_true ho
  rcases h.inv_sl with ⟨b,m,cap,rfl,hb,hc,hn⟩ | ⟨ao,rfl,rfl⟩
  · exact .sl _ _ _ _ b m cap (by rw [hp k hk];exact hb) hc hn
  · exact .sl0 _ _ _ _
 | _=>exact Rep.anyPl h ho
theorem renC_bwd (hp:∀ (k:Nat),k<n→pls[k]? = pl[getN ix k]?) {v:AV} {c:Value} (h:Rep fz pl (renC ix v) c) (ho:okC n v=true):Rep fz pls v c:=by
 cases v with
 |
  agg l =>
  obtain ⟨cs,rfl,k1,k2,k3⟩:=h.inv_agg
  simp only [okC,List.all_eq_true] at ho
  refine .agg _ cs (by simpa using k1) k2 ?_
  intro i x y hx hy
  exact renL_bwd hp (k3 i (renL ix x) y (by rw [List.getElem?_map,hx];rfl) hy) (ho x (List.mem_of_getElem? hx))
 | _=>exact renL_bwd (n:=n) hp h ho
theorem ren_bwd (hp:∀ (k:Nat),k<n→pls[k]? = pl[getN ix k]?) {v:AV} {c:Value} (h:Rep fz pl (ren ix v) c) (ho:okR n v=true):Rep fz pls v c:=by
 cases v with
 |
  tuple l =>
  obtain ⟨cs,rfl,k1,k3⟩:=h.inv_tuple
  simp only [okR,List.all_eq_true] at ho
  refine .tuple _ cs (by simpa using k1) ?_
  intro i x y hx hy
  exact renC_bwd hp (k3 i (renC ix x) y (by rw [List.getElem?_map,hx];rfl) hy) (ho x (List.mem_of_getElem? hx))
 |
  fn f l =>
  obtain ⟨cs,rfl,k1,k3⟩:=h.inv_fn
  simp only [okR,List.all_eq_true] at ho
  refine .fn _ _ cs (by simpa using k1) ?_
  intro i x y hx hy
  exact renC_bwd hp (k3 i (renC ix x) y (by rw [List.getElem?_map,hx];rfl) hy) (ho x (List.mem_of_getElem? hx))
 |
  fb f l =>
  obtain ⟨cs,rfl,k1,k3⟩:=h.inv_fb
  simp only [okR,List.all_eq_true] at ho
  refine .fb _ _ cs (by simpa using k1) ?_
  intro i x y hx hy
  exact renC_bwd hp (k3 i (renC ix x) y (by rw [List.getElem?_map,hx];rfl) hy) (ho x (List.mem_of_getElem? hx))
 | _=>exact renC_bwd (n:=n) hp h ho
theorem renC_cells (e:AV):(renC ix e).cells=e.cells.map (fun x=>match e with | .agg _=>renL ix x | _=>renC ix e):=by
 cases e <;> simp [renC,AV.cells,renL]
theorem renC_len (e:AV):(renC ix e).cells.length=e.cells.length:=by rw [renC_cells];simp
theorem renEs_len (es:List AV):(renEs ix es).length=es.length:=by unfold renEs;split <;> simp
theorem renEs_cells {sz:Nat} {es:List AV} (he:∀ x∈es,x.cells.length=sz):(∀ x∈renEs ix es,x.cells.length=sz) ∧
 ∀ (i:Nat) (v:AV),((renEs ix es).flatMap AV.cells)[i]? = some v→∃ u,(es.flatMap AV.cells)[i]? = some u∧((v=u∧u.flat=true)∨v=renL ix u∨(v=renC ix u∧u.cells=[u])):=by
 unfold renEs
 split
 · rename_i hf
   refine ⟨he,fun i v hv=>⟨v,hv,.inl ⟨rfl,?_⟩⟩⟩
   obtain ⟨x,hx,hvx⟩:=List.mem_flatMap.1 (List.mem_of_getElem? hv)
   exact cells_flat (BgQ hf x hx) v hvx
 · have he':∀ x∈es.map (renC ix),x.cells.length=sz:=by
    intro x hx
    obtain ⟨y,hy,rfl⟩:=List.mem_map.1 hx
    rw [renC_len];exact he y hy
   refine ⟨he',?_⟩
   intro i v hv
   by_cases hz:0<sz
   · obtain ⟨e,h1,h2⟩:=BcQ he' hv hz
     rw [List.getElem?_map] at h1
     cases hx:es[i / sz]? with
     | none=>rw [hx] at h1;cases h1
     |
      some x =>
      rw [hx] at h1;injection h1 with h1;subst h1
      have key:∃ u,x.cells[i % sz]? = some u∧(v=renL ix u∨(v=renC ix u∧u.cells=[u])):=by
       cases x with
       |
        agg l =>
        simp only [renC,AV.cells,List.getElem?_map] at h2
        cases hl:l[i % sz]? with
        | none=>rw [hl] at h2;cases h2
        | some u=>rw [hl] at h2;injection h2 with h2;exact ⟨u,hl,.inl h2.symm⟩
       |
        ptr a b c d =>
        cases hm:i % sz with
        | zero=>rw [hm] at h2;simp [renC,renL,AV.cells] at h2;exact ⟨_,by simp [AV.cells];rfl,.inr ⟨by rw [← h2];rfl,rfl⟩⟩
        | succ m=>rw [hm] at h2;simp [renC,renL,AV.cells] at h2
       |
        sl a b c d =>
        cases hm:i % sz with
        | zero=>rw [hm] at h2;simp [renC,renL,AV.cells] at h2;exact ⟨_,by simp [AV.cells];rfl,.inr ⟨by rw [← h2];rfl,rfl⟩⟩
        | succ m=>rw [hm] at h2;simp [renC,renL,AV.cells] at h2
       | dat ks vs=>simp [renC,renL,AV.cells] at h2
       |
        _ =>
        cases hm:i % sz with
        | zero=>rw [hm] at h2;simp [renC,renL,AV.cells] at h2;exact ⟨_,by simp [AV.cells];rfl,.inr ⟨by rw [← h2];rfl,rfl⟩⟩
        | succ m=>rw [hm] at h2;simp [renC,renL,AV.cells] at h2
      obtain ⟨u,hu,hor⟩:=key
      have:=flat_get he hx hu
      rw [show i / sz * sz+i % sz=i by rw [Nat.mul_comm];exact Nat.div_add_mod i sz] at this
      exact ⟨u,this,.inr hor⟩
   · have h0:sz=0:=by omega
     have:=(List.getElem?_eq_some_iff.1 hv).1
     rw [AeX he',h0] at this
     simp at this
end
end Go.Proofs.YtcmphhedaefcgaaGreatDoor.Av
namespace Go.Proofs.YtcmphhedaefcgaaGreatDoor.Av
def wkC:AV→AV→Prop
 | .agg l,.agg r=>wkL l r
 | v,u=>v=u
def wkEs:List AV→List AV→Prop
 | [v],[u]=>wkC v u
 | l,r=>l=r
theorem wkC_refl (v:AV):wkC v v:=by
 cases v with
 | agg l=>exact AaQ l
 | _=>rfl
theorem wkEs_refl (l:List AV):wkEs l l:=by
 unfold wkEs
 split
 · exact wkC_refl _
 · rfl
theorem agg_loop {l:List AV} (h:(AV.agg l).cells=[.agg l]):False:=by
 simp only [AV.cells] at h
 have h2:SizeOf.sizeOf l=SizeOf.sizeOf [AV.agg l]:=by rw [← h]
 simp at h2
 omega
def embB (n:Nat) (ix:List Nat) (bx:Bx):List Nat→Bx→Prop
 | [],[]=>True
 | k::ks,none::bs=>k<bx.length∧embB n ix bx ks bs
 |
  k::ks,some (sz,es)::bs=>(match AeZ bx k with
  | some (s,xs)=>s=sz∧wkEs (renEs ix es) xs
  | none=>False)∧okEs n es=true∧embB n ix bx ks bs
 | _,_=>False
section
variable {w0:World} {pr fz:Fz} {pl pls:Pl} {bx bs:Bx} {w:World} {P:Program} {ix:List Nat} {n:Nat}
theorem embB_get:∀ {ks:List Nat} {bs:Bx},embB n ix bx ks bs→ks.length=bs.length∧(∀ (j k:Nat),ks[j]? = some k→k<bx.length) ∧
 ∀ (j:Nat) sz es,AeZ bs j=some (sz,es)→∃ k xs,ks[j]? = some k∧AeZ bx k=some (sz,xs)∧wkEs (renEs ix es) xs∧okEs n es=true
 | [],[],_=>by simp [AeZ]
 |
  k::ks,none::bs,h=>by
  simp only [embB] at h
  obtain ⟨h1,h2,h3⟩:=embB_get h.2
  refine ⟨by simp [h1],?_,?_⟩
  · intro j k' hj
    cases j with
    | zero=>simp at hj;omega
    | succ j=>exact h2 j k' (by simpa using hj)
  · intro j sz es hj
    cases j with
    | zero=>simp [AeZ] at hj
    |
     succ j =>
     obtain ⟨k',xs,q1,q2⟩:=h3 j sz es (by simpa [AeZ] using hj)
     exact ⟨k',xs,by simpa using q1,q2⟩
 |
  k::ks,some (sz,es)::bs,h=>by
  simp only [embB] at h
  obtain ⟨h0,hok,h⟩:=h
  obtain ⟨h1,h2,h3⟩:=embB_get h
  split at h0
  · rename_i s xs hk
    obtain ⟨rfl,hw⟩:=h0
    refine ⟨by simp [h1],?_,?_⟩
    · intro j k' hj
      cases j with
      | zero=>simp at hj;subst hj;exact AoY hk
      | succ j=>exact h2 j k' (by simpa using hj)
    · intro j sz' es' hj
      cases j with
      |
       zero =>
       simp [AeZ] at hj
       obtain ⟨rfl,rfl⟩:=hj
       exact ⟨k,xs,by simp,hk,hw,hok⟩
      |
       succ j =>
       obtain ⟨k',xs',q1,q2⟩:=h3 j sz' es' (by simpa [AeZ] using hj)
       exact ⟨k',xs',by simpa using q1,q2⟩
  · exact h0.elim
 | [],_::_,h=>by simp [embB] at h
 | _::_,[],h=>by simp [embB] at h
theorem wkEs_cells {es xs:List AV} (h:wkEs es xs) {sz:Nat} (he:∀ x∈xs,x.cells.length=sz):(∀ x∈es,x.cells.length=sz)∧es.length=xs.length ∧
 ∀ (arr:Array Value),(∀ (i:Nat) v c,(xs.flatMap AV.cells)[i]? = some v→arr[i]? = some c→Rep fz pl v c)→(xs.flatMap AV.cells).length≤arr.size →
  ∀ (i:Nat) v c,(es.flatMap AV.cells)[i]? = some v→arr[i]? = some c→Rep fz pl v c:=by
 unfold wkEs at h
 split at h
 · rename_i v u
   unfold wkC at h
   split at h
   · rename_i l r
     obtain ⟨e1,e2⟩:=wkL_get h
     have hr:=he (.agg r) (by simp)
     refine ⟨by simp [AV.cells] at hr ⊢;omega,rfl,?_⟩
     intro arr ha hl i v c hv hc
     simp only [List.flatMap_cons,List.flatMap_nil,List.append_nil,AV.cells] at hv ha hl
     have hlt:=(List.getElem?_eq_some_iff.1 hv).1
     have hu:r[i]? = some r[i]:=List.getElem?_eq_getElem (by omega)
     exact Rep.wk _ _ _ (ha i _ c hu hc) (e2 i v _ hv hu)
   · subst h
     exact ⟨he,rfl,fun arr ha _=>ha⟩
 · subst h
   exact ⟨he,rfl,fun arr ha _=>ha⟩
theorem okEs_cell {es:List AV} (h:okEs n es=true) {i:Nat} {v:AV} (hv:(es.flatMap AV.cells)[i]? = some v):v.flat=true∨okL n v=true:=by
 unfold okEs at h
 split at h
 · rename_i hf
   obtain ⟨x,hx,hvx⟩:=List.mem_flatMap.1 (List.mem_of_getElem? hv)
   exact .inl (cells_flat (BgQ hf x hx) v hvx)
 · obtain ⟨x,hx,hvx⟩:=List.mem_flatMap.1 (List.mem_of_getElem? hv)
   simp only [List.all_eq_true] at h
   have:=h x hx
   cases x with
   | agg l=>simp only [okC,List.all_eq_true] at this;exact .inr (this v hvx)
   | dat ks vs=>cases hvx
   | _=>simp only [AV.cells,List.mem_singleton] at hvx;subst hvx;exact .inr this
def plOf (pl:Pl) (ix:List Nat):Pl:=ix.map fun k=>(pl[k]?).getD none
theorem BhY {j k:Nat} (h:ix[j]? = some k) (hk:k<pl.length):(plOf pl ix)[j]? = pl[k]?:=by
 simp [plOf,h,List.getElem?_eq_getElem hk]
theorem cells_bwd (hp:∀ (k:Nat),k<n→pls[k]? = pl[getN ix k]?) {es:List AV} {sz:Nat} (he:∀ x∈es,x.cells.length=sz) (hok:okEs n es=true) {arr:Array Value}
 (h:∀ (i:Nat) v c,((renEs ix es).flatMap AV.cells)[i]? = some v→arr[i]? = some c→Rep fz pl v c) (i:Nat) (v:AV) (c:Value) (hv:(es.flatMap AV.cells)[i]? = some v) (hc:arr[i]? = some c):Rep fz pls v c:=by
 obtain ⟨r1,r2⟩:=renEs_cells (ix:=ix) he
 have hlt:=(List.getElem?_eq_some_iff.1 hv).1
 have hl2:i<((renEs ix es).flatMap AV.cells).length:=by rw [AeX r1,renEs_len,← AeX he];exact hlt
 have hv':((renEs ix es).flatMap AV.cells)[i]? = some ((renEs ix es).flatMap AV.cells)[i]:=List.getElem?_eq_getElem hl2
 obtain ⟨u,hu,hor⟩:=r2 i _ hv'
 rw [hv] at hu;injection hu with hu;subst hu
 have hR:=h i _ c hv' hc
 have ho:=okEs_cell hok hv
 rcases hor with ⟨e,hf⟩ | e | ⟨e,hcl⟩
 · rw [e] at hR;exact hR.anyPl hf
 · rw [e] at hR
   rcases ho with hf | ho
   · exact renL_bwd (n:=n) hp hR (by cases v <;> first | exact hf | simp [AV.flat] at hf)
   · exact renL_bwd hp hR ho
 · rw [e] at hR
   have hag:∀ l,v≠.agg l:=by
    intro l hl;subst hl
    exact agg_loop hcl
   rcases ho with hf | ho
   · exact renC_bwd (n:=n) hp hR (by cases v <;> first | exact hf | exact absurd rfl (hag _) | simp [AV.flat] at hf)
   · exact renC_bwd hp hR (by cases v <;> first | exact ho | exact absurd rfl (hag _))
theorem cells_fwd (hp:∀ (k:Nat) b,pls[k]? = some (some b)→pl[getN ix k]? = some (some b)) {es:List AV} {sz:Nat} (he:∀ x∈es,x.cells.length=sz) (hok:okEs n es=true) {arr:Array Value}
 (h:∀ (i:Nat) v c,(es.flatMap AV.cells)[i]? = some v→arr[i]? = some c→Rep fz pls v c) (i:Nat) (v:AV) (c:Value) (hv:((renEs ix es).flatMap AV.cells)[i]? = some v) (hc:arr[i]? = some c):Rep fz pl v c:=by
 obtain ⟨r1,r2⟩:=renEs_cells (ix:=ix) he
 obtain ⟨u,hu,hor⟩:=r2 i _ hv
 have hR:=h i _ c hu hc
 have ho:=okEs_cell hok hu
 rcases hor with ⟨rfl,hf⟩ | rfl | ⟨rfl,hcl⟩
 · exact hR.anyPl hf
 · rcases ho with hf | ho
   · exact renL_fwd (n:=n) hp hR (by cases u <;> first | exact hf | simp [AV.flat] at hf)
   · exact renL_fwd hp hR ho
 · have hag:∀ l,u≠.agg l:=by
    intro l hl;subst hl
    exact agg_loop hcl
   rcases ho with hf | ho
   · exact renC_fwd (n:=n) hp hR (by cases u <;> first | exact hf | exact absurd rfl (hag _) | simp [AV.flat] at hf)
   · exact renC_fwd hp hR (by cases u <;> first | exact ho | exact absurd rfl (hag _))
theorem AlZ (k:Nat):AeZ [] k=none:=rfl
def liveIx:List Nat→Bx→List Nat
 | k::ks,some _::bs=>k::liveIx ks bs
 | _::ks,none::bs=>liveIx ks bs
 | _,_=>[]
theorem liveIx_sub:∀ (ix:List Nat) (bs:Bx),(liveIx ix bs).Sublist ix
 | [],[]=>List.Sublist.refl _
 | [],none::_=>List.Sublist.refl _
 | [],some _::_=>List.Sublist.refl _
 | _::_,[]=>List.nil_sublist _
 | k::ks,some _::bs=>List.Sublist.cons_cons k (liveIx_sub ks bs)
 | k::ks,none::bs=>List.Sublist.cons k (liveIx_sub ks bs)
theorem liveIx_mem:∀ {ix:List Nat} {bs:Bx} {j k:Nat} {x},ix[j]? = some k→AeZ bs j=some x→k∈liveIx ix bs
 | [],bs,j,k,x,h,_=>by simp at h
 | i::ix,[],j,k,x,_,h=>by rw [AlZ] at h;cases h
 | i::ix,none::bs,0,k,x,_,h=>by cases h
 | i::ix,some y::bs,0,k,x,h,_=>by simp at h;subst h;exact List.mem_cons_self
 | i::ix,none::bs,j+1,k,x,h,h2=>liveIx_mem (ix:=ix) (bs:=bs) (by simpa using h) h2
 | i::ix,some y::bs,j+1,k,x,h,h2=>List.mem_cons_of_mem _ (liveIx_mem (ix:=ix) (bs:=bs) (by simpa using h) h2)
theorem liveIx_inj:∀ {ix:List Nat} {bs:Bx} {j j' k:Nat} {x y},(liveIx ix bs).Nodup→ix[j]? = some k→ix[j']? = some k→AeZ bs j=some x→AeZ bs j'=some y→j=j'
 | [],bs,j,j',k,x,y,_,h,_,_,_=>by simp at h
 | i::ix,[],j,j',k,x,y,_,_,_,h,_=>by rw [AlZ] at h;cases h
 | i::ix,none::bs,0,j',k,x,y,_,_,_,h,_=>by cases h
 | i::ix,none::bs,j+1,0,k,x,y,_,_,_,_,h=>by cases h
 |
  i::ix,none::bs,j+1,j'+1,k,x,y,hn,h1,h2,h3,h4=>by
  have:=liveIx_inj (ix:=ix) (bs:=bs) hn (by simpa using h1) (by simpa using h2) h3 h4
  omega
 | i::ix,some z::bs,0,0,k,x,y,_,_,_,_,_=>rfl
 |
  i::ix,some z::bs,0,j'+1,k,x,y,hn,h1,h2,h3,h4=>by
  simp at h1;subst h1
  have:=liveIx_mem (ix:=ix) (bs:=bs) (by simpa using h2) h4
  exact absurd this (List.nodup_cons.1 hn).1
 |
  i::ix,some z::bs,j+1,0,k,x,y,hn,h1,h2,h3,h4=>by
  simp at h2;subst h2
  have:=liveIx_mem (ix:=ix) (bs:=bs) (by simpa using h1) h3
  exact absurd this (List.nodup_cons.1 hn).1
 |
  i::ix,some z::bs,j+1,j'+1,k,x,y,hn,h1,h2,h3,h4=>by
  have:=liveIx_inj (ix:=ix) (bs:=bs) (List.nodup_cons.1 hn).2 (by simpa using h1) (by simpa using h2) h3 h4
  omega
theorem Sim.embedW {pr':Fz} (h:Sim w0 pr fz pl bx w) (hn:bs.length=n) (he:embB n ix bx ix bs) (hnd:(liveIx ix bs).Nodup) (p1:∀ b o,pr' b=some o→w.heap[b]? = some o) (p2:∀ b o,fz b=some o→pr' b=none)
 (p3:∀ (k:Nat) x b m,k∈ix→AeZ bx k=some x→pl[k]? = some (some (b,m))→pr' b=none):Sim w0 pr' fz (plOf pl ix) bs w∧(∀ (k:Nat),k<n→(plOf pl ix)[k]? = pl[getN ix k]?):=by
 obtain ⟨e1,e2,e3⟩:=embB_get he
 have hget:∀ (k:Nat),k<n→(plOf pl ix)[k]? = pl[getN ix k]?:=by
  intro k hk
  have hk':ix[k]? = some ix[k]:=List.getElem?_eq_getElem (by omega)
  rw [getN_eq ix k _ hk']
  exact BhY hk' (by rw [h.len];exact e2 k _ hk')
 refine ⟨⟨h.lay,h.os,h.tape,h.output,h.size,h.frz,p1,p2,by simp [plOf,e1],?_,?_⟩,hget⟩
 · intro j sz es hj
   obtain ⟨k,xs,k1,k2,k3,k4⟩:=e3 j sz es hj
   have hpl:=BhY (pl:=pl) k1 (by rw [h.len];exact e2 j k k1)
   rcases h.box k sz xs k2 with (h1 | ⟨b,o,M⟩) | ⟨b,m,arr,e,B⟩
   · left;left
     rw [hpl]
     refine ⟨h1.1,?_⟩
     have:=(wkEs_cells (fz:=fz) (pl:=pl) (sz:=sz) k3 (by rw [h1.2];simp)).2.1
     rw [renEs_len,h1.2] at this
     exact List.eq_nil_of_length_eq_zero this
   · left;right
     have hone:∀ u:AV,xs=[u]→u.cells=[]→∃ v,es=[v]∧(wkC v u∨wkC (renC ix v) u):=by
      intro u q hu
      rw [q] at k3
      have hlen:=(wkEs_cells (fz:=fz) (pl:=pl) (sz:=0) k3 (by simp [hu])).2.1
      rw [renEs_len] at hlen
      match es,hlen,k3,k4 with
      |
       [v],_,k3,k4 =>
       have:renEs ix [v]=[v]∨renEs ix [v]=[renC ix v]:=by
        unfold renEs
        split
        · exact .inl rfl
        · exact .inr rfl
       refine ⟨v,rfl,?_⟩
       rcases this with h | h <;> rw [h] at k3
       · exact .inl k3
       · exact .inr k3
     have hcont:BoxC fz sz es o:=by
      have hM:=M.cont
      rcases M.nil with q | q | ⟨ks,vs,q⟩
      · have:=(wkEs_cells (fz:=fz) (pl:=pl) (sz:=sz) k3 (by rw [q];simp)).2.1
        rw [renEs_len,q] at this
        rw [List.eq_nil_of_length_eq_zero this]
        exact hM.empty
      · obtain ⟨v,rfl,k5⟩:=hone _ q rfl
        rw [q] at hM
        cases v with
        |
         agg l =>
         have:l=[]:=by
          rcases k5 with h | h
          · cases l with
            | nil=>rfl
            | cons a l=>simp [wkC,wkL] at h
          · cases l with
            | nil=>rfl
            | cons a l=>simp [renC,wkC,wkL] at h
         rw [this];exact hM
        | _=>exfalso;rcases k5 with h | h <;> simp [renC,renL,wkC] at h
      · obtain ⟨v,rfl,k5⟩:=hone _ q rfl
        rw [q] at hM
        cases v with
        |
         dat ks' vs' =>
         have e:AV.dat ks' vs'=.dat ks vs:=by
          rcases k5 with h | h
          · exact h
          · exact h
         rw [e];exact hM
        | _=>exfalso;rcases k5 with h | h <;> simp [renC,renL,wkC] at h
     exact ⟨b,o,{ M with plc:=by rw [hpl];exact M.plc,npr:=p3 k _ b 0 (List.mem_of_getElem? k1) k2 M.plc,cont:=hcont }⟩
   · right
     obtain ⟨q1,q2,q3⟩:=wkEs_cells (fz:=fz) (pl:=pl) k3 B.elem
     have hes:∀ x∈es,x.cells.length=sz:=by
      intro x hx
      obtain ⟨i,hi⟩:=List.getElem?_of_mem hx
      unfold renEs at q1
      split at q1
      · exact q1 x hx
      · have:=q1 (renC ix x) (List.mem_map.2 ⟨x,hx,rfl⟩)
        rwa [renC_len] at this
     rw [renEs_len] at q2
     have hfit:=B.fits
     have hsz:=B.size
     rw [AeX B.elem] at hfit
     have hrep:=q3 arr B.rep (by rw [AeX B.elem];omega)
     have one:∀ (i:Nat) c,i<es.length * sz→arr[i]? = some c→c.oneCell'=true:=by
      intro i c hi hc
      obtain ⟨v',hv'⟩:∃ v',(xs.flatMap AV.cells)[i]? = some v':=⟨_,List.getElem?_eq_getElem (by rw [AeX B.elem,← q2];exact hi)⟩
      exact B.one _ _ _ hv' hc
     refine ⟨b,m,arr,e,⟨by rw [hpl];exact B.plc,B.nfz,p3 k _ b m (List.mem_of_getElem? k1) k2 B.plc,B.heap,B.size,hes,by rw [AeX hes,q2];exact hfit,?_,?_⟩⟩
     · intro i v c hv hc
       have:=(List.getElem?_eq_some_iff.1 hv).1
       rw [AeX hes] at this
       exact one i c this hc
     · exact fun i v c hv hc=>cells_bwd hget hes k4 hrep i v c hv hc
 · intro j j' x y b m m' hj hj' pj pj'
   obtain ⟨k,xs,k1,k2,_,_⟩:=e3 j x.1 x.2 hj
   obtain ⟨k',xs',k1',k2',_,_⟩:=e3 j' y.1 y.2 hj'
   rw [BhY k1 (by rw [h.len];exact e2 j k k1)] at pj
   rw [BhY k1' (by rw [h.len];exact e2 j' k' k1')] at pj'
   have:=h.inj k k' _ _ b m m' k2 k2' pj pj'
   subst this
   exact liveIx_inj hnd k1 k1' hj hj'
theorem Sim.embed {pr':Fz} (h:Sim w0 pr fz pl bx w) (hn:bs.length=n) (he:embB n ix bx ix bs) (hnd:ix.Nodup) (p1:∀ b o,pr' b=some o→w.heap[b]? = some o) (p2:∀ b o,fz b=some o→pr' b=none)
 (p3:∀ (k:Nat) x b m,k∈ix→AeZ bx k=some x→pl[k]? = some (some (b,m))→pr' b=none):Sim w0 pr' fz (plOf pl ix) bs w∧(∀ (k:Nat),k<n→(plOf pl ix)[k]? = pl[getN ix k]?) :=
 h.embedW hn he (hnd.sublist (liveIx_sub _ _)) p1 p2 p3
end
end Go.Proofs.YtcmphhedaefcgaaGreatDoor.Av
namespace Go.Proofs.YtcmphhedaefcgaaGreatDoor.Av
open Classical
def CallA (P:Program) (f:AV) (args:List AV) (v:AV):Prop :=
 ∃ fid caps args',f=.fn (.func fid) caps∧Ctr P fid args' [] v []∧wkL args' (args++caps)∧BdX (args++caps)=true
def CallV (P:Program) (f:AV) (args:List AV) (bx:Bx) (v:AV):Prop :=
 ∃ n fid caps args',f=.fn (.func fid) caps∧Ctr P fid args' [] v []∧wkL args' ((args++caps).map (view n bx))∧v.scal=true
def mergeB (ix:List Nat):List Nat→Bx→Bx→Bx
 |
  j::js,b::bs,bx=>match decide (j<bx.length) with
  | true=>mergeB ix js bs (ArZ bx j (b.map fun x=>(x.1,renEs ix x.2)))
  | false=>mergeB ix js bs (bx++[b.map fun x=>(x.1,renEs ix x.2)])
 | _,_,bx=>bx
def BiX:Nat→Nat→List Nat
 | _,0=>[]
 | k,n+1=>k::BiX (k+1) n
def okBx (n:Nat):Bx→Bool
 | []=>true
 | none::bs=>okBx n bs
 | some (_,es)::bs=>okEs n es && okBx n bs
def FnA (f:AV) (args:List AV) (fid:FuncId) (xs:List AV):Prop :=
 (∃ caps,f=.fn (.func fid) caps∧xs=args++caps)∨(f=.fb (.func fid) xs∧args=[])
def CallM (P:Program) (f:AV) (args:List AV) (bx:Bx) (v:AV) (bx':Bx):Prop :=
 ∃ fid xs ix args' bs r bs',FnA f args fid xs∧Ctr P fid args' bs r bs'∧embB bs.length ix bx ix bs∧ix.Nodup∧args'.all (okR bs.length)=true∧wkL (args'.map (ren ix)) xs ∧
  okR bs'.length r=true∧okBx bs'.length bs'=true ∧
  v=ren (ix++BiX bx.length (bs'.length-bs.length)) r∧bx'=mergeB (ix++BiX bx.length (bs'.length-bs.length)) (ix++BiX bx.length (bs'.length-bs.length)) bs' bx
def OpC (P:Program) (op:AOp AV) (bx:Bx) (v:AV) (bx':Bx):Prop :=
 match op with
 | .call f args=>CallA P f args v∧bx'=bx
 | .callv f args=>CallV P f args bx v∧bx'=bx
 | .callm f args=>CallM P f args bx v bx'
 | .callo f args=>CallM P f args bx v bx'∧bx <+: bx'
 | .same a n x d=>(BhZ bx a n x=some d∧d≠.any)∧v=.tuple []∧bx'=bx
 | _=>OpR op bx v bx'
section
variable {w0:World} {pr fz:Fz} {pl pls:Pl} {bx bs:Bx} {w:World} {P:Program} {ix:List Nat} {n:Nat}
noncomputable def hold (pr:Fz) (pl:Pl) (bx:Bx) (w:World) (but:List Nat):Fz :=
 fun b=>if ∃ k x m,k ∉ but∧AeZ bx k=some x∧pl[k]? = some (some (b,m)) then w.heap[b]? else pr b
theorem hold_prt (h:Sim w0 pr fz pl bx w) (but:List Nat):∀ b o,hold pr pl bx w but b=some o→w.heap[b]? = some o:=by
 intro b o hb
 unfold hold at hb
 split at hb
 · exact hb
 · exact h.prt _ _ hb
theorem AtX (h:Sim w0 pr fz pl bx w) {k:Nat} {x} {b m:Nat} (hk:AeZ bx k=some x) (hp:pl[k]? = some (some (b,m))):fz b=none∧pr b=none∧∃ o,w.heap[b]? = some o:=by
 rcases h.box k x.1 x.2 hk with (h1 | ⟨b',o',M⟩) | ⟨b',m',arr,e,B⟩
 · rw [h1.1] at hp;cases hp
 · obtain ⟨rfl,rfl⟩:=M.unique hp
   exact ⟨M.nfz,M.npr,_,M.heap⟩
 · obtain ⟨rfl,rfl⟩:=B.unique hp
   exact ⟨B.nfz,B.npr,_,B.heap⟩
theorem hold_dis (h:Sim w0 pr fz pl bx w) (but:List Nat):∀ b o,fz b=some o→hold pr pl bx w but b=none:=by
 intro b o hb
 unfold hold
 split
 · rename_i hx
   obtain ⟨k,x,m,_,hk,hp⟩:=hx
   rw [(AtX h hk hp).1] at hb;cases hb
 · exact h.dis _ _ hb
theorem Sim.back {fz':Fz} {w':World} (h:Sim w0 pr fz pl bx w) (hf:FzLe fz fz') (h':Sim w0 (hold pr pl bx w []) fz' [] [] w'):Sim w0 pr fz' pl bx w':=by
 have key:∀ {k:Nat} {x} {b m:Nat},AeZ bx k=some x→pl[k]? = some (some (b,m))→hold pr pl bx w [] b=w.heap[b]?:=by
  intro k x b m hk hp
  unfold hold
  rw [if_pos ⟨k,x,m,by simp,hk,hp⟩]
 have nob:∀ {b o},pr b=some o→hold pr pl bx w [] b=some o:=by
  intro b o hb
  unfold hold
  split
  · rename_i hx
    obtain ⟨k,x,m,_,hk,hp⟩:=hx
    rw [(AtX h hk hp).2.1] at hb;cases hb
  · exact hb
 refine ⟨h'.lay,h'.os,h'.tape,h'.output,h'.size,h'.frz,fun b o hb=>h'.prt _ _ (nob hb),?_,h.len,?_,h.inj⟩
 · intro b o hb
   have:=h'.dis _ _ hb
   cases hp:pr b with
   | none=>rfl
   | some y=>rw [nob hp] at this;cases this
 · intro k sz es hk
   rcases h.box k sz es hk with (h1 | ⟨b,o,M⟩) | ⟨b,m,arr,e,B⟩
   · exact .inl (.inl h1)
   · have hh:=key hk M.plc
     rw [M.heap] at hh
     refine .inl (.inr ⟨b,o,{ M with nfz:=?_,heap:=h'.prt _ _ hh,cont:=M.cont.mono hf }⟩)
     cases hz:fz' b with
     | none=>rfl
     | some o=>have:=h'.dis _ _ hz;rw [hh] at this;cases this
   · have hh:=key hk B.plc
     rw [B.heap] at hh
     refine .inr ⟨b,m,arr,e,{ B with nfz:=?_,heap:=h'.prt _ _ hh,rep:=fun i v c a d=>(B.rep i v c a d).mono hf (List.prefix_refl _) }⟩
     cases hz:fz' b with
     | none=>rfl
     | some o=>have:=h'.dis _ _ hz;rw [hh] at this;cases this
theorem BtX {α β:Type} (xs:Array α) (f:α→β):(xs.toList.map f).toArray=xs.map f:=by
 apply Array.ext';simp
theorem call_run {o:Oper} {a:Act} {f:Operand} {args:Array Operand} {ts:Array TypeId} (ho:o.op=.call ⟨.value f,args,ts⟩) {fid:FuncId} {cs:Array Value} (hf:a.eval f=.func (.func fid) #[] cs)
 (hc:∀ (xs:Array Value) (w:World),(callFunc fid xs).run P w=.ok (.enter fid xs) w):(execOp a.eval o).run P w=.ok (.enter fid (args.map a.eval++cs)) w:=by
 simp [execOp,ho,resolve,hf,Deferred.ofValue,invoke,hc]
theorem args_rep {l:List AV} {a:Act} (hT:RepT fz pl l a) {xs:List Operand} {ys:List AOpd} (h:cOs xs=some ys) {caps:List AV} {cs:Array Value} (hl:caps.length=cs.size)
 (hc:∀ (i:Nat) v x,caps[i]? = some v→cs[i]? = some x→Rep fz pl v x) :
 (ys.map (·.ev l)++caps).length=((xs.map a.eval).toArray++cs).size∧∀ (i:Nat) v x,(ys.map (·.ev l)++caps)[i]? = some v→((xs.map a.eval).toArray++cs)[i]? = some x→Rep fz pl v x:=by
 obtain ⟨o1,o2⟩:=cOs_rep hT h
 refine ⟨by simp at o1 ⊢;omega,?_⟩
 intro i v x hv hx
 rw [getElem?_cat] at hv
 by_cases hi:i<xs.length
 · rw [if_pos (by omega)] at hv
   rw [Array.getElem?_append_left (by simpa using hi)] at hx
   simp only [List.getElem?_toArray,List.getElem?_map] at hx
   cases hq:xs[i]? with
   | none=>rw [hq] at hx;cases hx
   | some q=>rw [hq] at hx;simp at hx;subst hx;exact o2 i v q hv hq
 · rw [if_neg (by omega)] at hv
   rw [Array.getElem?_append_right (by simpa using hi)] at hx
   simp only [List.size_toArray,List.length_map] at hx
   rw [o1] at hv
   exact hc _ _ _ hv hx
theorem fnA_run {l:List AV} {a:Act} (hT:RepT fz pl l a) {o:Oper} {f:Operand} {args:Array Operand} {ts:Array TypeId} (ho:o.op=.call ⟨.value f,args,ts⟩) {f':AOpd} {ys:List AOpd}
 (hf:cO f=some f') (hys:cOs args.toList=some ys) {fid:FuncId} {xs:List AV} (h:FnA (f'.ev l) (ys.map (·.ev l)) fid xs) (hcf:∀ (xs:Array Value) (w:World),(callFunc fid xs).run P w=.ok (.enter fid xs) w) :
 ∃ vs:Array Value,(execOp a.eval o).run P w=.ok (.enter fid vs) w∧xs.length=vs.size∧∀ (i:Nat) v x,xs[i]? = some v→vs[i]? = some x→Rep fz pl v x:=by
 have hR:=AgQ hT hf
 rcases h with ⟨caps,e1,rfl⟩ | ⟨e1,e2⟩
 · rw [e1] at hR
   obtain ⟨cs,hfe,k1,k2⟩:=hR.inv_fn
   obtain ⟨a1,a2⟩:=args_rep hT hys k1 k2
   rw [BtX] at a1 a2
   exact ⟨_,call_run (P:=P) (w:=w) ho hfe hcf,a1,a2⟩
 · rw [e1] at hR
   obtain ⟨cs,hfe,k1,k2⟩:=hR.inv_fb
   have hy:ys=[]:=by simpa using e2
   subst hy
   have ha:args=#[]:=by
    have h0:=(cOs_rep hT hys).1
    simp at h0
    exact Array.eq_empty_of_size_eq_zero h0.symm
   subst ha
   refine ⟨cs,?_,k1,k2⟩
   simp [execOp,ho,resolve,hfe,Deferred.ofValue,invoke,hcf]
theorem wkL_reps {args args':List AV} {cs:Array Value} (hw:wkL args' args) (hl:args.length=cs.size) (h:∀ (i:Nat) v x,args[i]? = some v→cs[i]? = some x→Rep fz pl v x) :
 args'.length=cs.size∧∀ (i:Nat) v x,args'[i]? = some v→cs[i]? = some x→Rep fz pl v x:=by
 refine ⟨by rw [(wkL_get hw).1];exact hl,?_⟩
 intro i v x hv hx
 exact Rep.wkL args' args cs.toList hw (by simpa using hl) (fun j u y p q=>h j u y p (by simpa using q)) i v x hv (by simpa using hx)
theorem callA_sound {l:List AV} {a:Act} (hT:RepT fz pl l a) (hS:Sim w0 pr fz pl bx w) {o:Oper} {f:Operand} {args:Array Operand} {ts:Array TypeId} (ho:o.op=.call ⟨.value f,args,ts⟩) {f':AOpd} {ys:List AOpd}
 (hf:cO f=some f') (hys:cOs args.toList=some ys) {v:AV} (hc:CallA P (f'.ev l) (ys.map (·.ev l)) v) {next:Act→World→Prop} {Q:Exit→Act→World→Prop}
 (h:∀ cv w' fz' pl',FzLe fz fz'→pl <+: pl'→Rep fz' pl' v cv→Sim w0 pr fz' pl' bx w'→next (a.put o.dst cv) w'):o.wp P a w next Q:=by
 obtain ⟨fid,caps,args',e1,⟨hcf,hC⟩,hw,hfl⟩:=hc
 have hR:=AgQ hT hf
 rw [e1] at hR
 obtain ⟨cs,hfe,k1,k2⟩:=hR.inv_fn
 have hrun:=call_run (P:=P) (w:=w) ho hfe hcf
 obtain ⟨a1,a2⟩:=args_rep hT hys k1 k2
 rw [BtX] at a1 a2
 have a3:∀ (i:Nat) v x,(ys.map (·.ev l)++caps)[i]? = some v→(args.map a.eval++cs)[i]? = some x→Rep fz [] v x:=fun i v x p q=>(a2 i v x p q).anyPl (BgQ hfl v (List.mem_of_getElem? p))
 obtain ⟨b1,b2⟩:=wkL_reps hw a1 a3
 have S1:Sim w0 (hold pr pl bx w []) fz [] [] w:=⟨hS.lay,hS.os,hS.tape,hS.output,hS.size,hS.frz,hold_prt hS [],hold_dis hS [],rfl,(fun k sz es h=>by rw [AlZ] at h;cases h),(fun k k' x y b n n' h=>by rw [AlZ] at h;cases h)⟩
 unfold Oper.wp
 rw [hrun,Oper.upon_enter]
 refine (hC w0 (hold pr pl bx w []) fz [] w _ S1 b1 b2).mono ?_
 rintro e w' ⟨cv,fz',pl',rfl,hfz,_,hr,hS'⟩
 have hpl:pl'=[]:=List.eq_nil_of_length_eq_zero (by rw [hS'.len];rfl)
 subst hpl
 refine h cv w' fz' pl hfz (List.prefix_refl _) ?_ (hS.back hfz hS')
 have:∀ {v:AV} {c:Value},Rep fz' [] v c→Rep fz' pl v c:=fun h=>h.mono (.refl _) (List.nil_prefix)
 exact this hr
theorem callV_sound {l:List AV} {a:Act} (hT:RepT fz pl l a) (hS:Sim w0 pr fz pl bx w) {o:Oper} {f:Operand} {args:Array Operand} {ts:Array TypeId} (ho:o.op=.call ⟨.value f,args,ts⟩) {f':AOpd} {ys:List AOpd}
 (hf:cO f=some f') (hys:cOs args.toList=some ys) {v:AV} (hc:CallV P (f'.ev l) (ys.map (·.ev l)) bx v) {next:Act→World→Prop} {Q:Exit→Act→World→Prop}
 (h:∀ cv w' fz' pl',FzLe fz fz'→pl <+: pl'→Rep fz' pl' v cv→Sim w0 pr fz' pl' bx w'→next (a.put o.dst cv) w'):o.wp P a w next Q:=by
 obtain ⟨n,fid,caps,args',e1,⟨hcf,hC⟩,hw,hsc⟩:=hc
 have hR:=AgQ hT hf
 rw [e1] at hR
 obtain ⟨cs,hfe,k1,k2⟩:=hR.inv_fn
 have hrun:=call_run (P:=P) (w:=w) ho hfe hcf
 obtain ⟨a1,a2⟩:=args_rep hT hys k1 k2
 rw [BtX] at a1 a2
 have a3:∀ (i:Nat) v x,((ys.map (·.ev l)++caps).map (view n bx))[i]? = some v→(args.map a.eval++cs)[i]? = some x→Rep (fun b=>w.heap[b]?) [] v x:=by
  intro i v x p q
  rw [List.getElem?_map] at p
  cases hu:(ys.map (·.ev l)++caps)[i]? with
  | none=>rw [hu] at p;cases p
  | some u=>rw [hu] at p;injection p with p;subst p;exact .frz (view_sound hS (fun b o h=>hS.frz b o h) (fun _ _ _ _ _ _=>rfl) n u x (a2 i u x hu q))
 obtain ⟨b1,b2⟩:=wkL_reps hw (by simpa using a1) a3
 have S1:Sim w0 (fun _=>none) (fun b=>w.heap[b]?) [] [] w:=⟨hS.lay.mono (fun b o h=>hS.frz b o h),hS.os,hS.tape,hS.output,hS.size,fun _ _ h=>h,(fun _ _ h=>by cases h),fun _ _ _=>rfl,rfl,(fun k sz es h=>by rw [AlZ] at h;cases h),(fun k k' x y b n n' h=>by rw [AlZ] at h;cases h)⟩
 unfold Oper.wp
 rw [hrun,Oper.upon_enter]
 refine (hC w0 _ _ [] w _ S1 b1 b2).mono ?_
 rintro e w' ⟨cv,fz',pl',rfl,hfz,_,hr,hS'⟩
 have old:∀ {b:Nat} {o},w.heap[b]? = some o→w'.heap[b]? = some o:=fun {b o} hb=>hS'.frz b o (hfz b o hb)
 have hsz:w.heap.size≤w'.heap.size:=by
  rcases Nat.lt_or_ge 0 w.heap.size with h0 | h0
  · have:w.heap[w.heap.size-1]? = some w.heap[w.heap.size-1]:=Array.getElem?_eq_getElem (by omega)
    have:=(Array.getElem?_eq_some_iff.1 (old this)).1
    omega
  · omega
 have hb:RowKit.Below w.heap.size w w':=⟨hS'.os.trans hS.os.symm,hS'.tape.trans hS.tape.symm,hS'.output.trans hS.output.symm,hsz,fun k hk=>by
  have:w.heap[k]? = some w.heap[k]:=Array.getElem?_eq_getElem hk
  rw [old this,this]⟩
 exact h cv w' fz pl (.refl _) (List.prefix_refl _) (.frz ((hr.flat (scal_flat v hsc)).scal hsc)) (hS.below hb)
end
end Go.Proofs.YtcmphhedaefcgaaGreatDoor.Av
namespace Go.Proofs.YtcmphhedaefcgaaGreatDoor.Av
open Classical
def reBox (ix:List Nat) (b:Option (Nat × List AV)):Option (Nat × List AV):=b.map fun x=>(x.1,renEs ix x.2)
theorem newIx_get:∀ (n d j:Nat),j<d→(BiX n d)[j]? = some (n+j)
 | n,0,j,h=>by omega
 | n,d+1,0,_=>by simp [BiX]
 |
  n,d+1,j+1,h=>by
  simp only [BiX,List.getElem?_cons_succ]
  rw [newIx_get (n+1) d j (by omega)]
  congr 1;omega
theorem merge_push (ix:List Nat):∀ (d:Nat) (bs bx:Bx),bs.length=d→mergeB ix (BiX bx.length d) bs bx=bx++bs.map (reBox ix)
 |
  0,bs,bx,h=>by
  have:bs=[]:=List.eq_nil_of_length_eq_zero h
  subst this;simp [BiX,mergeB]
 | d+1,[],bx,h=>by simp at h
 |
  d+1,b::bs,bx,h=>by
  simp only [BiX,mergeB,Nat.lt_irrefl,decide_false]
  have:=merge_push ix d bs (bx++[reBox ix b]) (by simpa using h)
  simp only [List.length_append,List.length_singleton] at this
  rw [show (bx++[Option.map (fun x=>(x.fst,renEs ix x.snd)) b])=bx++[reBox ix b] from rfl,this]
  simp
theorem merge_spec (ix:List Nat):∀ (a:List Nat) (bsA bsB bx:Bx),a.length=bsA.length→(∀ k∈a,k<bx.length)→a.Nodup →
 ∃ R0:Bx,mergeB ix (a++BiX bx.length bsB.length) (bsA++bsB) bx=R0++bsB.map (reBox ix)∧R0.length=bx.length ∧
  (∀ (j k:Nat),a[j]? = some k→AeZ R0 k=reBox ix (AeZ bsA j))∧(∀ k,k ∉ a→AeZ R0 k=AeZ bx k)
 |
  [],bsA,bsB,bx,hl,_,_=>by
  have:bsA=[]:=List.eq_nil_of_length_eq_zero hl.symm
  subst this
  exact ⟨bx,by simpa using merge_push ix bsB.length bsB bx rfl,rfl,by simp,fun _ _=>rfl⟩
 | k::a,[],bsB,bx,hl,_,_=>by simp at hl
 |
  k::a,b::bsA,bsB,bx,hl,hk,hnd=>by
  have hkl:=hk k (List.mem_cons_self ..)
  obtain ⟨hka,hnd'⟩:=List.nodup_cons.1 hnd
  have hsl:(ArZ bx k (reBox ix b)).length=bx.length:=AmQ _ _ _
  obtain ⟨R0,r1,r2,r3,r4⟩:=merge_spec ix a bsA bsB (ArZ bx k (reBox ix b)) (by simpa using hl) (fun j hj=>by rw [hsl];exact hk j (List.mem_cons_of_mem _ hj)) hnd'
  refine ⟨R0,?_,by rw [r2,hsl],?_,?_⟩
  · simp only [List.cons_append,mergeB,hkl,decide_true]
    rw [hsl] at r1
    exact r1
  · intro j k' hj
    cases j with
    |
     zero =>
     simp at hj;subst hj
     rw [r4 k hka,AjZ hkl];rfl
    | succ j=>exact r3 j k' (by simpa using hj)
  · intro k' hk'
    rw [r4 k' (fun h=>hk' (List.mem_cons_of_mem _ h)),AiX]
    rintro rfl;exact hk' (List.mem_cons_self ..)
section
variable {w0:World} {pr fz:Fz} {pl pls:Pl} {bx bs:Bx} {w:World} {P:Program} {ix:List Nat} {n:Nat}
theorem okBx_get:∀ {bs:Bx} {n:Nat},okBx n bs=true→∀ (j:Nat) sz es,AeZ bs j=some (sz,es)→okEs n es=true
 | [],n,_,j,sz,es,h=>by simp [AeZ] at h
 |
  none::bs,n,ho,j,sz,es,h=>by
  cases j with
  | zero=>simp [AeZ] at h
  | succ j=>exact okBx_get (by simpa [okBx] using ho) j sz es (by simpa [AeZ] using h)
 |
  some (s,e)::bs,n,ho,j,sz,es,h=>by
  simp only [okBx,Bool.and_eq_true] at ho
  cases j with
  | zero=>simp [AeZ] at h;rw [← h.2];exact ho.1
  | succ j=>exact okBx_get ho.2 j sz es (by simpa [AeZ] using h)
theorem callM_sound {l:List AV} {a:Act} (hT:RepT fz pl l a) (hS:Sim w0 pr fz pl bx w) {o:Oper} {f:Operand} {args:Array Operand} {ts:Array TypeId} (ho:o.op=.call ⟨.value f,args,ts⟩) {f':AOpd} {ys:List AOpd}
 (hf:cO f=some f') (hys:cOs args.toList=some ys) {v:AV} {bx':Bx} (hc:CallM P (f'.ev l) (ys.map (·.ev l)) bx v bx') {next:Act→World→Prop} {Q:Exit→Act→World→Prop}
 (h:∀ cv w' fz' pl',FzLe fz fz'→pl <+: pl'→Rep fz' pl' v cv→Sim w0 pr fz' pl' bx' w'→next (a.put o.dst cv) w'):o.wp P a w next Q:=by
 obtain ⟨fid,xs,ix,args',bs,r,bs',e1,⟨hcf,hC⟩,he,hnd,hok,hw,hr,hb,rfl,rfl⟩:=hc
 obtain ⟨vs,hrun,a1,a2⟩:=fnA_run (w:=w) hT ho hf hys e1 hcf
 obtain ⟨b1,b2⟩:=wkL_reps hw a1 a2
 obtain ⟨g1,g2,g3⟩:=embB_get he
 have p3:∀ (k:Nat) x b m,k∈ix→AeZ bx k=some x→pl[k]? = some (some (b,m))→hold pr pl bx w ix b=none:=by
  intro k x b m hk hx hp
  unfold hold
  rw [if_neg]
  · exact (AtX hS hx hp).2.1
  · rintro ⟨k',x',m',hk',hx',hp'⟩
    exact hk' (hS.inj k k' x x' b m m' hx hx' hp hp' ▸ hk)
 obtain ⟨S1,hpl⟩:=hS.embed rfl he hnd (hold_prt hS ix) (hold_dis hS ix) p3
 have hargs:∀ (i:Nat) v c,args'[i]? = some v→vs[i]? = some c→Rep fz (plOf pl ix) v c:=by
  intro i v c hv hc
  have:=b2 i (ren ix v) c (by rw [List.getElem?_map,hv];rfl) hc
  simp only [List.all_eq_true] at hok
  exact ren_bwd hpl this (hok v (List.mem_of_getElem? hv))
 unfold Oper.wp
 rw [hrun,Oper.upon_enter]
 refine (hC w0 _ fz (plOf pl ix) w _ S1 (by simpa using b1) hargs).mono ?_
 rintro e w' ⟨cv,fz',pls',rfl,hfz,hpre,hrep,hS'⟩
 obtain ⟨tail,rfl⟩:=hpre
 have hpol:(plOf pl ix).length=ix.length:=by simp [plOf]
 have hlen':bs'.length=ix.length+tail.length:=by rw [← hS'.len,List.length_append,hpol]
 have hd:bs'.length-bs.length=tail.length:=by omega
 rw [hd] at h
 have hix:∀ (j:Nat),j<ix.length→∃ k,ix[j]? = some k∧getN (ix++BiX bx.length tail.length) j=k∧k<bx.length:=by
  intro j hj
  have h1:ix[j]? = some ix[j]:=List.getElem?_eq_getElem hj
  exact ⟨ix[j],h1,getN_eq _ _ _ (by rw [List.getElem?_append_left hj];exact h1),g2 j _ h1⟩
 have hix2:∀ (j:Nat),j<tail.length→getN (ix++BiX bx.length tail.length) (ix.length+j)=bx.length+j:=by
  intro j hj
  refine getN_eq _ _ _ ?_
  rw [List.getElem?_append_right (by omega),show ix.length+j-ix.length=j by omega]
  exact newIx_get _ _ _ hj
 have hplN:∀ (j:Nat),j<bs'.length→(plOf pl ix++tail)[j]? = (pl++tail)[getN (ix++BiX bx.length tail.length) j]?:=by
  intro j hj
  by_cases hjl:j<ix.length
  · obtain ⟨k,q1,q2,q3⟩:=hix j hjl
    rw [q2,List.getElem?_append_left (by rw [hpol];exact hjl),List.getElem?_append_left (by rw [hS.len];exact q3)]
    exact BhY q1 (by rw [hS.len];exact q3)
  · have hj2:j=ix.length+(j-ix.length):=by omega
    rw [hj2,hix2 _ (by omega),List.getElem?_append_right (by rw [hpol];omega),List.getElem?_append_right (by rw [hS.len];omega),hpol,hS.len]
    congr 1;omega
 have hfwd:∀ (k:Nat) b,(plOf pl ix++tail)[k]? = some (some b)→(pl++tail)[getN (ix++BiX bx.length tail.length) k]? = some (some b):=by
  intro k b hk
  rw [← hplN k (by have:=(List.getElem?_eq_some_iff.1 hk).1;rw [← hS'.len];exact this)];exact hk
 have hsplit:bs'=bs'.take ix.length++bs'.drop ix.length:=(List.take_append_drop _ _).symm
 have hdl:(bs'.drop ix.length).length=tail.length:=by simp;omega
 obtain ⟨R0,m1,m2,m3,m4⟩:=merge_spec (ix++BiX bx.length tail.length) ix (bs'.take ix.length) (bs'.drop ix.length) bx (by simp;omega) (fun k hk=>by
  obtain ⟨j,hj⟩:=List.getElem?_of_mem hk
  exact g2 j k hj) hnd
 rw [hdl,← hsplit] at m1
 rw [hd] at *
 have hbtake:∀ (j:Nat),j<ix.length→AeZ (bs'.take ix.length) j=AeZ bs' j:=by
  intro j hj
  rw [BrY,BrY,List.getElem?_take,if_pos hj]
 have live:∀ (p:Nat) (x:Nat × List AV),AeZ (R0++(bs'.drop ix.length).map (reBox (ix++BiX bx.length tail.length))) p=some x →
  (p ∉ ix∧p<bx.length∧AeZ bx p=some x)∨∃ j es,j<bs'.length∧getN (ix++BiX bx.length tail.length) j=p∧AeZ bs' j=some (x.1,es)∧x.2=renEs (ix++BiX bx.length tail.length) es:=by
  intro p x hp
  have un:∀ {b:Option (Nat × List AV)},reBox (ix++BiX bx.length tail.length) b=some x→∃ es,b=some (x.1,es)∧x.2=renEs (ix++BiX bx.length tail.length) es:=by
   intro b hb
   cases b with
   | none=>cases hb
   |
    some y =>
    simp only [reBox,Option.map_some,Option.some.injEq] at hb
    subst hb
    exact ⟨y.2,rfl,rfl⟩
  by_cases hpl:p<R0.length
  · rw [AjX hpl] at hp
    by_cases hpi:p∈ix
    · obtain ⟨j,hj⟩:=List.getElem?_of_mem hpi
      have hjl:=(List.getElem?_eq_some_iff.1 hj).1
      rw [m3 j p hj,hbtake j hjl] at hp
      obtain ⟨es,q1,q2⟩:=un hp
      obtain ⟨k,z1,z2,_⟩:=hix j hjl
      rw [hj] at z1;injection z1 with z1
      exact .inr ⟨j,es,by omega,by rw [z2,z1],q1,q2⟩
    · rw [m4 p hpi] at hp
      exact .inl ⟨hpi,by omega,hp⟩
  · have hpt:=AoY hp
    simp only [List.length_append,List.length_map,hdl] at hpt
    rw [BrY,List.getElem?_append_right (by omega),List.getElem?_map,List.getElem?_drop] at hp
    cases hq:bs'[ix.length+(p-R0.length)]? with
    | none=>rw [hq] at hp;cases hp
    |
     some b =>
     rw [hq] at hp
     simp only [Option.map_some,Option.getD_some] at hp
     obtain ⟨es,q1,q2⟩:=un hp
     refine .inr ⟨ix.length+(p-R0.length),es,by omega,?_,?_,q2⟩
     · rw [hix2 _ (by omega)];omega
     · rw [BrY,hq];exact q1
 refine h cv w' fz' (pl++tail) hfz (List.prefix_append _ _) (ren_fwd hfwd hrep hr) ?_
 rw [m1]
 have nob:∀ {b o},pr b=some o→hold pr pl bx w ix b=some o:=by
  intro b o hb
  unfold hold
  split
  · rename_i hx
    obtain ⟨k,x,m,_,hk,hp⟩:=hx
    rw [(AtX hS hk hp).2.1] at hb;cases hb
  · exact hb
 have kept:∀ {p:Nat} {x b m},p ∉ ix→AeZ bx p=some x→pl[p]? = some (some (b,m))→hold pr pl bx w ix b=w.heap[b]?:=by
  intro p x b m hpi hx hp
  unfold hold
  rw [if_pos ⟨p,x,m,hpi,hx,hp⟩]
 refine ⟨hS'.lay,hS'.os,hS'.tape,hS'.output,hS'.size,hS'.frz,fun b o hb=>hS'.prt _ _ (nob hb),?_,?_,?_,?_⟩
 · intro b o hb
   have:=hS'.dis _ _ hb
   cases hp:pr b with
   | none=>rfl
   | some y=>rw [nob hp] at this;cases this
 · simp only [List.length_append,List.length_map,hdl,m2,hS.len]
 · intro p sz es hp
   rcases live p (sz,es) hp with ⟨hpi,hpl,hbp⟩ | ⟨j,es0,hj,hjp,hbj,hes⟩
   · rcases hS.box p sz es hbp with (h1 | ⟨b,o,M⟩) | ⟨b,m,arr,e,B⟩
     · exact .inl (.inl ⟨by rw [List.getElem?_append_left (by rw [hS.len];exact hpl)];exact h1.1,h1.2⟩)
     · have hh:=kept hpi hbp M.plc
       rw [M.heap] at hh
       refine .inl (.inr ⟨b,o,{ M with plc:=?_,nfz:=?_,heap:=hS'.prt _ _ hh,cont:=M.cont.mono hfz }⟩)
       · rw [List.getElem?_append_left (by rw [hS.len];exact hpl)];exact M.plc
       · cases hz:fz' b with
         | none=>rfl
         | some o=>have:=hS'.dis _ _ hz;rw [hh] at this;cases this
     · have hh:=kept hpi hbp B.plc
       rw [B.heap] at hh
       refine .inr ⟨b,m,arr,e,{ B with plc:=?_,nfz:=?_,heap:=hS'.prt _ _ hh,rep:=fun i v c q1 q2=>(B.rep i v c q1 q2).mono hfz (List.prefix_append _ _) }⟩
       · rw [List.getElem?_append_left (by rw [hS.len];exact hpl)];exact B.plc
       · cases hz:fz' b with
         | none=>rfl
         | some o=>have:=hS'.dis _ _ hz;rw [hh] at this;cases this
   · simp only at hes hbj
     subst hjp
     rcases hS'.box j sz es0 hbj with (h1 | ⟨b,o,M⟩) | ⟨b,m,arr,e,B⟩
     · refine .inl (.inl ⟨by rw [← hplN j hj];exact h1.1,?_⟩)
       rw [hes,h1.2];rfl
     · refine .inl (.inr ⟨b,o,{ M with plc:=by rw [← hplN j hj];exact M.plc,npr:=?_,cont:=by rcases M.nil with q | q | ⟨_,_,q⟩ <;> (have hM:=M.cont;rw [q] at hM;rw [hes,q];exact hM) }⟩)
       cases hp:pr b with
       | none=>rfl
       | some y=>have:=nob hp;rw [M.npr] at this;cases this
     · have hokE:=okBx_get hb j sz es0 hbj
       obtain ⟨r1,r2⟩:=renEs_cells (ix:=ix++BiX bx.length tail.length) B.elem
       have hle:((renEs (ix++BiX bx.length tail.length) es0).flatMap AV.cells).length=(es0.flatMap AV.cells).length:=by rw [AeX r1,renEs_len,AeX B.elem]
       refine .inr ⟨b,m,arr,e,⟨by rw [← hplN j hj];exact B.plc,B.nfz,?_,B.heap,B.size,by rw [hes];exact r1,by rw [hes,hle];exact B.fits,?_,?_⟩⟩
       · cases hp:pr b with
         | none=>rfl
         | some y=>have:=nob hp;rw [B.npr] at this;cases this
       · intro i v c hv hc
         rw [hes] at hv
         obtain ⟨u,hu,_⟩:=r2 i v hv
         exact B.one i u c hu hc
       · intro i v c hv hc
         rw [hes] at hv
         exact cells_fwd hfwd B.elem hokE B.rep i v c hv hc
 · intro p p' x y b m m' hp hp' q q'
   have npr:∀ {j:Nat} {z},AeZ bs' j=some z→(plOf pl ix++tail)[j]? = some (some (b,m))∨(plOf pl ix++tail)[j]? = some (some (b,m'))→hold pr pl bx w ix b=none:=by
    intro j z hz hq
    rcases hS'.box j z.1 z.2 hz with (h1 | ⟨b',o',M⟩) | ⟨b',n',arr,e,B⟩
    · rcases hq with hq | hq <;> (rw [h1.1] at hq;cases hq)
    · rcases hq with hq | hq <;> (obtain ⟨rfl,_⟩:=M.unique hq;exact M.npr)
    · rcases hq with hq | hq <;> (obtain ⟨rfl,_⟩:=B.unique hq;exact B.npr)
   rcases live p x hp with ⟨hpi,hpl,hbp⟩ | ⟨j,es0,hj,hjp,hbj,_⟩
   · rw [List.getElem?_append_left (by rw [hS.len];exact hpl)] at q
     rcases live p' y hp' with ⟨hpi',hpl',hbp'⟩ | ⟨j',es0',hj',hjp',hbj',_⟩
     · rw [List.getElem?_append_left (by rw [hS.len];exact hpl')] at q'
       exact hS.inj p p' _ _ b m m' hbp hbp' q q'
     · subst hjp'
       rw [← hplN j' hj'] at q'
       have h1:=npr hbj' (.inr q')
       rw [kept hpi hbp q] at h1
       obtain ⟨_,_,o,ho⟩:=AtX hS hbp q
       rw [ho] at h1;cases h1
   · subst hjp
     rw [← hplN j hj] at q
     rcases live p' y hp' with ⟨hpi',hpl',hbp'⟩ | ⟨j',es0',hj',hjp',hbj',_⟩
     · rw [List.getElem?_append_left (by rw [hS.len];exact hpl')] at q'
       have h1:=npr hbj (.inl q)
       rw [kept hpi' hbp' q'] at h1
       obtain ⟨_,_,o,ho⟩:=AtX hS hbp' q'
       rw [ho] at h1;cases h1
     · subst hjp'
       rw [← hplN j' hj'] at q'
       have:=hS'.inj j j' _ _ b m m' hbj hbj' q q'
       rw [this]
end
end Go.Proofs.YtcmphhedaefcgaaGreatDoor.Av
namespace Go.Proofs.YtcmphhedaefcgaaGreatDoor.Av
def CallAK (P:Program) (f:AV) (args:List AV) (K:AV→Bx→Prop) (bx:Bx):Prop:=∃ v,CallA P f args v∧K v bx
def CallVK (P:Program) (f:AV) (args:List AV) (K:AV→Bx→Prop) (bx:Bx):Prop:=∃ v,CallV P f args bx v∧K v bx
def CallMK (P:Program) (f:AV) (args:List AV) (K:AV→Bx→Prop) (bx:Bx):Prop:=∃ v bx',CallM P f args bx v bx'∧K v bx'
def CallOK (P:Program) (f:AV) (args:List AV) (K:AV→Bx→Prop) (bx:Bx):Prop:=∃ v bx',(CallM P f args bx v bx'∧bx <+: bx')∧K v bx'
def AV.isSl:AV→Bool
 | .nils | .list .. | .sl ..=>true
 | _=>false
def AV.nonNil:AV→Bool
 | .list _ (_::_)=>true
 | .sl _ _ _ (_+1)=>true
 | _=>false
def AwY (P:Program) (op:AOp AV) (K:AV→Bx→Prop) (bx:Bx):Prop :=
 match op with
 |
  .load a n x=>match BhZ bx a n x with
  | some v=>K v bx
  | none=>False
 |
  .alloc z=>match evW bx (.alloc z) with
  | some (v,bx')=>K v bx'
  | none=>False
 |
  .box sz x=>match evW bx (.box sz x) with
  | some (v,bx')=>K v bx'
  | none=>False
 |
  .store n p x=>match evW bx (.store n p x) with
  | some (v,bx')=>K v bx'
  | none=>False
 |
  .app sz by_ x y=>match appBase bx sz x,elemsOf bx sz y with
  | some (xs,k),some ys=>((xs.length+ys.length) * by_≤140737488355328∧xs.length+ys.length≤maxLen)∧K (.sl sz bx.length 0 (xs.length+ys.length)) (bxKill bx k++[some (sz,xs++ys)])
  | _,_=>False
 |
  .mks sz by_ z n c=>match n,c with
  | .int _ m,.int _ m'=>m=m'∧0≤m∧(by_:Int) * m≤281474976710656∧m≤9223372036854775807∧K (.sl sz bx.length 0 m.toNat) (bx++[some (sz,List.replicate m.toNat z)])
  | _,_=>False
 |
  .isnil neg x=>x.isSl=true∧K (.bool neg) bx∧(match x.nonNil with
  | true=>True
  | false=>K (.bool (!neg)) bx)
 |
  .pick c x y=>match c with
  | .bool t=>if t=true then K x bx else K y bx
  | _=>False
 | .call f args=>CallAK P f args K bx
 | .callv f args=>CallVK P f args K bx
 | .callm f args=>CallMK P f args K bx
 | .callo f args=>CallOK P f args K bx
 | .same a n x d=>(BhZ bx a n x=some d∧d≠.any)∧K (.tuple []) bx
 |
  .bslm sz xs=>match evW bx (.bslm sz xs) with
  | some (v,bx')=>K v bx'
  | none=>False
 |
  .clr sz x=>match evW bx (.clr sz x) with
  | some (v,bx')=>K v bx'
  | none=>False
 |
  .mkm=>match evW bx .mkm with
  | some (v,bx')=>K v bx'
  | none=>False
 |
  .mset x k=>match evW bx (.mset x k) with
  | some (v,bx')=>K v bx'
  | none=>False
 |
  .mkv=>match evW bx .mkv with
  | some (v,bx')=>K v bx'
  | none=>False
 |
  .mputv tk x k v=>match evW bx (.mputv tk x k v) with
  | some (v,bx')=>K v bx'
  | none=>False
 |
  .mgetv tk ok z x k=>match evMap bx tk ok z x k with
  | some v=>K v bx
  | none=>False
 |
  .clrm x=>match evW bx (.clrm x) with
  | some (v,bx')=>K v bx'
  | none=>False
 |
  op=>match evP op with
  | some v=>K v bx
  | none=>False
theorem awpDo_opc {P:Program} {op:AOp AV} {K:AV→Bx→Prop} {bx:Bx} (h:AwY P op K bx) :
 (∃ v bx',OpC P op bx v bx'∧K v bx')∨(∃ neg x,op=.isnil neg x∧x.isSl=true∧K (.bool neg) bx∧(x.nonNil=false→K (.bool (!neg)) bx)):=by
 cases op
 case isnil neg x =>
  obtain ⟨h1,h2,h3⟩:=h
  exact .inr ⟨neg,x,rfl,h1,h2,fun hn=>by rw [hn] at h3;exact h3⟩
 case pick c x y =>
  simp only [AwY] at h
  split at h
  · rename_i t
    cases t
    · exact .inl ⟨y,bx,⟨rfl,rfl⟩,by simpa using h⟩
    · exact .inl ⟨x,bx,⟨rfl,rfl⟩,by simpa using h⟩
  · exact h.elim
 case load a n x =>
  simp only [AwY] at h
  split at h
  · rename_i v hv;exact .inl ⟨v,bx,⟨hv,rfl⟩,h⟩
  · exact h.elim
 case alloc z =>
  simp only [AwY] at h
  split at h
  · rename_i v b hv;exact .inl ⟨v,b,hv,h⟩
  · exact h.elim
 case box sz x =>
  simp only [AwY] at h
  split at h
  · rename_i v b hv;exact .inl ⟨v,b,hv,h⟩
  · exact h.elim
 case store n p x =>
  simp only [AwY] at h
  split at h
  · rename_i v b hv;exact .inl ⟨v,b,hv,h⟩
  · exact h.elim
 case bslm sz xs =>
  simp only [AwY] at h
  split at h
  · rename_i v b hv;exact .inl ⟨v,b,hv,h⟩
  · exact h.elim
 case mkm =>
  simp only [AwY] at h
  split at h
  · rename_i v b hv;exact .inl ⟨v,b,hv,h⟩
  · exact h.elim
 case mset x k =>
  simp only [AwY] at h
  split at h
  · rename_i v b hv;exact .inl ⟨v,b,hv,h⟩
  · exact h.elim
 case mkv =>
  simp only [AwY] at h
  split at h
  · rename_i v b hv;exact .inl ⟨v,b,hv,h⟩
  · exact h.elim
 case mputv tk x k u =>
  simp only [AwY] at h
  split at h
  · rename_i v b hv;exact .inl ⟨v,b,hv,h⟩
  · exact h.elim
 case mgetv tk ok z x k =>
  simp only [AwY] at h
  split at h
  · rename_i v hv;exact .inl ⟨v,bx,⟨hv,rfl⟩,h⟩
  · exact h.elim
 case clrm x =>
  simp only [AwY] at h
  split at h
  · rename_i v b hv;exact .inl ⟨v,b,hv,h⟩
  · exact h.elim
 case clr sz x =>
  simp only [AwY] at h
  split at h
  · rename_i v b hv;exact .inl ⟨v,b,hv,h⟩
  · exact h.elim
 case app sz b x y =>
  simp only [AwY] at h
  split at h
  · rename_i xs k ys h1 h2;exact .inl ⟨_,_,⟨xs,k,ys,h1,h2,h.1.1,h.1.2,rfl,rfl⟩,h.2⟩
  · exact h.elim
 case mks sz b z n c =>
  simp only [AwY] at h
  split at h
  · rename_i k m k' m';obtain ⟨rfl,h0,h1,h2,h3⟩:=h;exact .inl ⟨_,_,⟨k,k',m,rfl,rfl,h0,h1,h2,rfl,rfl⟩,h3⟩
  · exact h.elim
 case call f args=>obtain ⟨v,h1,h2⟩:=h;exact .inl ⟨v,bx,⟨h1,rfl⟩,h2⟩
 case callv f args=>obtain ⟨v,h1,h2⟩:=h;exact .inl ⟨v,bx,⟨h1,rfl⟩,h2⟩
 case callm f args=>obtain ⟨v,b,h1,h2⟩:=h;exact .inl ⟨v,b,h1,h2⟩
 case callo f args=>obtain ⟨v,b,h1,h2⟩:=h;exact .inl ⟨v,b,h1,h2⟩
 case same a n x d=>exact .inl ⟨.tuple [],bx,⟨h.1,rfl,rfl⟩,h.2⟩
 all_goals
  simp only [AwY] at h
  split at h
  · rename_i v hv;exact .inl ⟨v,bx,⟨hv,rfl⟩,h⟩
  · exact h.elim
def AxY (F:List AV→Bx→Prop) (l:List AV) (d:Option Nat) (v:AV) (bx:Bx):Prop:=F (putT l d v) bx
def awpOper (P:Program) (o:AOper) (F:List AV→Bx→Prop) (l:List AV) (bx:Bx):Prop :=
 match o.guard with
  | none=>AwY P (o.op.map (·.ev l)) (AxY F l o.dst) bx
  |
   some (t,want)=>match getT l t with
   | .bool b=>if b=want then AwY P (o.op.map (·.ev l)) (AxY F l o.dst) bx else F (putT l o.dst (.tuple [])) bx
   | .tuple []=>F (putT l o.dst (.tuple [])) bx
   | _=>False
def AbX (P:Program):List AOper→(List AV→Bx→Prop)→List AV→Bx→Prop
 | [],K=>K
 | o::os,K=>awpOper P o (AbX P os K)
theorem BqX:∀ (l:List AV) (d t:Nat) (v:AV),getT (setT l d v) t=if d=t∧d<l.length then v else getT l t
 | [],d,t,v=>by simp [setT,getT]
 | x::l,0,0,v=>by simp [setT,getT]
 | x::l,0,t+1,v=>by simp [setT,getT]
 | x::l,d+1,0,v=>by simp [setT,getT]
 | x::l,d+1,t+1,v=>by simp [setT,getT,BqX l d t v]
theorem setT_length:∀ (l:List AV) (d:Nat) (v:AV),(setT l d v).length=l.length
 | [],d,v=>by simp [setT]
 | x::l,0,v=>by simp [setT]
 | x::l,d+1,v=>by simp [setT,setT_length l d v]
theorem putT_length (l:List AV) (d:Option Nat) (v:AV):(putT l d v).length=l.length:=by cases d <;> simp [putT,setT_length]
section
variable {w0:World} {pr fz:Fz} {pl pls:Pl} {bx bs:Bx} {w:World} {P:Program}
theorem RepT.mono {fz':Fz} {pl':Pl} {l:List AV} {a:Act} (h:RepT fz pl l a) (hf:FzLe fz fz') (hp:pl <+: pl'):RepT fz' pl' l a:=⟨h.1,fun t=>(h.2 t).mono hf hp⟩
theorem RepT.put {l:List AV} {a:Act} (h:RepT fz pl l a) (d:Option Nat) {v:AV} {c:Value} (hv:Rep fz pl v c):RepT fz pl (putT l d v) (a.put d c):=by
 cases d with
 | none=>exact h
 |
  some d =>
  refine ⟨by simp [putT,setT_length,Act.put,h.1],?_⟩
  intro t
  simp only [putT,BqX,Act.put]
  by_cases hd:d=t∧d<l.length
  · obtain ⟨rfl,hl⟩:=hd
    rw [if_pos ⟨rfl,hl⟩]
    have:(a.tmps.setIfInBounds d c).getD d undef=c:=by
     have hl':d<a.tmps.size:=by rw [← h.1];exact hl
     simp [Array.getD_eq_getD_getElem?,hl']
    rw [this];exact hv
  · rw [if_neg hd]
    have:(a.tmps.setIfInBounds d c).getD t undef=a.tmps.getD t undef:=by
     by_cases hdt:d=t
     · subst hdt
       have hl':¬ d<a.tmps.size:=by rw [← h.1];exact fun h=>hd ⟨rfl,h⟩
       simp [Array.getD_eq_getD_getElem?,Array.getElem?_eq_none (Nat.le_of_not_lt hl'),Array.getElem?_eq_none (show (a.tmps.setIfInBounds d c).size≤d by simp;omega)]
     · simp [Array.getD_eq_getD_getElem?,Array.getElem?_setIfInBounds_ne hdt]
    rw [this];exact h.2 t
theorem AkY (a:Act) (d:Option Nat) (v:Value):(a.put d v).defers=a.defers:=by cases d <;> rfl
theorem opC_sound {mt:FuncId→Nat} {o:Oper} {p:AOp AOpd} (hc:cOp P mt o=some p) {l:List AV} {a:Act} (hT:RepT fz pl l a) (hS:Sim w0 pr fz pl bx w) {v:AV} {bx':Bx} (hr:OpC P (p.map (·.ev l)) bx v bx')
 {next:Act→World→Prop} {Q:Exit→Act→World→Prop}
 (h:∀ cv w' fz' pl',FzLe fz fz'→pl <+: pl'→Rep fz' pl' v cv→Sim w0 pr fz' pl' bx' w'→next (a.put o.dst cv) w'):o.wp P a w next Q:=by
 have plain:OpR (p.map (·.ev l)) bx v bx'→o.wp P a w next Q:=by
  intro hr
  obtain ⟨cv,w',fz',pl',hrun,h1,h2,h3,h4⟩:=op_sound hc hT hS hr
  unfold Oper.wp
  rcases hrun with hrun | ⟨hrun,rfl⟩
  · rw [hrun,Oper.upon_value];exact h cv w' fz' pl' h1 h2 h3 h4
  · rw [hrun,Oper.upon_skip];exact h undef w' fz' pl' h1 h2 h3 h4
 have isCall:∀ (f':AOpd) (ys:List AOpd),(p=.call f' ys∨p=.callv f' ys∨p=.callm f' ys∨p=.callo f' ys)→∃ f args ts,o.op=.call ⟨.value f,args,ts⟩∧cO f=some f'∧cOs args.toList=some ys:=by
  intro f' ys hp
  obtain ⟨dst,op,type,pos,after,guard⟩:=o
  unfold cOp at hc
  cases op <;> simp only at hc
  case call c =>
   obtain ⟨callee,args,argTypes⟩:=c
   simp only at hc
   split at hc
   case h_6 =>
    rename_i l _ f
    split at hc
    · rename_i f1 l1 h1 h2
      split at hc <;> (injection hc with hc;subst hc;rcases hp with hp | hp | hp | hp <;> first | (cases hp;done) | (injection hp with e1 e2;subst e1;subst e2;exact ⟨f,args,argTypes,rfl,h1,h2⟩))
    · cases hc
   all_goals
    exfalso
    revert hc
    repeat' split
    all_goals first
     | (intro hc;cases hc;done)
     | (intro hc;injection hc with hc;subst hc;rcases hp with hp | hp | hp | hp <;> cases hp)
     | (intro hc;rw [Option.map_eq_some_iff] at hc;obtain ⟨_,_,hc⟩:=hc;subst hc;rcases hp with hp | hp | hp | hp <;> cases hp)
  all_goals
   exfalso
   revert hc
   repeat' split
   all_goals first
    | (intro hc;cases hc;done)
    | (intro hc;injection hc with hc;subst hc;rcases hp with hp | hp | hp | hp <;> cases hp)
    | (intro hc;rw [Option.map_eq_some_iff] at hc;obtain ⟨_,_,hc⟩:=hc;subst hc;rcases hp with hp | hp | hp | hp <;> cases hp)
 cases p
 case call f' ys =>
  obtain ⟨f,args,ts,ho,h1,h2⟩:=isCall f' ys (.inl rfl)
  obtain ⟨hr,rfl⟩:=hr
  exact callA_sound hT hS ho h1 h2 hr h
 case callv f' ys =>
  obtain ⟨f,args,ts,ho,h1,h2⟩:=isCall f' ys (.inr (.inl rfl))
  obtain ⟨hr,rfl⟩:=hr
  exact callV_sound hT hS ho h1 h2 hr h
 case callm f' ys =>
  obtain ⟨f,args,ts,ho,h1,h2⟩:=isCall f' ys (.inr (.inr (.inl rfl)))
  exact callM_sound hT hS ho h1 h2 hr h
 case callo f' ys =>
  obtain ⟨f,args,ts,ho,h1,h2⟩:=isCall f' ys (.inr (.inr (.inr rfl)))
  exact callM_sound hT hS ho h1 h2 hr.1 h
 case same a n x d =>
  exfalso
  obtain ⟨dst,op,type,pos,after,guard⟩:=o
  unfold cOp at hc
  cases op <;> simp only at hc
  all_goals
   revert hc
   repeat' split
   all_goals first
    | (intro hc;cases hc;done)
    | (intro hc;rw [Option.map_eq_some_iff] at hc;obtain ⟨_,_,hc⟩:=hc;cases hc)
 all_goals exact plain hr
end
end Go.Proofs.YtcmphhedaefcgaaGreatDoor.Av
namespace Go.Proofs.YtcmphhedaefcgaaGreatDoor.Av
section
variable {w0:World} {pr fz:Fz} {pl pls:Pl} {bx bs:Bx} {w:World} {P:Program}
theorem isnil_sound {mt:FuncId→Nat} {o:Oper} {p:AOp AOpd} (hc:cOp P mt o=some p) {l:List AV} {a:Act} (hT:RepT fz pl l a) {neg:Bool} {x:AV} (hp:p.map (·.ev l)=.isnil neg x) (hx:x.isSl=true) :
 ∃ b,(execOp a.eval o).run P w=.ok (.value (.bool b)) w∧(x.nonNil=true→b=neg):=by
 obtain ⟨dst,op,type,pos,after,guard⟩:=o
 have key:∀ (t:TypeId) (e:TypeId) (u v:Operand) (u':AOpd) (yt:TypeId) (nb:Bool),P.underlying t=some (.slice e)→cO u=some u'→cO v=some (.val .nils)→p=.isnil nb u'→(nb=false∧op=.binOp .eql t u v yt∨nb=true∧op=.binOp .neq t u v yt) →
  ∃ b,(execOp a.eval ⟨dst,op,type,pos,after,guard⟩).run P w=.ok (.value (.bool b)) w∧(x.nonNil=true→b=neg):=by
  intro t e u v u' yt nb hu h1 h2 hp' ho
  subst hp'
  simp only [AOp.map] at hp
  injection hp with e1 e2
  have hv:a.eval v=.slice none 0 0:=by
   cases v with
   |
    const c =>
    simp only [cO] at h2
    cases hk:constV c with
    | none=>rw [hk] at h2;cases h2
    |
     some z =>
     rw [hk] at h2
     simp only [Option.map_some,Option.some.injEq,AOpd.val.injEq] at h2
     subst h2
     unfold constV at hk
     split at hk
     · cases hl:leafs _ with
       | none=>rw [hl] at hk;cases hk
       | some r=>rw [hl] at hk;cases hk
     · unfold leafV at hk
       split at hk <;> first | (cases hk;done) | rfl
   | tmp _=>cases h2
   | global _=>cases h2
   | func _=>cases h2
  have hR:=AgQ hT h1
  rw [e2] at hR
  have hs:∃ ao n c,a.eval u=.slice ao n c∧(x.nonNil=true→ao.isSome=true):=by
   cases x <;> simp [AV.isSl] at hx
   · obtain ⟨ao,h⟩:=hR.inv_nils;exact ⟨ao,0,0,h,fun h=>by cases h⟩
   · rename_i sz xs
     have gen:∀ cu,RepF fz (.list sz xs) cu→∃ ao n c,cu=.slice ao n c∧((AV.list sz xs).nonNil=true→ao.isSome=true):=by
      intro cu hR'
      cases hR' with
      | list _ _ b off arr e fr n cap hb hn hc hs hlen h1 h=>exact ⟨_,_,_,rfl,fun _=>rfl⟩
      | list0 _ ao cap=>exact ⟨ao,_,cap,rfl,fun h=>by cases h⟩
     exact gen _ hR.inv_list
   · rename_i sz k off len
     rcases hR.inv_sl with ⟨b,q,cap,hb,_⟩ | ⟨ao,hb,h0⟩
     · exact ⟨_,_,_,hb,fun _=>rfl⟩
     · exact ⟨_,_,_,hb,fun h=>by subst h0;cases h⟩
  obtain ⟨ao,n,c,hs,hsome⟩:=hs
  have he:∃ b,(Op.equal t (.slice ao n c) (.slice none 0 0)).run P w=.ok b w∧(ao.isSome=true→b=false):=by
   have:∀ d,∃ b,(Op.equalIn (d+1) t (.slice ao n c) (.slice none 0 0)).run P w=.ok b w∧(ao.isSome=true→b=false):=by
    intro d
    cases ao with
    | none=>exact ⟨true,by simp [Op.equalIn,run_underlying hu],fun h=>by cases h⟩
    | some ad=>exact ⟨false,by simp [Op.equalIn,run_underlying hu],fun _=>rfl⟩
   exact this 9999
  obtain ⟨b,hb,hbf⟩:=he
  rcases ho with ⟨rfl,rfl⟩ | ⟨rfl,rfl⟩
  · exact ⟨b,by simp [execOp,hs,hv,eqGuard,binOp,hb],fun h=>by rw [hbf (hsome h),← e1]⟩
  · exact ⟨!b,by simp [execOp,hs,hv,eqGuard,binOp,hb],fun h=>by rw [hbf (hsome h),← e1];rfl⟩
 unfold cOp at hc
 cases op <;> simp only at hc
 case binOp op t u v yt =>
  split at hc
  · injection hc with hc;subst hc;simp [AOp.map] at hp
  · injection hc with hc;subst hc;simp [AOp.map] at hp
  · rename_i e u' h1 h2 h3
    split at hc
    · injection hc with hc;exact key t e u v u' yt false h1 h2 h3 hc.symm (.inl ⟨rfl,rfl⟩)
    · injection hc with hc;exact key t e u v u' yt true h1 h2 h3 hc.symm (.inr ⟨rfl,rfl⟩)
    · cases hc
  · split at hc <;> first | (cases hc;done) | (injection hc with hc;subst hc;simp [AOp.map] at hp)
  · split at hc <;> first | (cases hc;done) | (injection hc with hc;subst hc;simp [AOp.map] at hp)
  · split at hc <;> first | (cases hc;done) | (injection hc with hc;subst hc;simp [AOp.map] at hp)
  · split at hc
    · split at hc <;> first | (cases hc;done) | (injection hc with hc;subst hc;simp [AOp.map] at hp)
    · cases hc
  · cases hc
 all_goals
  exfalso
  revert hc
  repeat' split
  all_goals first
   | (intro hc;cases hc;done)
   | (intro hc;injection hc with hc;subst hc;simp [AOp.map] at hp;done)
   | (intro hc;rw [Option.map_eq_some_iff] at hc;obtain ⟨_,_,hc⟩:=hc;subst hc;simp [AOp.map] at hp;done)
theorem awpDo_sound {mt:FuncId→Nat} {o:Oper} {p:AOp AOpd} (hc:cOp P mt o=some p) {l:List AV} {a:Act} (hT:RepT fz pl l a) (hS:Sim w0 pr fz pl bx w) {K:AV→Bx→Prop} (hr:AwY P (p.map (·.ev l)) K bx)
 {next:Act→World→Prop} {Q:Exit→Act→World→Prop}
 (h:∀ v bx' cv w' fz' pl',K v bx'→FzLe fz fz'→pl <+: pl'→Rep fz' pl' v cv→Sim w0 pr fz' pl' bx' w'→next (a.put o.dst cv) w'):o.wp P a w next Q:=by
 rcases awpDo_opc hr with ⟨v,bx',h1,h2⟩ | ⟨neg,x,h1,h2,h3,h4⟩
 · exact opC_sound hc hT hS h1 (fun cv w' fz' pl'=>h v bx' cv w' fz' pl' h2)
 · obtain ⟨b,hb,hnn⟩:=isnil_sound (w:=w) hc hT h1 h2
   unfold Oper.wp
   rw [hb,Oper.upon_value]
   by_cases hbn:b=neg
   · subst hbn
     exact h _ _ _ w fz pl h3 (.refl _) (List.prefix_refl _) (.frz (.bool _)) hS
   · have hx:x.nonNil=false:=by
      cases hx:x.nonNil with
      | false=>rfl
      | true=>exact absurd (hnn hx) hbn
     have hb2:b=!neg:=by cases b <;> cases neg <;> simp_all
     subst hb2
     exact h _ _ _ w fz pl (h4 hx) (.refl _) (List.prefix_refl _) (.frz (.bool _)) hS
theorem BjY {ops:Array Oper} {o:Oper} {t:Nat} {want:Bool} (hg:cGuard ops o=some (some (t,want))) {l:List AV} {a:Act} (hT:RepT fz pl l a) :
 (∀ b,getT l t=.bool b→Region.wanted o (yielded ops a.tmps)=(b == want))∧(getT l t=.tuple []→Region.wanted o (yielded ops a.tmps)=false):=by
 unfold cGuard at hg
 cases hgo:o.guard with
 | none=>rw [hgo] at hg;cases hg
 |
  some g =>
  obtain ⟨gi,b⟩:=g
  rw [hgo] at hg
  simp only at hg
  split at hg
  · rename_i t' ht
    injection hg with hg;injection hg with hg;injection hg with e1 e2
    subst e1;subst e2
    have hR:=hT.2 t'
    refine ⟨?_,?_⟩
    · intro b' hb'
      rw [hb'] at hR
      have hv:=hR.inv_bool
      have:a.tmps[t']? = some (.bool b'):=by
       rw [Array.getD_eq_getD_getElem?] at hv
       cases hx:a.tmps[t']? with
       | none=>rw [hx] at hv;cases hv
       | some x=>rw [hx] at hv;simp at hv;rw [hv]
      simp [Region.wanted,hgo,yielded,ht,this]
    · intro hb'
      rw [hb'] at hR
      obtain ⟨cs,hv,hl,_⟩:=hR.inv_tuple
      have:yielded ops a.tmps gi=none:=by
       rw [Array.getD_eq_getD_getElem?] at hv
       cases hx:a.tmps[t']? with
       | none=>simp [yielded,ht,hx]
       | some x=>rw [hx] at hv;simp at hv;simp [yielded,ht,hx,hv]
      simp [Region.wanted,hgo,this]
  · cases hg
theorem guard_none {ops:Array Oper} {o:Oper} (hg:cGuard ops o=some none) (a:Act):Region.wanted o (yielded ops a.tmps)=true:=by
 unfold cGuard at hg
 cases hgo:o.guard with
 | none=>simp [Region.wanted,hgo]
 |
  some g =>
  rw [hgo] at hg
  simp only at hg
  split at hg <;> cases hg
theorem rep_undef:Rep fz pl (.tuple []) undef:=.frz (.tuple [] #[] rfl (by simp))
theorem awpDo_soundB {mt:FuncId→Nat} {o:Oper} {p:AOp AOpd} (hc:(cOp P mt o).getD .bad=p) {l:List AV} {a:Act} (hT:RepT fz pl l a) (hS:Sim w0 pr fz pl bx w) {K:AV→Bx→Prop} (hK:AwY P (p.map (·.ev l)) K bx)
 {next:Act→World→Prop} {Q:Exit→Act→World→Prop}
 (h:∀ v bx' cv w' fz' pl',K v bx'→FzLe fz fz'→pl <+: pl'→Rep fz' pl' v cv→Sim w0 pr fz' pl' bx' w'→next (a.put o.dst cv) w'):o.wp P a w next Q:=by
 cases hq:cOp P mt o with
 | none=>rw [hq] at hc;simp only [Option.getD_none] at hc;subst hc;exact hK.elim
 | some q=>rw [hq] at hc;simp only [Option.getD_some] at hc;subst hc;exact awpDo_sound hq hT hS hK h
theorem opers_sound {mt:FuncId→Nat} {ops:Array Oper} {Q:Exit→Act→World→Prop}:∀ (os:List Oper) (k:Nat) (az:List AOper),ops.toList.drop k=os→BhQ P mt ops os=some az →
 ∀ (K:List AV→Bx→Prop) (l:List AV) (bx:Bx) (fz:Fz) (pl:Pl) (a:Act) (w:World),AbX P az K l bx→RepT fz pl l a→Sim w0 pr fz pl bx w →
  (∀ l' bx' a' w' fz' pl',K l' bx'→FzLe fz fz'→pl <+: pl'→RepT fz' pl' l' a'→Sim w0 pr fz' pl' bx' w'→a'.defers=a.defers→Q .normal a' w')→wpOps P ops Q (List.range' k os.length) a w
 |
  [],k,az,_,hz,K,l,bx,fz,pl,a,w,hK,hT,hS,hQ=>by
  simp [BhQ] at hz;subst hz
  simp only [List.length_nil,List.range'_zero,wpOps]
  simp only [AbX] at hK
  exact hQ l bx a w fz pl hK (.refl _) (List.prefix_refl _) hT hS rfl
 |
  o::os,k,az,hd,hz,K,l,bx,fz,pl,a,w,hK,hT,hS,hQ=>by
  simp only [BhQ] at hz
  split at hz
  · rename_i p r hp hr
    injection hz with hz;subst hz
    have ho:ops[k]? = some o:=by
     have:(ops.toList.drop k)[0]? = some o:=by rw [hd];rfl
     simpa using this
    have hd':ops.toList.drop (k+1)=os:=by rw [← List.drop_drop,hd];rfl
    unfold cOper at hp
    generalize hq:(cOp P mt o).getD .bad=q at hp
    split at hp
    · rename_i g hg
      injection hp with hp;subst hp
      simp only [List.length_cons,List.range'_succ,wpOps,ho]
      have go:AwY P (q.map (·.ev l)) (AxY (AbX P r K) l o.dst) bx→o.wp P a w (wpOps P ops Q (List.range' (k+1) os.length)) Q:=by
       intro hdo
       refine awpDo_soundB hq hT hS hdo ?_
       intro v bx' cv w' fz' pl' hk h1 h2 h3 h4
       refine opers_sound os (k+1) r hd' hr K _ bx' fz' pl' _ w' hk ((hT.mono h1 h2).put o.dst h3) h4 ?_
       intro l' bx'' a' w'' fz'' pl'' g1 g2 g3 g4 g5 g6
       exact hQ l' bx'' a' w'' fz'' pl'' g1 (h1.trans g2) (h2.trans g3) g4 g5 (by rw [g6,AkY])
      have skip:AbX P r K (putT l o.dst (.tuple [])) bx→wpOps P ops Q (List.range' (k+1) os.length) (a.put o.dst undef) w:=by
       intro hk
       refine opers_sound os (k+1) r hd' hr K _ bx fz pl _ w hk (hT.put o.dst rep_undef) hS ?_
       intro l' bx'' a' w'' fz'' pl'' g1 g2 g3 g4 g5 g6
       exact hQ l' bx'' a' w'' fz'' pl'' g1 g2 g3 g4 g5 (by rw [g6,AkY])
      simp only [AbX,awpOper] at hK
      split at hK
      · rw [if_pos (guard_none hg a)]
        exact .inl (go hK)
      · rename_i t want
        obtain ⟨y1,y2⟩:=BjY hg hT
        split at hK
        · rename_i b hb
          rw [y1 b hb]
          by_cases hbw:b=want
          · subst hbw
            rw [if_pos (by simp)]
            exact .inl (go (by simpa using hK))
          · rw [if_neg (by simpa using hbw)]
            exact skip (by rwa [if_neg hbw] at hK)
        · rename_i hb
          rw [y2 hb,if_neg (by simp)]
          exact skip hK
        · exact hK.elim
    · cases hp
  · cases hz
theorem region_sound {mt:FuncId→Nat} {ops:Array Oper} {id:Nat} {az:List AOper} (hz:BhQ P mt ops ops.toList=some az) {K:List AV→Bx→Prop} {l:List AV} {a:Act} (hK:AbX P az K l bx) (hT:RepT fz pl l a) (hS:Sim w0 pr fz pl bx w)
 {Q:Exit→Act→World→Prop} (hQ:∀ l' bx' a' w' fz' pl',K l' bx'→FzLe fz fz'→pl <+: pl'→RepT fz' pl' l' a'→Sim w0 pr fz' pl' bx' w'→a'.defers=a.defers→Q .normal a' w'):(Code.region id ops false).wp P Q a w:=by
 refine wp_region ?_
 have:=opers_sound (Q:=Q) ops.toList 0 az (by simp) hz K l bx fz pl a w hK hT hS hQ
 rwa [List.range_eq_range',← Array.length_toList]
end
end Go.Proofs.YtcmphhedaefcgaaGreatDoor.Av
namespace Go.Proofs.YtcmphhedaefcgaaGreatDoor.Av
theorem mem_unionN:∀ {a b:List Nat} {x:Nat},x∈unionN a b→x∈a∨x∈b
 | [],b,x,h=>.inr h
 |
  y::a,b,x,h=>by
  unfold unionN at h
  split at h
  · rcases mem_unionN h with h | h
    · exact .inl (List.mem_cons_of_mem _ h)
    · exact .inr h
  · rcases mem_unionN h with h | h
    · exact .inl (List.mem_cons_of_mem _ h)
    · rcases List.mem_cons.1 h with rfl | h
      · exact .inl (List.mem_cons_self ..)
      · exact .inr h
theorem mem_ancOf {acc:List (List Nat)}:∀ {es:List Nat} {x:Nat},x∈ancOf acc es→∃ e∈es,x=e∨x∈acc.getD e []
 | [],x,h=>by simp [ancOf] at h
 |
  e::es,x,h=>by
  simp only [ancOf] at h
  rcases mem_unionN h with h | h
  · rcases List.mem_cons.1 h with rfl | h
    · exact ⟨x,List.mem_cons_self ..,.inl rfl⟩
    · exact ⟨e,List.mem_cons_self ..,.inr h⟩
  · obtain ⟨e',h1,h2⟩:=mem_ancOf h
    exact ⟨e',List.mem_cons_of_mem _ h1,h2⟩
theorem edgesUp_get:∀ {k:Nat} {os:List Oper},edgesUp k os=true→∀ (j:Nat) o,os[j]? = some o→∀ e∈BkX o,e<k+j
 | k,[],_,j,o,h,e,he=>by simp at h
 |
  k,p::os,hu,j,o,h,e,he=>by
  simp only [edgesUp,Bool.and_eq_true,List.all_eq_true,decide_eq_true_eq] at hu
  cases j with
  | zero=>simp at h;subst h;simpa using hu.1 e he
  | succ j=>have:=edgesUp_get hu.2 j o (by simpa using h) e he;omega
theorem AzZ {ops:List Oper} {D:Nat→Prop} (hup:edgesUp 0 ops=true) (hD:∀ (i:Nat) o,ops[i]? = some o→D i→∀ e∈BkX o,D e) :
 ∀ (os:List Oper) (acc:List (List Nat)),ops.drop acc.length=os→(∀ (j:Nat) o,j<acc.length→ops[j]? = some o→(∀ e∈BkX o,D e)→∀ x∈acc.getD j [],D x) →
  ∀ (j:Nat) o,ops[j]? = some o→(∀ e∈BkX o,D e)→∀ x∈(ancTab os acc).getD j [],D x
 |
  [],acc,hd,h,j,o,ho,he,x,hx=>by
  have hl:ops.length≤acc.length:=List.drop_eq_nil_iff.1 hd
  exact h j o (by have:=(List.getElem?_eq_some_iff.1 ho).1;omega) ho he x (by simpa [ancTab] using hx)
 |
  p::os,acc,hd,h,j,o,ho,he,x,hx=>by
  simp only [ancTab] at hx
  have hp:ops[acc.length]? = some p:=by
   have:(ops.drop acc.length)[0]? = some p:=by rw [hd];rfl
   simpa using this
  refine AzZ hup hD os (acc++[ancOf acc (BkX p)]) (by rw [List.length_append,List.length_singleton,← List.drop_drop,hd];rfl) ?_ j o ho he x hx
  intro j' o' hj' ho' he' x' hx'
  simp only [List.length_append,List.length_singleton] at hj'
  by_cases hlt:j'<acc.length
  · rw [List.getD_eq_getElem?_getD,List.getElem?_append_left hlt,← List.getD_eq_getElem?_getD] at hx'
    exact h j' o' hlt ho' he' x' hx'
  · have:j'=acc.length:=by omega
    subst this
    rw [hp] at ho';injection ho' with ho';subst ho'
    rw [List.getD_eq_getElem?_getD,List.getElem?_append_right (Nat.le_refl _)] at hx'
    simp only [Nat.sub_self,List.getElem?_cons_zero,Option.getD_some] at hx'
    obtain ⟨e,h1,h2⟩:=mem_ancOf hx'
    rcases h2 with rfl | h2
    · exact he' _ h1
    · have hel:e<acc.length:=by have:=edgesUp_get hup acc.length p hp e h1;omega
      have hoe:∃ oe,ops[e]? = some oe:=⟨_,List.getElem?_eq_getElem (by have:=(List.getElem?_eq_some_iff.1 hp).1;omega)⟩
      obtain ⟨oe,hoe⟩:=hoe
      exact h e oe hel hoe (hD e oe hoe (he' e h1)) x' h2
theorem pairsOk_get {tab:List (List Nat)}:∀ {L:List (Nat × AOper)},pairsOk tab L=true→∀ (i j:Nat) x y,i<j→L[i]? = some x→L[j]? = some y→meetB x.2 y.2=true→x.1∈tab.getD y.1 []
 | [],_,i,j,x,y,_,hi,_,_=>by simp at hi
 |
  z::L,h,i,j,x,y,hij,hi,hj,hm=>by
  obtain ⟨z1,z2⟩:=z
  simp only [pairsOk,Bool.and_eq_true,List.all_eq_true] at h
  cases i with
  |
   zero =>
   simp at hi;subst hi
   cases j with
   | zero=>omega
   |
    succ j =>
    have:=h.1 y (List.mem_of_getElem? (by simpa using hj))
    simp only [hm,Bool.not_true,Bool.false_or] at this
    simpa using this
  |
   succ i =>
   cases j with
   | zero=>omega
   | succ j=>exact pairsOk_get h.2 i j x y (by omega) (by simpa using hi) (by simpa using hj) hm
theorem AmZ:∀ {k:Nat} {az:List AOper},∀ (i:Nat) p,az[i]? = some p→(BaQ k az)[i]? = some (k+i,p)
 | k,[],i,p,h=>by simp at h
 |
  k,r::az,i,p,h=>by
  cases i with
  | zero=>simp at h;subst h;simp [BaQ]
  |
   succ i =>
   have:=AmZ (k:=k+1) (az:=az) i p (by simpa using h)
   simp only [BaQ,List.getElem?_cons_succ,this]
   congr 2;omega
theorem cOpers_get {P:Program} {mt:FuncId→Nat} {ops:Array Oper}:∀ {os:List Oper} {az:List AOper},BhQ P mt ops os=some az→az.length=os.length∧∀ (i:Nat) o,os[i]? = some o→∃ p,az[i]? = some p∧cOper P mt ops o=some p
 | [],az,h=>by simp [BhQ] at h;subst h;simp
 |
  o::os,az,h=>by
  simp only [BhQ] at h
  split at h
  · rename_i p r hp hr
    injection h with h;subst h
    obtain ⟨h1,h2⟩:=cOpers_get hr
    refine ⟨by simp [h1],?_⟩
    intro i q hq
    cases i with
    | zero=>simp at hq;subst hq;exact ⟨p,by simp,hp⟩
    | succ i=>obtain ⟨p',h3,h4⟩:=h2 i q (by simpa using hq);exact ⟨p',by simpa using h3,h4⟩
  · cases h
def StepA (P:Program) (p:AOper) (s t:List AV × Bx):Prop :=
 (∃ v,(match p.guard with | none=>True | some (g,want)=>getT s.1 g=.bool want)∧OpC P (p.op.map (·.ev s.1)) s.2 v t.2∧t.1=putT s.1 p.dst v) ∨
 (∃ g want,p.guard=some (g,want)∧(getT s.1 g=.bool (!want)∨getT s.1 g=.tuple [])∧t=(putT s.1 p.dst (.tuple []),s.2))
theorem awpOpers_chain {P:Program} {K:List AV→Bx→Prop}:∀ (az:List AOper) (l:List AV) (bx:Bx),(∀ p∈az,cls p.op≠9)→AbX P az K l bx →
 ∃ c:Nat→List AV × Bx,c 0=(l,bx)∧(∀ (i:Nat) p,az[i]? = some p→StepA P p (c i) (c (i+1)))∧K (c az.length).1 (c az.length).2
 | [],l,bx,_,h=>⟨fun _=>(l,bx),rfl,by simp,h⟩
 |
  p::az,l,bx,h9,h=>by
  have step:∀ t:List AV × Bx,StepA P p (l,bx) t→AbX P az K t.1 t.2→∃ c:Nat→List AV × Bx,c 0=(l,bx)∧(∀ (i:Nat) q,(p::az)[i]? = some q→StepA P q (c i) (c (i+1)))∧K (c (az.length+1)).1 (c (az.length+1)).2:=by
   intro t hs hr
   obtain ⟨c,c0,c1,c2⟩:=awpOpers_chain az t.1 t.2 (fun q hq=>h9 q (List.mem_cons_of_mem _ hq)) hr
   refine ⟨fun i=>match i with | 0=>(l,bx) | i+1=>c i,rfl,?_,c2⟩
   intro i q hq
   cases i with
   | zero=>simp at hq;subst hq;show StepA P p (l,bx) (c 0);rw [c0];exact hs
   | succ i=>exact c1 i q (by simpa using hq)
  have doit:AwY P (p.op.map (·.ev l)) (AxY (AbX P az K) l p.dst) bx→∃ v bx',OpC P (p.op.map (·.ev l)) bx v bx'∧AbX P az K (putT l p.dst v) bx':=by
   intro hd
   rcases awpDo_opc hd with ⟨v,bx',h1,h2⟩ | ⟨neg,x,h1,_⟩
   · exact ⟨v,bx',h1,h2⟩
   · exfalso
     have:=h9 p (List.mem_cons_self ..)
     cases hp:p.op <;> rw [hp] at h1 this <;> simp [AOp.map,cls] at h1 this
  simp only [AbX,awpOper] at h
  show ∃ c:Nat→List AV × Bx,_∧_∧K (c (az.length+1)).1 (c (az.length+1)).2
  split at h
  · rename_i hg
    obtain ⟨v,bx',h1,h2⟩:=doit h
    exact step (putT l p.dst v,bx') (.inl ⟨v,by rw [hg];trivial,h1,rfl⟩) h2
  · rename_i g want hg
    split at h
    · rename_i b hb
      by_cases hbw:b=want
      · rw [if_pos hbw] at h
        obtain ⟨v,bx',h1,h2⟩:=doit h
        exact step (putT l p.dst v,bx') (.inl ⟨v,by rw [hg];show getT l g=_;rw [hb,hbw],h1,rfl⟩) h2
      · rw [if_neg hbw] at h
        have:b=!want:=by cases b <;> cases want <;> simp_all
        exact step (putT l p.dst (.tuple []),bx) (.inr ⟨g,want,hg,.inl (by show getT l g=_;rw [hb,this]),rfl⟩) h
    · rename_i hb
      exact step (putT l p.dst (.tuple []),bx) (.inr ⟨g,want,hg,.inr hb,rfl⟩) h
    · exact h.elim
theorem BuQ {l l2:List AV} {x:AOpd} (h:∀ t∈tmpOf x,getT l t=getT l2 t):x.ev l=x.ev l2:=by
 cases x with
 | tmp t=>exact h t (by simp [tmpOf])
 | val v=>rfl
theorem evs_congr {l l2:List AV} {xs:List AOpd} (h:∀ t∈xs.flatMap tmpOf,getT l t=getT l2 t):xs.map (·.ev l)=xs.map (·.ev l2) :=
 List.map_congr_left fun x hx=>BuQ fun t ht=>h t (List.mem_flatMap.2 ⟨x,hx,ht⟩)
theorem evo_congr {l l2:List AV} {x:Option AOpd} (h:∀ t∈optT x,getT l t=getT l2 t):x.map (·.ev l)=x.map (·.ev l2):=by
 cases x with
 | none=>rfl
 | some x=>simp only [Option.map_some];rw [BuQ h]
theorem op_congr {l l2:List AV} {op:AOp AOpd} (h:∀ t∈opT op,getT l t=getT l2 t):op.map (·.ev l)=op.map (·.ev l2):=by
 cases op <;> simp only [opT,List.mem_append] at h <;> simp only [AOp.map]
 case build z ps =>
  congr 1
  exact List.map_congr_left fun p hp=>by
   have:p.2.2.ev l=p.2.2.ev l2:=BuQ fun t ht=>h t (List.mem_flatMap.2 ⟨p,hp,ht⟩)
   rw [this]
 all_goals first
  | rfl
  | (rw [BuQ (fun t ht=>h t ht)];done)
  | (rw [evs_congr (fun t ht=>h t ht)];done)
  | (rw [BuQ (fun t ht=>h t (.inl ht)),BuQ (fun t ht=>h t (.inr ht))];done)
  | (rw [BuQ (fun t ht=>h t (.inl ht)),evs_congr (fun t ht=>h t (.inr ht))];done)
  | (rw [BuQ (fun t ht=>h t (.inl (.inl ht))),BuQ (fun t ht=>h t (.inl (.inr ht))),BuQ (fun t ht=>h t (.inr ht))];done)
  | (rw [BuQ (fun t ht=>h t (.inl (.inl ht))),evo_congr (fun t ht=>h t (.inl (.inr ht))),evo_congr (fun t ht=>h t (.inr ht))];done)
theorem cls_map (op:AOp AOpd) (l:List AV):cls (op.map (·.ev l))=cls op:=by cases op <;> rfl
theorem bxGet_prefix {bx bx2:Bx} (h:bx <+: bx2) {k:Nat} {x:Nat × List AV} (hk:AeZ bx k=some x):AeZ bx2 k=some x:=by
 obtain ⟨r,rfl⟩:=h
 rw [AjX (AoY hk)];exact hk
theorem opC_cls {P:Program} {op:AOp AV} {bx bx':Bx} {v:AV} (h:OpC P op bx v bx') :
 (cls op=0→bx'=bx∧∀ bx2,OpC P op bx2 v bx2)∧(cls op=1→bx'=bx∧∀ bx2,bx <+: bx2→OpC P op bx2 v bx2)∧(cls op=4→bx'=bx)∧(cls op=3→bx <+: bx'):=by
 cases op
 case load a n x =>
  refine ⟨(fun h=>by cases h),fun _=>⟨h.2,fun bx2 hp=>⟨?_,rfl⟩⟩,(fun h=>by cases h),(fun h=>by cases h)⟩
  have hv:=h.1
  unfold BhZ at hv ⊢
  split at hv
  · exact hv
  · split at hv
    · rename_i s es hk;rw [bxGet_prefix hp hk];exact hv
    · cases hv
  · cases hv
 case alloc z =>
  refine ⟨(fun h=>by cases h),(fun h=>by cases h),(fun h=>by cases h),fun _=>?_⟩
  simp only [OpC,OpR,evW,Option.some.injEq,Prod.mk.injEq] at h
  rw [← h.2];exact List.prefix_append _ _
 case box sz x =>
  refine ⟨(fun h=>by cases h),(fun h=>by cases h),(fun h=>by cases h),fun _=>?_⟩
  simp only [OpC,OpR,evW] at h
  split at h
  · simp only [Option.some.injEq,Prod.mk.injEq] at h;rw [← h.2];exact List.prefix_append _ _
  · cases h
 case bslm sz xs =>
  refine ⟨(fun h=>by cases h),(fun h=>by cases h),(fun h=>by cases h),fun _=>?_⟩
  simp only [OpC,OpR,evW] at h
  split at h
  · simp only [Option.some.injEq,Prod.mk.injEq] at h;rw [← h.2];exact List.prefix_append _ _
  · cases h
 case mkm =>
  refine ⟨(fun h=>by cases h),(fun h=>by cases h),(fun h=>by cases h),fun _=>?_⟩
  simp only [OpC,OpR,evW,Option.some.injEq,Prod.mk.injEq] at h
  rw [← h.2];exact List.prefix_append _ _
 case mkv =>
  refine ⟨(fun h=>by cases h),(fun h=>by cases h),(fun h=>by cases h),fun _=>?_⟩
  simp only [OpC,OpR,evW,Option.some.injEq,Prod.mk.injEq] at h
  rw [← h.2];exact List.prefix_append _ _
 case mputv=>exact ⟨(fun h=>by cases h),(fun h=>by cases h),(fun h=>by cases h),(fun h=>by cases h)⟩
 case mgetv=>exact ⟨(fun h=>by cases h),(fun h=>by cases h),(fun h=>by cases h),(fun h=>by cases h)⟩
 case mset=>exact ⟨(fun h=>by cases h),(fun h=>by cases h),(fun h=>by cases h),(fun h=>by cases h)⟩
 case clrm=>exact ⟨(fun h=>by cases h),(fun h=>by cases h),(fun h=>by cases h),(fun h=>by cases h)⟩
 case clr=>exact ⟨(fun h=>by cases h),(fun h=>by cases h),(fun h=>by cases h),(fun h=>by cases h)⟩
 case mks sz b z n c =>
  refine ⟨(fun h=>by cases h),(fun h=>by cases h),(fun h=>by cases h),fun _=>?_⟩
  obtain ⟨k,k',m,_,_,_,_,_,_,hb⟩:=h
  rw [hb];exact List.prefix_append _ _
 case callv f args=>exact ⟨(fun h=>by cases h),(fun h=>by cases h),fun _=>h.2,(fun h=>by cases h)⟩
 case call f args=>exact ⟨fun _=>⟨h.2,fun bx2=>⟨h.1,rfl⟩⟩,(fun h=>by cases h),(fun h=>by cases h),(fun h=>by cases h)⟩
 case store=>exact ⟨(fun h=>by cases h),(fun h=>by cases h),(fun h=>by cases h),(fun h=>by cases h)⟩
 case app=>exact ⟨(fun h=>by cases h),(fun h=>by cases h),(fun h=>by cases h),(fun h=>by cases h)⟩
 case callo f args=>exact ⟨(fun h=>by cases h),(fun h=>by cases h),(fun h=>by cases h),fun _=>h.2⟩
 case callm=>exact ⟨(fun h=>by cases h),(fun h=>by cases h),(fun h=>by cases h),(fun h=>by cases h)⟩
 case isnil=>exact ⟨(fun h=>by cases h),(fun h=>by cases h),(fun h=>by cases h),(fun h=>by cases h)⟩
 case same=>exact ⟨(fun h=>by cases h),(fun h=>by cases h),(fun h=>by cases h),(fun h=>by cases h)⟩
 all_goals exact ⟨fun _=>⟨h.2,fun bx2=>⟨h.1,rfl⟩⟩,(fun h=>by cases h),(fun h=>by cases h),(fun h=>by cases h)⟩
end Go.Proofs.YtcmphhedaefcgaaGreatDoor.Av
namespace Go.Proofs.YtcmphhedaefcgaaGreatDoor.Av
def isW (p:AOper):Prop:=cls p.op=2∨cls p.op=3
theorem isW.three {p:AOper} (h:isW p):cls p.op=2∨cls p.op=3∨cls p.op=4:=h.elim .inl (fun h=>.inr (.inl h))
section
variable {P:Program} {az:List AOper} {c:Nat→List AV × Bx} {ops:List Oper} {tab:List (List Nat)}
structure Chain (P:Program) (az:List AOper) (c:Nat→List AV × Bx):Prop where
 step:∀ (i:Nat) p,az[i]? = some p→StepA P p (c i) (c (i+1))
 nine:∀ p∈az,cls p.op≠9
theorem step_tmp {p:AOper} {s t:List AV × Bx} (h:StepA P p s t) {x:Nat} (hx:x ∉ AtY p):getT t.1 x=getT s.1 x:=by
 have key:∀ v,getT (putT s.1 p.dst v) x=getT s.1 x:=by
  intro v
  cases hd:p.dst with
  | none=>rfl
  |
   some d =>
   simp only [putT,BqX]
   rw [if_neg]
   rintro ⟨rfl,_⟩
   exact hx (by simp [AtY,hd])
 rcases h with ⟨v,_,_,h3⟩ | ⟨g,want,_,_,h3⟩
 · rw [h3];exact key v
 · rw [h3];exact key _
theorem step_len {p:AOper} {s t:List AV × Bx} (h:StepA P p s t):t.1.length=s.1.length:=by
 rcases h with ⟨v,_,_,h3⟩ | ⟨g,want,_,_,h3⟩
 · rw [h3,putT_length]
 · rw [h3,putT_length]
theorem cls_cases {α:Type} (op:AOp α):cls op=0∨cls op=1∨cls op=2∨cls op=3∨cls op=4∨cls op=9∨cls op=5:=by cases op <;> simp [cls]
theorem cls5 {α:Type} {op:AOp α} (h:cls op=5):∃ tk ok z x k,op=.mgetv tk ok z x k:=by
 cases op <;> simp [cls] at h
 exact ⟨_,_,_,_,_,rfl⟩
theorem evMap_up {bx bx2:Bx} (hp:bx <+: bx2) {tk ok:Bool} {z x k v:AV} (h:evMap bx tk ok z x k=some v):evMap bx2 tk ok z x k=some v:=by
 unfold evMap at h ⊢
 split at h
 · split at h
   · rename_i s ks vs hk
     simp only [bxGet_prefix hp hk]
     exact h
   · cases h
 · cases h
theorem step_bx {p:AOper} {s t:List AV × Bx} (h:StepA P p s t) (hw:¬ isW p) (h9:cls p.op≠9):t.2=s.2:=by
 rcases h with ⟨v,_,h2,_⟩ | ⟨g,want,_,_,h3⟩
 · obtain ⟨q0,q1,q4,_⟩:=opC_cls h2
   rw [cls_map] at q0 q1 q4
   rcases cls_cases p.op with h | h | h | h | h | h | h
   · exact (q0 h).1
   · exact (q1 h).1
   · exact absurd (.inl h) hw
   · exact absurd (.inr h) hw
   · exact q4 h
   · exact absurd h h9
   · obtain ⟨_,_,_,_,_,e⟩:=cls5 h
     rw [e] at h2
     exact h2.2
 · rw [h3]
theorem step_push {p:AOper} {s t:List AV × Bx} (h:StepA P p s t) (h2:cls p.op≠2) (h9:cls p.op≠9):s.2 <+: t.2:=by
 by_cases hw:isW p
 · rcases hw with hw | hw
   · exact absurd hw h2
   · rcases h with ⟨v,_,h2,_⟩ | ⟨g,want,_,_,h3⟩
     · obtain ⟨_,_,_,q3⟩:=opC_cls h2
       rw [cls_map] at q3
       exact q3 hw
     · rw [h3];exact List.prefix_refl _
 · rw [step_bx h hw h9];exact List.prefix_refl _
theorem Chain.tmp (C:Chain P az c) {x:Nat}:∀ (d k:Nat),k+d≤az.length→(∀ (i:Nat) p,k≤i→i<k+d→az[i]? = some p→x ∉ AtY p)→getT (c (k+d)).1 x=getT (c k).1 x
 | 0,k,_,_=>rfl
 |
  d+1,k,hk,h=>by
  have hp:az[k+d]? = some az[k+d]:=List.getElem?_eq_getElem (by omega)
  have:=C.tmp d k (by omega) (fun i p h1 h2=>h i p h1 (by omega))
  rw [← this]
  exact step_tmp (C.step _ _ hp) (h _ _ (by omega) (by omega) hp)
theorem Chain.bx (C:Chain P az c):∀ (d k:Nat),k+d≤az.length→(∀ (i:Nat) p,k≤i→i<k+d→az[i]? = some p→¬ isW p)→(c (k+d)).2=(c k).2
 | 0,k,_,_=>rfl
 |
  d+1,k,hk,h=>by
  have hp:az[k+d]? = some az[k+d]:=List.getElem?_eq_getElem (by omega)
  have:=C.bx d k (by omega) (fun i p h1 h2=>h i p h1 (by omega))
  rw [← this]
  exact step_bx (C.step _ _ hp) (h _ _ (by omega) (by omega) hp) (C.nine _ (List.mem_of_getElem? hp))
theorem Chain.push (C:Chain P az c):∀ (d k:Nat),k+d≤az.length→(∀ (i:Nat) p,k≤i→i<k+d→az[i]? = some p→cls p.op≠2)→(c k).2 <+: (c (k+d)).2
 | 0,k,_,_=>List.prefix_refl _
 |
  d+1,k,hk,h=>by
  have hp:az[k+d]? = some az[k+d]:=List.getElem?_eq_getElem (by omega)
  exact (C.push d k (by omega) (fun i p h1 h2=>h i p h1 (by omega))).trans (step_push (C.step _ _ hp) (h _ _ (by omega) (by omega) hp) (C.nine _ (List.mem_of_getElem? hp)))
theorem Chain.len (C:Chain P az c):∀ (k:Nat),k≤az.length→(c k).1.length=(c 0).1.length
 | 0,_=>rfl
 |
  k+1,hk=>by
  have hp:az[k]? = some az[k]:=List.getElem?_eq_getElem (by omega)
  rw [step_len (C.step _ _ hp),C.len k (by omega)]
structure Inv (az:List AOper) (c:Nat→List AV × Bx) (D:Nat→Prop) (l:List AV) (bx:Bx):Prop where
 len:l.length=(c 0).1.length
 tmp:∀ t,∃ k,k≤az.length∧getT l t=getT (c k).1 t∧(∀ (i:Nat) p,i<k→az[i]? = some p→t∈AtY p→D i)∧(∀ (i:Nat) p,k≤i→az[i]? = some p→t∈AtY p→¬ D i)
 bx:∃ k,k≤az.length∧bx=(c k).2∧(∀ (i:Nat) p,i<k→az[i]? = some p→isW p→D i)∧(∀ (i:Nat) p,k≤i→az[i]? = some p→isW p→¬ D i)
def Ord (az:List AOper) (tab:List (List Nat)) (D:Nat→Prop) (i:Nat):Prop :=
 (∀ (j:Nat) p q,j<i→az[j]? = some p→az[i]? = some q→meetB p q=true→D j)∧(∀ (j:Nat) p q,i<j→az[i]? = some p→az[j]? = some q→meetB p q=true→D j→D i) ∧
  (∀ (j:Nat) q,i<j→az[j]? = some q→i∈tab.getD j []→D j→D i)
def Same (az:List AOper) (tab:List (List Nat)) (c:Nat→List AV × Bx):Prop :=
 ∀ (i j:Nat) p y,i<j→az[i]? = some p→az[j]? = some y→late tab i p j y=true→∃ a n x d,p=⟨some d,.load a n x,none⟩∧BhZ (c (j+1)).2 a n (x.ev (c i).1)=BhZ (c i).2 a n (x.ev (c i).1)
theorem meet_wl {p q:AOper} {t:Nat} (h1:t∈AtY p) (h2:t∈BuX q):meetB p q=true:=by
 unfold meetB;simp only [Bool.or_eq_true,List.any_eq_true];exact .inl (.inl ⟨t,h1,.inl (by simpa using h2)⟩)
theorem meet_ww {p q:AOper} {t:Nat} (h1:t∈AtY p) (h2:t∈AtY q):meetB p q=true:=by
 unfold meetB;simp only [Bool.or_eq_true,List.any_eq_true];exact .inl (.inl ⟨t,h1,.inr (by simpa using h2)⟩)
theorem meet_lw {p q:AOper} {t:Nat} (h1:t∈BuX p) (h2:t∈AtY q):meetB p q=true:=by
 unfold meetB;simp only [Bool.or_eq_true,List.any_eq_true];exact .inl (.inr ⟨t,h2,by simpa using h1⟩)
theorem meet_c {p q:AOper} (h:meetC (cls p.op) (cls q.op)=true):meetB p q=true:=by
 unfold meetB;simp only [Bool.or_eq_true];exact .inr h
theorem Inv.same_tmp (C:Chain P az c) {D:Nat→Prop} {l:List AV} {bx:Bx} (I:Inv az c D l bx) {i:Nat} {p:AOper} (hp:az[i]? = some p) (hi:¬ D i) (O:Ord az tab D i) {t:Nat} (ht:t∈BuX p):getT l t=getT (c i).1 t:=by
 obtain ⟨k,hk,e,k1,k2⟩:=I.tmp t
 have hil:=(List.getElem?_eq_some_iff.1 hp).1
 rw [e]
 by_cases hki:k≤i
 · have:=C.tmp (x:=t) (i-k) k (by omega) (fun j q h1 h2 hq hw=>k2 j q h1 hq hw (O.1 j q p (by omega) hq hp (meet_wl hw ht)))
   rw [show k+(i-k)=i by omega] at this;exact this.symm
 · have:=C.tmp (x:=t) (k-i) i (by omega) (fun j q h1 h2 hq hw=>by
    have hD:=k1 j q (by omega) hq hw
    by_cases hj:j=i
    · subst hj;exact hi hD
    · exact hi (O.2.1 j p q (by omega) hp hq (meet_lw ht hw) hD))
   rw [show i+(k-i)=k by omega] at this;exact this
theorem meetC_w {a b:Nat} (ha:a=2∨a=3∨a=4) (hb:b=2∨b=3):meetC a b=true∧meetC b a=true:=by
 rcases ha with rfl | rfl | rfl <;> rcases hb with rfl | rfl <;> simp [meetC]
theorem Inv.same_bx (C:Chain P az c) {D:Nat→Prop} {l:List AV} {bx:Bx} (I:Inv az c D l bx) {i:Nat} {p:AOper} (hp:az[i]? = some p) (hi:¬ D i) (O:Ord az tab D i) (hc:cls p.op=2∨cls p.op=3∨cls p.op=4):bx=(c i).2:=by
 obtain ⟨k,hk,e,k1,k2⟩:=I.bx
 have hil:=(List.getElem?_eq_some_iff.1 hp).1
 rw [e]
 by_cases hki:k≤i
 · have:=C.bx (i-k) k (by omega) (fun j q h1 h2 hq hw=>k2 j q h1 hq hw (O.1 j q p (by omega) hq hp (meet_c (meetC_w hc hw).2)))
   rw [show k+(i-k)=i by omega] at this;exact this.symm
 · have:=C.bx (k-i) i (by omega) (fun j q h1 h2 hq hw=>by
    have hD:=k1 j q (by omega) hq hw
    by_cases hj:j=i
    · subst hj;exact hi hD
    · exact hi (O.2.1 j p q (by omega) hp hq (meet_c (meetC_w hc hw).1) hD))
   rw [show i+(k-i)=k by omega] at this;exact this
theorem Inv.more_bx (C:Chain P az c) (S:Same az tab c) {D:Nat→Prop} {l:List AV} {bx:Bx} (I:Inv az c D l bx) {i:Nat} {p:AOper} (hp:az[i]? = some p) (hi:¬ D i) (O:Ord az tab D i) {a:Bool} {n:Nat} {x:AOpd} (hop:p.op=.load a n x) {v:AV} (hv:BhZ (c i).2 a n (x.ev (c i).1)=some v) :
 BhZ bx a n (x.ev (c i).1)=some v∨bx <+: (c i).2:=by
 have hc:cls p.op=1:=by rw [hop];rfl
 obtain ⟨k,hk,e,k1,k2⟩:=I.bx
 have hil:=(List.getElem?_eq_some_iff.1 hp).1
 rw [e]
 by_cases hki:k≤i
 · right
   have:=C.push (i-k) k (by omega) (fun j q h1 h2 hq hw=>k2 j q h1 hq (.inl hw) (O.1 j q p (by omega) hq hp (meet_c (by rw [hw,hc];rfl))))
   rw [show k+(i-k)=i by omega] at this;exact this
 · left
   have key:∀ d,i+1+d≤k→BhZ (c (i+1+d)).2 a n (x.ev (c i).1)=some v:=by
    intro d
    induction d with
    |
     zero =>
     intro _
     have h1:=C.step i p hp
     have h2:=step_bx h1 (by rintro (h | h) <;> omega) (by omega)
     rw [Nat.add_zero,h2];exact hv
    |
     succ d ih =>
     intro hd
     have ih:=ih (by omega)
     have hjl:i+1+d<az.length:=by omega
     have hq:az[i+1+d]? = some az[i+1+d]:=List.getElem?_eq_getElem hjl
     generalize az[i+1+d]=q at hq
     have hst:=C.step _ _ hq
     by_cases h2:cls q.op=2
     · have hD:=k1 _ q (by omega) hq (.inl h2)
       have hun:(tab.getD (i+1+d) []).contains i=false:=by
        cases hct:(tab.getD (i+1+d) []).contains i with
        | false=>rfl
        | true=>exact absurd (O.2.2 _ q (by omega) hq (by simpa using hct) hD) hi
       obtain ⟨a',n',x',d',hpe,hsm⟩:=S i (i+1+d) p q (by omega) hp hq (by unfold late;rw [hc,h2,hun];rfl)
       rw [hpe] at hop
       simp only [AOp.load.injEq] at hop
       obtain ⟨rfl,rfl,rfl⟩:=hop
       show BhZ (c (i+1+d+1)).2 _ _ _=_
       rw [hsm];exact hv
     · have hpr:=step_push hst h2 (C.nine _ (List.mem_of_getElem? hq))
       show BhZ (c (i+1+d+1)).2 _ _ _=_
       have h3:OpC P (.load a n (x.ev (c i).1)) (c (i+1+d)).2 v (c (i+1+d)).2:=⟨ih,rfl⟩
       exact (((opC_cls h3).2.1 rfl).2 _ hpr).1
   have:=key (k-(i+1)) (by omega)
   rw [show i+1+(k-(i+1))=k by omega] at this
   exact this
theorem Inv.map_bx (C:Chain P az c) {D:Nat→Prop} {l:List AV} {bx:Bx} (I:Inv az c D l bx) {i:Nat} {p:AOper} (hp:az[i]? = some p) (hi:¬ D i) (O:Ord az tab D i) (hc:cls p.op=5):bx <+: (c i).2∨(c i).2 <+: bx:=by
 obtain ⟨k,hk,e,k1,k2⟩:=I.bx
 have hil:=(List.getElem?_eq_some_iff.1 hp).1
 rw [e]
 by_cases hki:k≤i
 · left
   have:=C.push (i-k) k (by omega) (fun j q h1 h2 hq hw=>k2 j q h1 hq (.inl hw) (O.1 j q p (by omega) hq hp (meet_c (by rw [hw,hc];rfl))))
   rw [show k+(i-k)=i by omega] at this;exact this
 · right
   have:=C.push (k-i) i (by omega) (fun j q h1 h2 hq hw=>by
    have hD:=k1 j q (by omega) hq (.inl hw)
    by_cases hj:j=i
    · subst hj;exact hi hD
    · exact hi (O.2.1 j p q (by omega) hp hq (meet_c (by rw [hw,hc];rfl)) hD))
   rw [show i+(k-i)=k by omega] at this;exact this
theorem Inv.put (C:Chain P az c) {D:Nat→Prop} {l:List AV} {bx bx':Bx} (I:Inv az c D l bx) {i:Nat} {p:AOper} (hp:az[i]? = some p) (hi:¬ D i) (O:Ord az tab D i) {v:AV} (hv:(c (i+1)).1=putT (c i).1 p.dst v)
 (hb:isW p→bx'=(c (i+1)).2) (hb':¬ isW p→bx'=bx):Inv az c (fun j=>D j∨j=i) (putT l p.dst v) bx':=by
 have hil:=(List.getElem?_eq_some_iff.1 hp).1
 have uniq:∀ {q},az[i]? = some q→q=p:=fun hq=>by rw [hp] at hq;injection hq with hq;exact hq.symm
 refine ⟨by rw [putT_length];exact I.len,?_,?_⟩
 · intro t
   by_cases ht:t∈AtY p
   · refine ⟨i+1,by omega,?_,?_,?_⟩
     · have hd:p.dst=some t:=by
        unfold AtY at ht
        cases hq:p.dst with
        | none=>rw [hq] at ht;simp at ht
        | some d=>rw [hq] at ht;simp at ht;rw [ht]
       rw [hv,hd]
       simp only [putT,BqX]
       rw [I.len,C.len i (by omega)]
       by_cases hlt:t<(c 0).1.length
       · simp [hlt]
       · simp only [hlt,and_false,if_false]
         have out:∀ (m:List AV),m.length=(c 0).1.length→getT m t=.any:=by
          intro m hm
          have:∀ (m:List AV) (t:Nat),m.length≤t→getT m t=.any:=by
           intro m
           induction m with
           | nil=>intro t _;rfl
           |
            cons x m ih=>intro t ht;cases t with
            | zero=>simp at ht
            | succ t=>exact ih t (by simpa using ht)
          exact this m t (by omega)
         rw [out l I.len,out _ (C.len i (by omega))]
     · intro j q hj hq hw
       rcases Nat.lt_succ_iff_lt_or_eq.1 hj with h | rfl
       · exact .inl (O.1 j q p h hq hp (meet_ww hw ht))
       · exact .inr rfl
     · intro j q hj hq hw hD
       rcases hD with hD | rfl
       · exact hi (O.2.1 j p q (by omega) hp hq (meet_ww ht hw) hD)
       · omega
   · obtain ⟨k,hk,e,k1,k2⟩:=I.tmp t
     refine ⟨k,hk,?_,fun j q hj hq hw=>.inl (k1 j q hj hq hw),?_⟩
     · rw [← e]
       cases hd:p.dst with
       | none=>rfl
       |
        some d =>
        simp only [putT,BqX]
        rw [if_neg]
        rintro ⟨rfl,_⟩
        exact ht (by simp [AtY,hd])
     · intro j q hj hq hw hD
       rcases hD with hD | rfl
       · exact k2 j q hj hq hw hD
       · rw [uniq hq] at hw;exact ht hw
 · by_cases hw:isW p
   · have hbx:=I.same_bx C hp hi O hw.three
     refine ⟨i+1,by omega,hb hw,?_,?_⟩
     · intro j q hj hq hwq
       rcases Nat.lt_succ_iff_lt_or_eq.1 hj with h | rfl
       · exact .inl (O.1 j q p h hq hp (meet_c (meetC_w hwq.three hw).1))
       · exact .inr rfl
     · intro j q hj hq hwq hD
       rcases hD with hD | rfl
       · exact hi (O.2.1 j p q (by omega) hp hq (meet_c (meetC_w hw.three hwq).1) hD)
       · omega
   · obtain ⟨k,hk,e,k1,k2⟩:=I.bx
     refine ⟨k,hk,by rw [hb' hw];exact e,fun j q hj hq hwq=>.inl (k1 j q hj hq hwq),?_⟩
     intro j q hj hq hwq hD
     rcases hD with hD | rfl
     · exact k2 j q hj hq hwq hD
     · rw [uniq hq] at hwq;exact hw hwq
end
theorem Inv.congr {az:List AOper} {c:Nat→List AV × Bx} {D D':Nat→Prop} {l:List AV} {bx:Bx} (I:Inv az c D l bx) (h:∀ j,j<az.length→(D j↔D' j)):Inv az c D' l bx:=by
 refine ⟨I.len,?_,?_⟩
 · intro t
   obtain ⟨k,hk,e,k1,k2⟩:=I.tmp t
   exact ⟨k,hk,e,fun i p a b d=>(h i (List.getElem?_eq_some_iff.1 b).1).1 (k1 i p a b d),fun i p a b d hD=>k2 i p a b d ((h i (List.getElem?_eq_some_iff.1 b).1).2 hD)⟩
 · obtain ⟨k,hk,e,k1,k2⟩:=I.bx
   exact ⟨k,hk,e,fun i p a b d=>(h i (List.getElem?_eq_some_iff.1 b).1).1 (k1 i p a b d),fun i p a b d hD=>k2 i p a b d ((h i (List.getElem?_eq_some_iff.1 b).1).2 hD)⟩
section
variable {w0:World} {pr:Fz} {P:Program}
theorem cOp_load {mt:FuncId→Nat} {o:Oper} {b:Bool} {n:Nat} {x:AOpd} (hc:cOp P mt o=some (.load b n x)):∃ y,cO y=some x:=by
 obtain ⟨dst,op,type,pos,after,guard⟩:=o
 unfold cOp at hc
 cases op <;> simp only at hc
 case load t y =>
  split at hc
  · rename_i h1 h2 h3
    split at hc
    · injection hc with hc;injection hc with e1 e2 e3;subst e3
      exact ⟨y,h3⟩
    · injection hc with hc;cases hc
  · cases hc
 all_goals
  exfalso
  revert hc
  repeat' split
  all_goals first
   | (intro hc;cases hc;done)
   | (intro hc;rw [Option.map_eq_some_iff] at hc;obtain ⟨_,_,hc⟩:=hc;cases hc)
theorem cOp_loadB {mt:FuncId→Nat} {o:Oper} {b:Bool} {n:Nat} {x:AOpd} (hc:(cOp P mt o).getD .bad=.load b n x):∃ y,cO y=some x:=by
 cases hq:cOp P mt o with
 | none=>rw [hq] at hc;cases hc
 | some q=>rw [hq] at hc;simp only [Option.getD_some] at hc;subst hc;exact cOp_load hq
theorem cOp_mget {mt:FuncId→Nat} {o:Oper} {tk ok:Bool} {z:AV} {x k:AOpd} (hc:(cOp P mt o).getD .bad=.mgetv tk ok z x k):∃ y,cO y=some x:=by
 cases hq:cOp P mt o with
 | none=>rw [hq] at hc;cases hc
 |
  some q =>
  rw [hq] at hc;simp only [Option.getD_some] at hc;subst hc
  obtain ⟨dst,op,type,pos,after,guard⟩:=o
  unfold cOp at hq
  cases op <;> simp only at hq
  case lookup t m k' ok' =>
   split at hq
   · rename_i h1 h2 h3 h4
     injection hq with hq;injection hq with e1 e2 e3 e4 e5;subst e4
     exact ⟨m,h3⟩
   · cases hq
  all_goals
   exfalso
   revert hq
   repeat' split
   all_goals first
    | (intro hq;cases hq;done)
    | (intro hq;rw [Option.map_eq_some_iff] at hq;obtain ⟨_,_,hq⟩:=hq;cases hq)
theorem evMap_down {fz:Fz} {pl:Pl} {bx bx2:Bx} {tk ok:Bool} {z x k v:AV} {cx:Value} (hp:bx <+: bx2) (hl:pl.length=bx.length) (hr:Rep fz pl x cx) (h:evMap bx2 tk ok z x k=some v):evMap bx tk ok z x k=some v:=by
 unfold evMap at h ⊢
 split at h
 · rename_i b
   obtain ⟨bb,m,-,hk⟩:=hr.inv_mp
   have hlt:b<bx.length:=by rw [← hl];exact (List.getElem?_eq_some_iff.1 hk).1
   obtain ⟨r,rfl⟩:=hp
   rw [AjX hlt] at h
   exact h
 · cases h
theorem opC_soundB {fz:Fz} {pl:Pl} {bx:Bx} {w:World} {mt:FuncId→Nat} {o:Oper} {p:AOp AOpd} (hc:(cOp P mt o).getD .bad=p) {l:List AV} {a:Act} (hT:RepT fz pl l a) (hS:Sim w0 pr fz pl bx w) {v:AV} {bx':Bx} (hr:OpC P (p.map (·.ev l)) bx v bx')
 {next:Act→World→Prop} {Q:Exit→Act→World→Prop}
 (h:∀ cv w' fz' pl',FzLe fz fz'→pl <+: pl'→Rep fz' pl' v cv→Sim w0 pr fz' pl' bx' w'→next (a.put o.dst cv) w'):o.wp P a w next Q:=by
 cases hq:cOp P mt o with
 | none=>rw [hq] at hc;simp only [Option.getD_none] at hc;subst hc;exact (by cases hr.1)
 | some q=>rw [hq] at hc;simp only [Option.getD_some] at hc;subst hc;exact opC_sound hq hT hS hr h
theorem load_down {fz:Fz} {pl:Pl} {bx bx2:Bx} {b:Bool} {n:Nat} {x v:AV} {cx:Value} (hp:bx <+: bx2) (hl:pl.length=bx.length) (hr:Rep fz pl x cx) (h:BhZ bx2 b n x=some v):BhZ bx b n x=some v:=by
 unfold BhZ at h ⊢
 split at h
 · exact h
 · rename_i sz k i off
   obtain ⟨bb,m,-,hk⟩:=hr.inv_ptr
   have hlt:k<bx.length:=by rw [← hl];exact (List.getElem?_eq_some_iff.1 hk).1
   obtain ⟨r,rfl⟩:=hp
   rw [AjX hlt] at h
   exact h
 · cases h
theorem draw_any {mt:FuncId→Nat} {ops:Array Oper} {az:List AOper} (hz:BhQ P mt ops ops.toList=some az) (hup:edgesUp 0 ops.toList=true) (hpair:pairsOk (ancTab ops.toList []) (BaQ 0 az)=true)
 {c:Nat→List AV × Bx} (C:Chain P az c) (S:Same az (ancTab ops.toList []) c) {Q:Exit→Act→World→Prop} {fz0:Fz} {pl0:Pl} {a0:Act}
 (hQ:∀ a' w' fz' pl',FzLe fz0 fz'→pl0 <+: pl'→RepT fz' pl' (c az.length).1 a'→Sim w0 pr fz' pl' (c az.length).2 w'→a'.defers=a0.defers→Q .normal a' w') :
 ∀ (fuel:Nat) (listed:Array Bool) (l:List AV) (bx:Bx) (fz:Fz) (pl:Pl) (a:Act) (w:World),listed.size=ops.size→(∃ U:List Nat,U.Nodup∧U.length≤fuel∧∀ j,j<ops.size→listed.getD j false=false→j∈U) →
  (∀ (i:Nat) o,ops.toList[i]? = some o→listed.getD i false=true→∀ e∈BkX o,listed.getD e false=true) →
  Inv az c (fun i=>listed.getD i false=true) l bx→FzLe fz0 fz→pl0 <+: pl→RepT fz pl l a→Sim w0 pr fz pl bx w→a.defers=a0.defers→wpAny P .any ops Q fuel listed a w:=by
 obtain ⟨hal,hget⟩:=cOpers_get hz
 have hlen:ops.toList.length=ops.size:=Array.length_toList
 have getDlt:∀ (listed:Array Bool) (j:Nat),j<listed.size→listed.getD j true=listed.getD j false:=by
  intro listed j h
  simp [h]
 have done:∀ (listed:Array Bool),listed.size=ops.size→Region.ready .any ops listed=[]→∀ j,j<ops.size→listed.getD j false=true:=by
  intro listed hs hr j
  induction j using Nat.strongRecOn with
  |
   _ j ih =>
   intro hj
   cases hc:listed.getD j false with
   | true=>rfl
   |
    false =>
    exfalso
    have hin:j∈Region.ready .any ops listed:=by
     rw [mem_ready]
     refine ⟨by rw [getDlt listed j (by omega)];exact hc,ops[j],Array.getElem?_eq_getElem hj,?_⟩
     intro e he hb
     have hmem:e.on∈BkX ops[j]:=List.mem_map.2 ⟨e,List.mem_filter.2 ⟨by simpa using he,hb⟩,rfl⟩
     have:=edgesUp_get hup j ops[j] (by simp [hj]) e.on hmem
     exact ih e.on (by omega) (by omega)
    rw [hr] at hin;cases hin
 have fin:∀ (listed:Array Bool) (l:List AV) (bx:Bx),listed.size=ops.size→Region.ready .any ops listed=[]→Inv az c (fun i=>listed.getD i false=true) l bx→l=(c az.length).1∧bx=(c az.length).2:=by
  intro listed l bx hs hr I
  have all:=done listed hs hr
  have ext:∀ (x y:List AV),x.length=y.length→(∀ t,getT x t=getT y t)→x=y:=by
   intro x
   induction x with
   | nil=>intro y hl _;exact (List.eq_nil_of_length_eq_zero hl.symm).symm
   |
    cons p x ih =>
    intro y hl h
    cases y with
    | nil=>simp at hl
    |
     cons q y =>
     have h0:=h 0
     simp [getT] at h0
     rw [h0,ih y (by simpa using hl) (fun t=>h (t+1))]
  constructor
  · refine ext _ _ (by rw [I.len,C.len _ (Nat.le_refl _)]) ?_
    intro t
    obtain ⟨k,hk,e,k1,k2⟩:=I.tmp t
    rw [e]
    have:=C.tmp (x:=t) (az.length-k) k (by omega) (fun i p h1 h2 hp hw=>k2 i p h1 hp hw (all i (by have:=(List.getElem?_eq_some_iff.1 hp).1;omega)))
    rw [show k+(az.length-k)=az.length by omega] at this;exact this.symm
  · obtain ⟨k,hk,e,k1,k2⟩:=I.bx
    rw [e]
    have:=C.bx (az.length-k) k (by omega) (fun i p h1 h2 hp hw=>k2 i p h1 hp hw (all i (by have:=(List.getElem?_eq_some_iff.1 hp).1;omega)))
    rw [show k+(az.length-k)=az.length by omega] at this;exact this.symm
 have ord:∀ (listed:Array Bool),listed.size=ops.size→(∀ (i:Nat) o,ops.toList[i]? = some o→listed.getD i false=true→∀ e∈BkX o,listed.getD e false=true) →
  ∀ (i:Nat) o,ops.toList[i]? = some o→(∀ e∈BkX o,listed.getD e false=true)→Ord az (ancTab ops.toList []) (fun i=>listed.getD i false=true) i:=by
  intro listed hs hcl i o ho hed
  refine ⟨?_,?_,?_⟩
  · intro j p q hj hp hq hm
    have:=pairsOk_get hpair j i _ _ hj (AmZ j p hp) (AmZ i q hq) hm
    simp only [Nat.zero_add] at this
    exact AzZ hup hcl ops.toList [] rfl (fun _ _ h=>by simp at h) i o ho hed j this
  · intro j p q hj hp hq hm hD
    have:=pairsOk_get hpair i j _ _ hj (AmZ i p hp) (AmZ j q hq) hm
    simp only [Nat.zero_add] at this
    have hjl:j<ops.size:=by have:=(List.getElem?_eq_some_iff.1 hq).1;omega
    have hoj:ops.toList[j]? = some ops[j]:=by simp [hjl]
    exact AzZ hup hcl ops.toList [] rfl (fun _ _ h=>by simp at h) j ops[j] hoj (hcl j _ hoj hD) i this
  · intro j q hj hq hm hD
    have hjl:j<ops.size:=by have:=(List.getElem?_eq_some_iff.1 hq).1;omega
    have hoj:ops.toList[j]? = some ops[j]:=by simp [hjl]
    exact AzZ hup hcl ops.toList [] rfl (fun _ _ h=>by simp at h) j ops[j] hoj (hcl j _ hoj hD) i hm
 intro fuel
 induction fuel with
 |
  zero =>
  intro listed l bx fz pl a w hs hU hcl I h1 h2 hT hS hd
  have hr:Region.ready .any ops listed=[]:=by
   cases hrd:Region.ready .any ops listed with
   | nil=>rfl
   |
    cons j r =>
    exfalso
    have hin:j∈Region.ready .any ops listed:=by rw [hrd];exact List.mem_cons_self ..
    rw [mem_ready] at hin
    obtain ⟨q1,o,q2,_⟩:=hin
    have hjl:=(Array.getElem?_eq_some_iff.1 q2).1
    obtain ⟨U,_,hul,hU⟩:=hU
    have:U=[]:=List.eq_nil_of_length_eq_zero (by omega)
    subst this
    have:=hU j hjl (by rw [← getDlt listed j (by omega)];exact q1)
    cases this
  obtain ⟨e1,e2⟩:=fin listed l bx hs hr I
  subst e1;subst e2
  exact ⟨hr,hQ a w fz pl h1 h2 hT hS hd⟩
 |
  succ fuel ih =>
  intro listed l bx fz pl a w hs hU hcl I h1 h2 hT hS hd
  refine ⟨fun hr=>?_,?_⟩
  · obtain ⟨e1,e2⟩:=fin listed l bx hs hr I
    subst e1;subst e2
    exact hQ a w fz pl h1 h2 hT hS hd
  · intro i hi
    rw [mem_ready] at hi
    obtain ⟨q1,o,q2,q3⟩:=hi
    have hil:=(Array.getElem?_eq_some_iff.1 q2).1
    have ho:ops.toList[i]? = some o:=by simpa using q2
    have hnD:¬ (listed.getD i false=true):=by rw [← getDlt listed i (by omega),q1];simp
    have hed:∀ e∈BkX o,listed.getD e false=true:=by
     intro e he
     obtain ⟨e',h3,rfl⟩:=List.mem_map.1 he
     obtain ⟨h4,h5⟩:=List.mem_filter.1 h3
     exact q3 e' (by simpa using h4) h5
    have O:=ord listed hs hcl i o ho hed
    obtain ⟨p,hp,hcp⟩:=hget i o ho
    have hstep:=C.step i p hp
    have hsame:∀ t∈BuX p,getT l t=getT (c i).1 t:=fun t ht=>I.same_tmp C hp hnD O ht
    have hD':∀ j,j<az.length→((fun j=>listed.getD j false=true∨j=i) j↔(listed.setIfInBounds i true).getD j false=true):=by
     intro j hj
     simp only
     by_cases hji:j=i
     · subst hji;simp [hs,hil]
     · rw [getD_set_ne false (Ne.symm hji)];simp [hji]
    have next:∀ (l':List AV) (bx':Bx) (fz':Fz) (pl':Pl) (a':Act) (w':World),Inv az c (fun j=>listed.getD j false=true∨j=i) l' bx'→FzLe fz0 fz'→pl0 <+: pl'→RepT fz' pl' l' a'→Sim w0 pr fz' pl' bx' w'→a'.defers=a0.defers →
     wpAny P .any ops Q fuel (listed.setIfInBounds i true) a' w':=by
     intro l' bx' fz' pl' a' w' I' g1 g2 g3 g4 g5
     refine ih _ l' bx' fz' pl' a' w' (by simp [hs]) ?_ ?_ (I'.congr hD') g1 g2 g3 g4 g5
     · obtain ⟨U,u1,u2,u3⟩:=hU
       have hiU:=u3 i hil (by cases h:listed.getD i false;rfl;exact absurd h hnD)
       refine ⟨U.erase i,u1.erase i,by rw [List.length_erase_of_mem hiU];omega,?_⟩
       intro j hj hf
       have hji:j≠i:=by rintro rfl;simp [hs,hil] at hf
       rw [getD_set_ne false (Ne.symm hji)] at hf
       exact (List.mem_erase_of_ne hji).2 (u3 j hj hf)
     · intro j oj hj hD e he
       by_cases hji:j=i
       · subst hji
         rw [ho] at hj;injection hj with hj;subst hj
         exact getD_set_true (hed e he)
       · rw [getD_set_ne false (Ne.symm hji)] at hD
         exact getD_set_true (hcl j oj hj hD e he)
    unfold cOper at hcp
    generalize hpop:(cOp P mt o).getD .bad=pop at hcp
    split at hcp
    · rename_i g hg
      injection hcp with hcp;subst hcp
      have hdst:(⟨o.dst,pop,g⟩:AOper).dst=o.dst:=rfl
      have hopeq:pop.map (·.ev l)=pop.map (·.ev (c i).1):=op_congr fun t ht=>hsame t (by unfold BuX;exact List.mem_append.2 (.inl ht))
      simp only [wpOp,q2]
      have doit:∀ v,OpC P (pop.map (·.ev (c i).1)) (c i).2 v (c (i+1)).2→(c (i+1)).1=putT (c i).1 o.dst v→o.wp P a w (wpAny P .any ops Q fuel (listed.setIfInBounds i true)) Q:=by
       intro v hop hv
       obtain ⟨k0,k1,k4,k3⟩:=opC_cls hop
       rw [cls_map] at k0 k1 k4 k3
       have hC:∃ bx',OpC P (pop.map (·.ev l)) bx v bx'∧(isW ⟨o.dst,pop,g⟩→bx'=(c (i+1)).2)∧(¬ isW ⟨o.dst,pop,g⟩→bx'=bx):=by
        rw [hopeq]
        rcases cls_cases pop with h | h | h | h | h | h | h
        · exact ⟨bx,(k0 h).2 bx,fun hw=>by rcases hw with hw | hw <;> (simp only at hw;omega),fun _=>rfl⟩
        · refine ⟨bx,?_,fun hw=>by rcases hw with hw | hw <;> (simp only at hw;omega),fun _=>rfl⟩
          cases pop <;> simp [cls] at h
          rename_i b' n' x'
          obtain ⟨y,hy⟩:=cOp_loadB hpop
          have e0:=hopeq
          simp only [AOp.map,AOp.load.injEq,true_and] at e0
          have h3:=hop.1
          simp only [AOp.map] at h3 ⊢
          rcases I.more_bx C S hp hnD O (a:=b') (n:=n') (x:=x') rfl h3 with hm | hm
          · exact ⟨hm,rfl⟩
          · rw [← e0] at h3 ⊢
            exact ⟨load_down hm hS.len (AgQ hT hy) h3,rfl⟩
        · exact ⟨(c (i+1)).2,by rw [I.same_bx C hp hnD O (.inl h)];exact hop,fun _=>rfl,fun hw=>absurd (.inl h) hw⟩
        · exact ⟨(c (i+1)).2,by rw [I.same_bx C hp hnD O (.inr (.inl h))];exact hop,fun _=>rfl,fun hw=>absurd (.inr h) hw⟩
        · have hb:=I.same_bx C hp hnD O (.inr (.inr h))
          exact ⟨(c (i+1)).2,by rw [hb];exact hop,fun _=>rfl,fun _=>by rw [k4 h,hb]⟩
        · exact absurd h (C.nine _ (List.mem_of_getElem? hp))
        · refine ⟨bx,?_,fun hw=>by rcases hw with hw | hw <;> (simp only at hw;omega),fun _=>rfl⟩
          obtain ⟨tk,ok,z,x',k',e5⟩:=cls5 h
          subst e5
          obtain ⟨y,hy⟩:=cOp_mget hpop
          have e0:=hopeq
          simp only [AOp.map,AOp.mgetv.injEq,true_and] at e0
          have h3:=hop.1
          simp only [AOp.map] at h3 ⊢
          refine ⟨?_,rfl⟩
          rcases I.map_bx C hp hnD O h with hm | hm
          · rw [← e0.1] at h3 ⊢
            exact evMap_down hm hS.len (AgQ hT hy) h3
          · exact evMap_up hm h3
       obtain ⟨bx',r1,r2,r3⟩:=hC
       refine opC_soundB hpop hT hS r1 ?_
       intro cv w' fz' pl' g1 g2 g3 g4
       exact next (putT l o.dst v) bx' fz' pl' _ w' (I.put C hp hnD O hv r2 r3) (h1.trans g1) (h2.trans g2) ((hT.mono g1 g2).put o.dst g3) g4 (by rw [AkY];exact hd)
      have skip:(c (i+1))=(putT (c i).1 o.dst (.tuple []),(c i).2)→wpAny P .any ops Q fuel (listed.setIfInBounds i true) (a.put o.dst undef) w:=by
       intro hc
       refine next (putT l o.dst (.tuple [])) bx fz pl _ w (I.put C hp hnD O (by rw [hc]) ?_ (fun _=>rfl)) h1 h2 (hT.put o.dst rep_undef) hS (by rw [AkY];exact hd)
       intro hw
       rw [hc,I.same_bx C hp hnD O hw.three]
      rcases hstep with ⟨v,hgd,hop,hv⟩ | ⟨gt,want,hgd,hor,hc⟩
      · have hw:Region.wanted o (yielded ops a.tmps)=true:=by
         cases g with
         | none=>exact guard_none hg a
         |
          some gg =>
          obtain ⟨gt,want⟩:=gg
          obtain ⟨y1,_⟩:=BjY hg hT
          have:=hsame gt (by unfold BuX;simp)
          simp only at hgd
          rw [hgd] at this
          rw [y1 want this];simp
        rw [if_pos hw]
        exact .inl (doit v hop hv)
      · simp only at hgd
        subst hgd
        obtain ⟨y1,y2⟩:=BjY hg hT
        have hs':=hsame gt (by unfold BuX;simp)
        have hw:Region.wanted o (yielded ops a.tmps)=false:=by
         rcases hor with h | h
         · rw [h] at hs';rw [y1 _ hs'];cases want <;> rfl
         · rw [h] at hs';exact y2 hs'
        rw [if_neg (by rw [hw];simp)]
        exact skip hc
    · cases hcp
theorem getT_out:∀ (m:List AV) (t:Nat),m.length≤t→getT m t=.any
 | [],t,_=>rfl
 | x::m,0,h=>by simp at h
 | x::m,t+1,h=>getT_out m t (by simpa using h)
theorem chk_split {K:List AV→Bx→Prop} {rest:List AOper} {tab:List (List Nat)} {j:Nat} {y:AOper}:∀ {done:List (Nat × AOper)} {l:List AV} {bx:Bx},AbX P (chk tab j y done++rest) K l bx→AbX P rest K l bx ∧
 ∀ i p a n x d,(i,p)∈done→late tab i p j y=true→plainLoad p=some (a,n,x,d)→BhZ bx a n (x.ev l)=some (getT l d)∧getT l d≠.any
 | [],l,bx,h=>⟨h,by simp⟩
 |
  (i0,p0)::r,l,bx,h=>by
  unfold chk at h
  split at h
  · rename_i a n x d h1 h2
    have h':(BhZ bx a n (x.ev l)=some (getT l d)∧getT l d≠.any)∧AbX P (chk tab j y r++rest) K l bx:=h
    obtain ⟨q1,q2⟩:=chk_split h'.2
    refine ⟨q1,fun i p a' n' x' d' hm hl hp=>?_⟩
    rcases List.mem_cons.1 hm with e | hm
    · injection e with e1 e2
      subst e1;subst e2
      rw [h2] at hp
      simp only [Option.some.injEq,Prod.mk.injEq] at hp
      obtain ⟨rfl,rfl,rfl,rfl⟩:=hp
      exact h'.1
    · exact q2 i p a' n' x' d' hm hl hp
  · rename_i hno
    obtain ⟨q1,q2⟩:=chk_split h
    refine ⟨q1,fun i p a' n' x' d' hm hl hp=>?_⟩
    rcases List.mem_cons.1 hm with e | hm
    · injection e with e1 e2
      subst e1;subst e2
      exact absurd hp (fun hp=>hno _ _ _ _ hl hp)
    · exact q2 i p a' n' x' d' hm hl hp
theorem withChk_chain {K:List AV→Bx→Prop} {tab:List (List Nat)}:∀ (az:List AOper) (k:Nat) (done:List (Nat × AOper)) (l:List AV) (bx:Bx),(∀ p∈az,cls p.op≠9)→AbX P (withChk tab done (BaQ k az)) K l bx →
 ∃ c:Nat→List AV × Bx,c 0=(l,bx)∧(∀ (i:Nat) p,az[i]? = some p→StepA P p (c i) (c (i+1)))∧K (c az.length).1 (c az.length).2 ∧
  ∀ (j:Nat) y,az[j]? = some y→∀ i p a n x d,(i,p)∈done++(BaQ k az).take j→late tab i p (k+j) y=true→plainLoad p=some (a,n,x,d)→(BhZ (c (j+1)).2 a n (x.ev (c (j+1)).1)=some (getT (c (j+1)).1 d)∧getT (c (j+1)).1 d≠.any)
 | [],k,done,l,bx,_,h=>⟨fun _=>(l,bx),rfl,by simp,h,by simp⟩
 |
  p::az,k,done,l,bx,h9,h=>by
  have h1:AbX P [p] (fun l' bx'=>AbX P (chk tab k p done++withChk tab (done++[(k,p)]) (BaQ (k+1) az)) K l' bx') l bx:=h
  obtain ⟨c1,e1,e2,e3⟩:=awpOpers_chain [p] l bx (by simpa using h9 p (List.mem_cons_self ..)) h1
  have hst:=e2 0 p rfl
  rw [e1] at hst
  simp only [List.length_singleton] at e3
  obtain ⟨r1,r2⟩:=chk_split e3
  obtain ⟨c,g0,g1,g2,g3⟩:=withChk_chain az (k+1) (done++[(k,p)]) _ _ (fun q hq=>h9 q (List.mem_cons_of_mem _ hq)) r1
  refine ⟨fun i=>match i with | 0=>(l,bx) | i+1=>c i,rfl,?_,g2,?_⟩
  · intro i q hq
    cases i with
    | zero=>simp at hq;subst hq;show StepA P p (l,bx) (c 0);rw [g0];exact hst
    | succ i=>exact g1 i q (by simpa using hq)
  · intro j y hy i q a n x d hm hl hp
    cases j with
    |
     zero =>
     simp at hy;subst hy
     simp only [List.take_zero,List.append_nil] at hm
     show BhZ (c 0).2 a n (x.ev (c 0).1)=some (getT (c 0).1 d)∧getT (c 0).1 d≠.any
     rw [g0]
     exact r2 i q a n x d hm hl hp
    |
     succ j =>
     have hm':(i,q)∈(done++[(k,p)])++(BaQ (k+1) az).take j:=by
      simpa [BaQ] using hm
     exact g3 j y (by simpa using hy) i q a n x d hm' (by rw [show k+1+j=k+(j+1) by omega];exact hl) hp
theorem lateOk_get {tab:List (List Nat)}:∀ {L:List (Nat × AOper)},lateOk tab L=true→∀ (i j:Nat) x y,i<j→L[i]? = some x→L[j]? = some y→late tab x.1 x.2 y.1 y.2=true →
 (plainLoad x.2).isSome=true∧∀ (k:Nat) z,i<k→L[k]? = some z→∀ t∈AtY z.2,t ∉ BuX x.2∧t ∉ AtY x.2
 | [],_,i,j,x,y,_,hi,_,_=>by simp at hi
 |
  z::L,h,i,j,x,y,hij,hi,hj,hl=>by
  obtain ⟨z1,z2⟩:=z
  simp only [lateOk,Bool.and_eq_true] at h
  cases j with
  | zero=>omega
  |
   succ j =>
   have hj':L[j]? = some y:=by simpa using hj
   cases i with
   |
    zero =>
    simp at hi;subst hi
    have hany:(L.any fun y=>late tab z1 z2 y.1 y.2)=true:=List.any_eq_true.2 ⟨y,List.mem_of_getElem? hj',hl⟩
    have h1:=h.1
    rw [hany] at h1
    simp only [Bool.not_true,Bool.false_or,Bool.and_eq_true,List.all_eq_true] at h1
    refine ⟨h1.1,fun k z hk hz t ht=>?_⟩
    cases k with
    | zero=>omega
    |
     succ k =>
     have:=h1.2 z (List.mem_of_getElem? (by simpa using hz)) t ht
     simp only [Bool.not_eq_true',List.contains_eq_mem,decide_eq_false_iff_not] at this
     exact this
   |
    succ i =>
    obtain ⟨q1,q2⟩:=lateOk_get h.2 i j x y (by omega) (by simpa using hi) hj' hl
    refine ⟨q1,fun k z hk hz t ht=>?_⟩
    cases k with
    | zero=>omega
    | succ k=>exact q2 k z (by omega) (by simpa using hz) t ht
theorem draw_sound {fz:Fz} {pl:Pl} {bx:Bx} {w:World} {mt:FuncId→Nat} {ops:Array Oper} {id:Nat} {az:List AOper} (hz:BhQ P mt ops ops.toList=some az) (hd:drawOk P ops az=true) {K:List AV→Bx→Prop} {l:List AV} {a:Act} (hK:AbX P (withChk (ancTab ops.toList []) [] (BaQ 0 az)) K l bx) (hT:RepT fz pl l a) (hS:Sim w0 pr fz pl bx w)
 {Q:Exit→Act→World→Prop} (hQ:∀ l' bx' a' w' fz' pl',K l' bx'→FzLe fz fz'→pl <+: pl'→RepT fz' pl' l' a'→Sim w0 pr fz' pl' bx' w'→a'.defers=a.defers→Q .normal a' w'):(Code.region id ops true).wp P Q a w:=by
 unfold drawOk at hd
 simp only [Bool.and_eq_true,List.all_eq_true,bne_iff_ne] at hd
 obtain ⟨⟨⟨⟨hm,h9⟩,hup⟩,hpair⟩,hlate⟩:=hd
 obtain ⟨c,c0,c1,c2,c3⟩:=withChk_chain az 0 [] l bx h9 hK
 have C:Chain P az c:=⟨c1,h9⟩
 have S:Same az (ancTab ops.toList []) c:=by
  intro i j p y hij hp hy hl
  have hip:=AmZ (k:=0) i p hp
  have hjy:=AmZ (k:=0) j y hy
  simp only [Nat.zero_add] at hip hjy
  obtain ⟨q1,q2⟩:=lateOk_get hlate i j _ _ hij hip hjy hl
  obtain ⟨⟨a,n,x,d⟩,hpl⟩:=Option.isSome_iff_exists.1 q1
  have hpe:p=⟨some d,.load a n x,none⟩∧d ∉ tmpOf x:=by
   obtain ⟨dst,op,g⟩:=p
   unfold plainLoad at hpl
   split at hpl
   · rename_i h;injection h with e1 e2 e3
     split at hpl
     · cases hpl
     · rename_i hno
       simp only [Option.some.injEq,Prod.mk.injEq] at hpl
       obtain ⟨rfl,rfl,rfl,rfl⟩:=hpl
       rw [e1,e2,e3]
       exact ⟨rfl,by simpa using hno⟩
   · cases hpl
  obtain ⟨hpe,hnd⟩:=hpe
  have hin:(i,p)∈[]++(BaQ 0 az).take j:=by
   rw [List.nil_append]
   exact List.mem_of_getElem? (i:=i) (by rw [List.getElem?_take,if_pos hij];exact hip)
  have h3:=c3 j y hy i p a n x d hin (by rw [Nat.zero_add];exact hl) hpl
  have hjl:=(List.getElem?_eq_some_iff.1 hy).1
  have hw:∀ t,(t∈BuX p∨t∈AtY p)→getT (c (j+1)).1 t=getT (c (i+1)).1 t:=by
   intro t ht
   have:=C.tmp (x:=t) (j-i) (i+1) (by omega) (fun k q h1 h2 hq hw=>by
    have hkq:=AmZ (k:=0) k q hq
    simp only [Nat.zero_add] at hkq
    have:=q2 k _ (by omega) hkq t hw
    rcases ht with ht | ht
    · exact this.1 ht
    · exact this.2 ht)
   rw [show i+1+(j-i)=j+1 by omega] at this
   exact this
  have hst:=C.step i p hp
  refine ⟨a,n,x,d,hpe,?_⟩
  rcases hst with ⟨v,-,hop,hv⟩ | ⟨g,want,hg,-,-⟩
  · rw [hpe] at hop hv
    have hld:BhZ (c i).2 a n (x.ev (c i).1)=some v:=hop.1
    simp only [putT] at hv
    have hd:getT (c (j+1)).1 d=getT (c (i+1)).1 d:=hw d (.inr (by rw [hpe];simp [AtY]))
    have hxe:x.ev (c (j+1)).1=x.ev (c i).1:=by
     cases x with
     | val u=>rfl
     |
      tmp t =>
      have h4:=hw t (.inl (by rw [hpe];simp [BuX,opT,tmpOf]))
      show getT (c (j+1)).1 t=getT (c i).1 t
      rw [h4,hv,BqX,if_neg]
      rintro ⟨rfl,_⟩
      exact hnd (by simp [tmpOf])
    rw [hxe,hd,hv,BqX] at h3
    by_cases hlt:d<(c i).1.length
    · rw [if_pos ⟨rfl,hlt⟩] at h3
      rw [h3.1,hld]
    · rw [if_neg (fun h=>hlt h.2)] at h3
      exact absurd (getT_out _ _ (by omega)) h3.2
  · rw [hpe] at hg;cases hg
 have hrep:∀ j,(Array.replicate ops.size false).getD j false=false:=by
  intro j
  simp only [Array.getD_eq_getD_getElem?,Array.getElem?_replicate]
  split <;> rfl
 refine wp_region_any hm (draw_any hz hup hpair C S (fz0:=fz) (pl0:=pl) (a0:=a) (fun a' w' fz' pl' g1 g2 g3 g4 g5=>hQ _ _ a' w' fz' pl' c2 g1 g2 g3 g4 g5) ops.size _ l bx fz pl a _ (by simp) ⟨List.range ops.size,List.nodup_range,by simp,fun j hj _=>List.mem_range.2 hj⟩ ?_ ?_ (.refl _) (List.prefix_refl _) hT hS.drew rfl)
 · intro i o _ hD
   rw [hrep] at hD;cases hD
 · refine ⟨by rw [c0],?_,?_⟩
   · intro t
     exact ⟨0,by omega,by rw [c0],fun i p h=>by omega,fun i p _ _ _ hD=>by rw [hrep] at hD;cases hD⟩
   · exact ⟨0,by omega,by rw [c0],fun i p h=>by omega,fun i p _ _ _ hD=>by rw [hrep] at hD;cases hD⟩
end
end Go.Proofs.YtcmphhedaefcgaaGreatDoor.Av
namespace Go.Proofs.YtcmphhedaefcgaaGreatDoor.Av
open Classical
inductive AExit where
 | normal
 | exit (id:Nat)
 | ret
def AExit.toExit:AExit→Exit
 | .normal=>.normal
 | .exit id=>.exit id
 | .ret=>.ret
def embT (n:Nat) (ix:List Nat):List AV→List AV→Prop
 | [],[]=>True
 | .any::l',_::l=>embT n ix l' l
 | v'::l',v::l=>okR n v'=true∧wk (ren ix v') v∧embT n ix l' l
 | _,_=>False
def Emb (m:Nat) (l':List AV) (bs:Bx) (l:List AV) (bx:Bx):Prop :=
 ∃ ix:List Nat,ix.Nodup∧ix.take m=List.range m∧embB bs.length ix bx ix bs∧embT bs.length ix l' l
def EmbW (m:Nat) (l':List AV) (bs:Bx) (l:List AV) (bx:Bx):Prop :=
 ∃ ix:List Nat,(liveIx ix bs).Nodup∧ix.take m=List.range m∧embB bs.length ix bx ix bs∧embT bs.length ix l' l
theorem Emb.toW {m:Nat} {l':List AV} {bs:Bx} {l:List AV} {bx:Bx} (h:Emb m l' bs l bx):EmbW m l' bs l bx:=by
 obtain ⟨ix,h1,h2,h3,h4⟩:=h
 exact ⟨ix,h1.sublist (liveIx_sub _ _),h2,h3,h4⟩
abbrev AwZ:=AExit→List AV→Bx→Prop
def seqQ (K:List AV→Bx→Prop) (Q:AwZ):AwZ
 | .normal,l,bx=>K l bx
 | e,l,bx=>Q e l bx
def blockQ (id:Nat) (Q:AwZ):AwZ
 |
  .exit i,l,bx=>match decide (i=id) with
  | true=>Q .normal l bx
  | false=>Q (.exit i) l bx
 | e,l,bx=>Q e l bx
def virtL:List (Nat × Nat)→List AV→Nat→List AV
 | [],l,_=>l
 | (t,sz)::r,l,n=>virtL r (setT l t (.sl sz n 0 0)) (n+1)
def virtB:List (Nat × Nat)→Bx→Bx
 | [],bx=>bx
 | (_,sz)::r,bx=>virtB r (bx++[some (sz,[])])
def isN:AV→Bool
 | .nils=>true
 | _=>false
def virtOk:List (Nat × Nat)→List AV→Nat→Bool
 | [],_,_=>true
 | (t,sz)::r,l,n=>isN (getT l t) && virtOk r (setT l t (.sl sz n 0 0)) (n+1)
def virtE (p:Nat) (v:AV):Option (Nat × List AV)→Option (Nat × List AV)
 | some (s,[.agg cs])=>some (s,[.agg (cs.set p v)])
 | b=>b
def virtF:List (Nat × Nat × Nat)→Bx→Bx
 | [],bx=>bx
 | (k,p,sz)::r,bx=>virtF r (ArZ bx k (virtE p (.sl sz bx.length 0 0) (AeZ bx k))++[some (sz,[])])
def isNb (p:Nat):Option (Nat × List AV)→Bool
 |
  some (_,[.agg cs])=>match cs[p]? with
  | some v=>isN v
  | none=>false
 | _=>false
def virtFok:List (Nat × Nat × Nat)→Bx→Bool
 | [],_=>true
 | (k,p,sz)::r,bx=>isNb p (AeZ bx k) && virtFok r (ArZ bx k (virtE p (.sl sz bx.length 0 0) (AeZ bx k))++[some (sz,[])])
def LoopK0 (m:Nat) (body:AwZ→List AV→Bx→Prop) (Q:AwZ) (l:List AV) (bx:Bx):Prop :=
 ∃ (E:Nat→List AV→Bx→List AV→Bx→Prop) (_:∀ m l' bs l bx,E m l' bs l bx→EmbW m l' bs l bx) (fs:List (Nat × Nat × Nat)) (ts:List (Nat × Nat)) (β:Type) (J:β→Prop) (S:β→List AV) (B:β→Bx) (μ:β→Nat) (b0:β),virtFok fs bx=true∧virtOk ts l (virtF fs bx).length=true∧J b0∧E m (S b0) (B b0) (virtL ts l (virtF fs bx).length) (virtB ts (virtF fs bx)) ∧
  ∀ b,J b→body (seqQ (fun l' bx'=>∃ b',J b'∧μ b'<μ b∧E m (S b') (B b') l' bx') Q) (S b) (B b)
def frzS (t:Nat) (K:List AV→Bx→Prop) (l:List AV) (bx:Bx):Prop :=
 match getT l t with
 | .list _ _=>K l bx
 | .nils=>K l bx
 |
  .sl s k off n=>match AeZ bx k with
  |
   some (s',es)=>match decide (s'=s) && decide (off+n≤es.length) && BdX es with
   | true=>K (setT l t (.list s ((es.drop off).take n))) (ArZ bx k none)
   | false=>False
  | none=>False
 | _=>False
def frzSs:List Nat→(List AV→Bx→Prop)→List AV→Bx→Prop
 | [],K,l,bx=>K l bx
 | t::r,K,l,bx=>frzS t (frzSs r K) l bx
def LoopK (m:Nat) (body:AwZ→List AV→Bx→Prop) (Q:AwZ) (l:List AV) (bx:Bx):Prop:=∃ zs:List Nat,frzSs zs (LoopK0 m body Q) l bx
def frzK (t:Nat) (K:List AV→Bx→Prop) (l:List AV) (bx:Bx):Prop :=
 match getT l t with
 | .rptr _=>K l bx
 |
  .ptr s k 0 0=>match AeZ bx k with
  |
   some (s',[.agg cs])=>match decide (s'=s) && decide (cs.length=s'),BdX cs with
   | true,true=>K (setT l t (.rptr cs)) (ArZ bx k none)
   | _,_=>False
  | _=>False
 | _=>False
def awp (P:Program) (m:Nat):ACode→AwZ→List AV→Bx→Prop
 | .skip,Q,l,bx=>Q .normal l bx
 | .frz t,Q,l,bx=>frzK t (Q .normal) l bx
 | .region ops,Q,l,bx=>AbX P ops (Q .normal) l bx
 | .draw ops,Q,l,bx=>AbX P ops (Q .normal) l bx
 | .seq a b,Q,l,bx=>awp P m a (seqQ (awp P m b Q) Q) l bx
 |
  .cond c a b,Q,l,bx=>match c.ev l with
  | .bool t=>if t=true then awp P m a Q l bx else awp P m b Q l bx
  | _=>False
 | .block id c,Q,l,bx=>awp P m c (blockQ id Q) l bx
 | .loop c,Q,l,bx=>LoopK m (awp P m c) Q l bx
 | .exit id,Q,l,bx=>Q (.exit id) l bx
 | .ret,Q,l,bx=>Q .ret l bx
theorem least_ex {p:Nat→Prop} (h:∃ n,p n):∃ n,p n∧∀ k,p k→n≤k:=by
 obtain ⟨n,hn⟩:=h
 induction n using Nat.strongRecOn with
 |
  _ n ih =>
  by_cases hx:∃ k,k<n∧p k
  · obtain ⟨k,hk,hp⟩:=hx;exact ih k hk hp
  · exact ⟨n,hn,fun k hk=>Nat.le_of_not_lt fun hlt=>hx ⟨k,hlt,hk⟩⟩
noncomputable def least {p:Nat→Prop} (h:∃ n,p n):Nat:=(least_ex h).choose
theorem least_spec {p:Nat→Prop} (h:∃ n,p n):p (least h):=(least_ex h).choose_spec.1
theorem least_min {p:Nat→Prop} (h:∃ n,p n) {k:Nat} (hk:p k):least h≤k:=(least_ex h).choose_spec.2 k hk
section
variable {w0:World} {pr fz:Fz} {pl pls:Pl} {bx bs:Bx} {w:World} {P:Program} {m:Nat}
theorem embT_rep {n:Nat} {ix:List Nat} (hp:∀ (k:Nat),k<n→pls[k]? = pl[getN ix k]?):∀ {l' l:List AV},embT n ix l' l→l'.length=l.length∧∀ t c,Rep fz pl (getT l t) c→Rep fz pls (getT l' t) c
 |
  [],[],_=>by
  refine ⟨rfl,fun t c h=>?_⟩
  simp [getT];exact .frz (.any c)
 |
  v'::l',[],h=>by
  exfalso;unfold embT at h;split at h <;> simp_all
 | [],_::_,h=>by simp [embT] at h
 |
  v'::l',v::l,h=>by
  by_cases hv:v'=.any
  · subst hv
    simp only [embT] at h
    obtain ⟨h1,h2⟩:=embT_rep hp h
    refine ⟨by simp [h1],fun t c hc=>?_⟩
    cases t with
    | zero=>simp [getT];exact .frz (.any c)
    | succ t=>exact h2 t c hc
  · have h':okR n v'=true∧wk (ren ix v') v∧embT n ix l' l:=by
     unfold embT at h
     split at h
     · rename_i e;cases e
     · rename_i e1 e2;injection e1 with e1 _;exact absurd e1 hv
     · rename_i e1 e2
       injection e1 with e1 e3;injection e2 with e2 e4
       subst e1;subst e2;subst e3;subst e4;exact h
     · exact h.elim
    obtain ⟨ho,hw,hr⟩:=h'
    obtain ⟨h1,h2⟩:=embT_rep hp hr
    refine ⟨by simp [h1],fun t c hc=>?_⟩
    cases t with
    | zero=>exact ren_bwd hp (Rep.wk _ _ _ hc hw) ho
    | succ t=>exact h2 t c hc
theorem EmbW.sound {l' l:List AV} (h:EmbW m l' bs l bx) (hS:Sim w0 pr fz pl bx w) {a:Act} (hT:RepT fz pl l a) (hm:m≤pl.length) :
 ∃ pl',Sim w0 pr fz pl' bs w∧RepT fz pl' l' a∧pl'.take m=pl.take m∧m≤pl'.length:=by
 obtain ⟨ix,h1,h2,h3,h4⟩:=h
 obtain ⟨S1,hp⟩:=hS.embedW rfl h3 h1 hS.prt hS.dis (fun k x b m' _ hk hpl=>(AtX hS hk hpl).2.1)
 obtain ⟨t1,t2⟩:=embT_rep (fz:=fz) hp h4
 have hlen:m≤ix.length:=by
  have:=congrArg List.length h2
  simp at this;omega
 refine ⟨plOf pl ix,S1,⟨by rw [t1];exact hT.1,fun t=>t2 t _ (hT.2 t)⟩,?_,by simp [plOf];exact hlen⟩
 apply List.ext_getElem?
 intro j
 rw [List.getElem?_take,List.getElem?_take]
 by_cases hj:j<m
 · rw [if_pos hj,if_pos hj]
   have hix:ix[j]? = some j:=by
    have:(ix.take m)[j]? = (List.range m)[j]?:=by rw [h2]
    rw [List.getElem?_take,if_pos hj] at this
    rw [this];simp [hj]
   exact BhY hix (by omega)
 · rw [if_neg hj,if_neg hj]
theorem Emb.sound {l' l:List AV} (h:Emb m l' bs l bx) (hS:Sim w0 pr fz pl bx w) {a:Act} (hT:RepT fz pl l a) (hm:m≤pl.length) :
 ∃ pl',Sim w0 pr fz pl' bs w∧RepT fz pl' l' a∧pl'.take m=pl.take m∧m≤pl'.length:=h.toW.sound hS hT hm
theorem set_nil {l:List AV} {a:Act} {t sz k:Nat} (hT:RepT fz pl l a) (h:isN (getT l t)=true):RepT fz pl (setT l t (.sl sz k 0 0)) a:=by
 have hn:getT l t=.nils:=by
  unfold isN at h
  split at h
  · assumption
  · cases h
 have hlen:∀ (l:List AV) t v,(setT l t v).length=l.length:=by
  intro l
  induction l with
  | nil=>intro t v;rfl
  | cons x l ih=>intro t v;cases t <;> simp [setT,ih]
 have hget:∀ (l:List AV) t u v,getT (setT l t v) u=getT l u∨u=t∧getT (setT l t v) u=v:=by
  intro l
  induction l with
  | nil=>intro t u v;exact .inl rfl
  |
   cons x l ih =>
   intro t u v
   cases t with
   |
    zero=>cases u with
    | zero=>exact .inr ⟨rfl,rfl⟩
    | succ u=>exact .inl rfl
   |
    succ t=>cases u with
    | zero=>exact .inl rfl
    | succ u=>
     rcases ih t u v with h | ⟨rfl,h⟩
     · exact .inl h
     · exact .inr ⟨rfl,h⟩
 refine ⟨by rw [hlen];exact hT.1,fun u=>?_⟩
 rcases hget l t u (.sl sz k 0 0) with h | ⟨rfl,h⟩
 · rw [h];exact hT.2 u
 · rw [h]
   have:=hT.2 u
   rw [hn] at this
   obtain ⟨ao,hao⟩:=this.inv_nils
   rw [hao]
   exact .sl0 _ _ _ _
theorem virt_sound {a:Act}:∀ (ts:List (Nat × Nat)) {l:List AV} {pl:Pl} {bx:Bx},virtOk ts l bx.length=true→RepT fz pl l a→Sim w0 pr fz pl bx w→m≤pl.length →
 ∃ pl',RepT fz pl' (virtL ts l bx.length) a∧Sim w0 pr fz pl' (virtB ts bx) w∧pl'.take m=pl.take m∧m≤pl'.length
 | [],l,pl,bx,_,hT,hS,hm=>⟨pl,hT,hS,rfl,hm⟩
 |
  (t,sz)::r,l,pl,bx,hv,hT,hS,hm=>by
  simp only [virtOk,Bool.and_eq_true] at hv
  have S1:=hS.hollow sz
  have pre:pl <+: pl++[none]:=List.prefix_append _ _
  have T1:RepT fz (pl++[none]) (setT l t (.sl sz bx.length 0 0)) a:=by
   have:=set_nil (sz:=sz) (k:=bx.length) hT hv.1
   exact ⟨this.1,fun u=>(this.2 u).mono (.refl _) pre⟩
  have hl:(bx++[some (sz,([]:List AV))]).length=bx.length+1:=by simp
  obtain ⟨pl',q1,q2,q3,q4⟩:=virt_sound r (l:=setT l t (.sl sz bx.length 0 0)) (pl:=pl++[none]) (bx:=bx++[some (sz,[])]) (by rw [hl];exact hv.2) T1 S1 (by simp;omega)
  rw [hl] at q1
  refine ⟨pl',q1,q2,?_,q4⟩
  rw [q3,List.take_append_of_le_length hm]
theorem isN_eq {v:AV} (h:isN v=true):v=.nils:=by
 unfold isN at h
 split at h
 · rfl
 · cases h
theorem Sim.nilcell {k p sz:Nat} {v:AV} (hS:Sim w0 pr fz pl bx w) (h:isNb p (AeZ bx k)=true) (hv:∃ a b c,v=.sl a b c 0):Sim w0 pr fz pl (ArZ bx k (virtE p v (AeZ bx k))) w:=by
 obtain ⟨va,vb,vc,rfl⟩:=hv
 unfold isNb at h
 split at h
 · rename_i s cs hb
   split at h
   · rename_i u hu
     have hu':=isN_eq h
     subst hu'
     have hkl:k<bx.length:=AoY hb
     rw [hb]
     simp only [virtE]
     have get:∀ {j sz es},AeZ (ArZ bx k (some (s,[.agg (cs.set p (.sl va vb vc 0))]))) j=some (sz,es)→(j=k∧sz=s∧es=[.agg (cs.set p (.sl va vb vc 0))])∨(j≠k∧AeZ bx j=some (sz,es)):=by
      intro j sz es hj
      by_cases hjk:j=k
      · subst hjk
        rw [AjZ hkl] at hj
        injection hj with hj;injection hj with e1 e2
        exact .inl ⟨rfl,e1.symm,e2.symm⟩
      · rw [AiX (fun e=>hjk e.symm)] at hj
        exact .inr ⟨hjk,hj⟩
     have old:∀ {j x},AeZ (ArZ bx k (some (s,[.agg (cs.set p (.sl va vb vc 0))]))) j=some x→∃ y,AeZ bx j=some y:=by
      intro j x hj
      obtain ⟨x1,x2⟩:=x
      rcases get hj with ⟨rfl,_,_⟩ | ⟨_,h⟩
      · exact ⟨_,hb⟩
      · exact ⟨_,h⟩
     refine ⟨hS.lay,hS.os,hS.tape,hS.output,hS.size,hS.frz,hS.prt,hS.dis,by rw [AmQ];exact hS.len,?_,?_⟩
     · intro j sz' es hj
       rcases get hj with ⟨rfl,rfl,rfl⟩ | ⟨hjk,hj'⟩
       · rcases hS.box j _ _ hb with (⟨_,h0⟩ | ⟨_,_,M⟩) | ⟨b,n,arr,e,B⟩
         · cases h0
         · rcases M.nil with q | q | ⟨_,_,q⟩
           · cases q
           · injection q with q _;injection q with q;subst q;simp at hu
           · injection q with q _;cases q
         · refine .inr ⟨b,n,arr,e,B.plc,B.nfz,B.npr,B.heap,B.size,?_,?_,?_,?_⟩
           · intro x hx
             simp at hx;subst hx
             have:=B.elem (.agg cs) (by simp)
             simpa [AV.cells] using this
           · have:=B.fits
             simpa [AV.cells] using this
           · intro i v c hv hc
             simp only [List.flatMap_cons,List.flatMap_nil,List.append_nil,AV.cells] at hv
             have h1:=B.one
             simp only [List.flatMap_cons,List.flatMap_nil,List.append_nil,AV.cells] at h1
             by_cases hip:i=p
             · subst hip
               exact h1 i _ c hu hc
             · rw [List.getElem?_set_ne (fun e=>hip e.symm)] at hv
               exact h1 i v c hv hc
           · intro i v c hv hc
             simp only [List.flatMap_cons,List.flatMap_nil,List.append_nil,AV.cells] at hv
             have h1:=B.rep
             simp only [List.flatMap_cons,List.flatMap_nil,List.append_nil,AV.cells] at h1
             by_cases hip:i=p
             · subst hip
               have hn:=h1 i _ c hu hc
               rw [List.getElem?_set_self (List.getElem?_eq_some_iff.1 hu).1] at hv
               injection hv with hv;subst hv
               obtain ⟨ao,rfl⟩:=hn.inv_nils
               exact .sl0 _ _ _ _
             · rw [List.getElem?_set_ne (fun e=>hip e.symm)] at hv
               exact h1 i v c hv hc
       · exact hS.box j _ _ hj'
     · intro j j' x y b n n' hj hj' p1 p2
       obtain ⟨y1,h1⟩:=old hj
       obtain ⟨y2,h2⟩:=old hj'
       exact hS.inj j j' _ _ b n n' h1 h2 p1 p2
   · cases h
 · cases h
theorem virtF_sound:∀ (fs:List (Nat × Nat × Nat)) {pl:Pl} {bx:Bx},virtFok fs bx=true→Sim w0 pr fz pl bx w →
 ∃ pl',Sim w0 pr fz pl' (virtF fs bx) w∧pl <+: pl'
 | [],pl,bx,_,hS=>⟨pl,hS,List.prefix_refl _⟩
 |
  (k,p,sz)::r,pl,bx,hv,hS=>by
  simp only [virtFok,Bool.and_eq_true] at hv
  have S1:=(hS.nilcell (v:=.sl sz bx.length 0 0) (sz:=sz) hv.1 ⟨_,_,_,rfl⟩).hollow sz
  obtain ⟨pl',q1,q2⟩:=virtF_sound r hv.2 S1
  exact ⟨pl',q1,(List.prefix_append _ _).trans q2⟩
theorem take_prefix {pl':Pl} (h:pl <+: pl') (hm:m≤pl.length):pl'.take m=pl.take m∧m≤pl'.length:=by
 obtain ⟨r,rfl⟩:=h
 exact ⟨by rw [List.take_append_of_le_length hm],by simp;omega⟩
theorem frzK_sound {t:Nat} {K:List AV→Bx→Prop} {l:List AV} {bx:Bx} {fz:Fz} {pl:Pl} {a:Act} {w:World} (h:frzK t K l bx) (hT:RepT fz pl l a) (hS:Sim w0 pr fz pl bx w) :
 ∃ l' bx' fz',FzLe fz fz'∧RepT fz' pl l' a∧Sim w0 pr fz' pl bx' w∧K l' bx':=by
 unfold frzK at h
 split at h
 · exact ⟨l,bx,fz,.refl _,hT,hS,h⟩
 · rename_i s k hg
   split at h
   · rename_i s' cs hk
     split at h
     · rename_i hs hfl
       rw [Bool.and_eq_true,decide_eq_true_eq,decide_eq_true_eq] at hs
       obtain ⟨hs,hsl⟩:=hs
       subst hs
       rcases hS.box k s' [.agg cs] hk with (⟨-,hno⟩ | ⟨_,_,M⟩) | ⟨b,n,arr,e,B⟩
       · cases hno
       · rcases M.nil with q | q | ⟨_,_,q⟩
         · cases q
         · injection q with q _;injection q with q;subst q
           have:=M.pos;simp at hsl;omega
         · injection q with q _;cases q
       have le:FzLe fz (fun b'=>if b'=b then some (.cells arr e (0,0)) else fz b'):=by
        intro b' o hb
        simp only
        rw [if_neg]
        · exact hb
        · rintro rfl;rw [B.nfz] at hb;cases hb
       have hfm:([AV.agg cs]:List AV).flatMap AV.cells=cs:=by simp [AV.cells]
       have hfit:=B.fits
       have hone:=B.one
       have hrep:=B.rep
       rw [hfm] at hfit hone hrep
       have hcf:∀ v∈cs,v.flat=true:=by
        have:∀ m:List AV,BdX m=true→∀ v∈m,v.flat=true:=by
         intro m
         induction m with
         | nil=>intro _ v hv;cases hv
         |
          cons u m ih =>
          intro h v hv
          simp only [BdX,Bool.and_eq_true] at h
          rcases List.mem_cons.1 hv with rfl | hv
          · exact h.1
          · exact ih h.2 v hv
        exact this cs hfl
       refine ⟨_,_,_,le,⟨?_,fun t'=>?_⟩,?_,h⟩
       · have hsz:=hT.1
         have:(setT l t (.rptr cs)).length=l.length:=putT_length l (some t) _
         omega
       · rw [BqX]
         split
         · rename_i ht
           obtain ⟨rfl,-⟩:=ht
           have hp:=hT.2 t
           rw [hg] at hp
           obtain ⟨b',n',hv,hpl⟩:=hp.inv_ptr
           have:=B.plc
           rw [hpl] at this
           injection this with this;injection this with this;injection this with e1 e2
           subst e1
           rw [hv]
           refine .frz (.rptr cs b' (0 * s'+0) arr e (0,0) (by simp) (by simp;rw [B.size];exact hfit) ?_ ?_)
           · intro i v c hv hc
             exact hone i v c hv (by simpa using hc)
           · intro i v c hv hc
             exact ((hrep i v c hv (by simpa using hc)).flat (hcf v (List.mem_of_getElem? hv))).mono le
         · exact (hT.2 t').mono le (List.prefix_refl _)
       · have S1:=hS.kill k
         refine ⟨S1.lay.mono le,S1.os,S1.tape,S1.output,S1.size,?_,S1.prt,?_,S1.len,?_,S1.inj⟩
         · intro b' o hb
           split at hb
           · rename_i hbb;subst hbb;injection hb with hb;subst hb;exact B.heap
           · exact hS.frz b' o hb
         · intro b' o hb
           split at hb
           · rename_i hbb;subst hbb;exact B.npr
           · exact hS.dis b' o hb
         · intro k' sz es hk'
           have hne:k≠k':=by
            rintro rfl
            have:=AoY hk'
            rw [AmQ] at this
            rw [AjZ this] at hk';cases hk'
           rcases S1.box k' sz es hk' with (h1 | ⟨b2,o2,M2⟩) | ⟨b2,n2,arr2,e2,B2⟩
           · exact .inl (.inl h1)
           · refine .inl (.inr ⟨b2,o2,{ M2 with nfz:=?_,cont:=M2.cont.mono le }⟩)
             rw [if_neg]
             · exact M2.nfz
             · rintro rfl
               rw [AiX hne] at hk'
               exact hne (hS.inj k k' _ _ _ _ _ hk hk' B.plc M2.plc)
           · refine .inr ⟨b2,n2,arr2,e2,{ B2 with nfz:=?_,rep:=fun i v c x y=>(B2.rep i v c x y).mono le (List.prefix_refl _) }⟩
             rw [if_neg]
             · exact B2.nfz
             · rintro rfl
               rw [AiX hne] at hk'
               exact hne (hS.inj k k' _ _ _ _ _ hk hk' B.plc B2.plc)
     · exact h.elim
   · exact h.elim
 · exact h.elim
theorem frzS_sound {t:Nat} {K:List AV→Bx→Prop} {l:List AV} {bx:Bx} {fz:Fz} {pl:Pl} {a:Act} {w:World} (h:frzS t K l bx) (hT:RepT fz pl l a) (hS:Sim w0 pr fz pl bx w) :
 ∃ l' bx' fz',FzLe fz fz'∧RepT fz' pl l' a∧Sim w0 pr fz' pl bx' w∧K l' bx':=by
 unfold frzS at h
 split at h
 · exact ⟨l,bx,fz,.refl _,hT,hS,h⟩
 · exact ⟨l,bx,fz,.refl _,hT,hS,h⟩
 · rename_i s k off n hg
   split at h
   · rename_i s' es hk
     split at h
     · rename_i hd
       simp only [Bool.and_eq_true,decide_eq_true_eq] at hd
       obtain ⟨⟨hs,hoff⟩,hfl⟩:=hd
       subst hs
       have S1:=hS.kill k
       have hsz:(setT l t (.list s' ((es.drop off).take n))).length=a.tmps.size:=by
        have:=putT_length l (some t) (.list s' ((es.drop off).take n))
        have h1:=hT.1
        simp only [putT] at this
        omega
       have nil:∀ ao cap,a.tmps.getD t undef=.slice ao 0 cap→n=0→RepT fz pl (setT l t (.list s' ((es.drop off).take n))) a:=by
        intro ao cap hv hn
        refine ⟨hsz,fun t'=>?_⟩
        rw [BqX]
        split
        · rename_i ht
          obtain ⟨rfl,-⟩:=ht
          rw [hv,hn,List.take_zero]
          exact .frz (.list0 _ _ _)
        · exact hT.2 t'
       have hp:=hT.2 t
       rw [hg] at hp
       rcases hp.inv_sl with ⟨b',n',cap,hv,hpl,hcap,hcapn⟩ | ⟨ao,hv,hn0⟩
       · rcases hS.box k s' es hk with (⟨hno,-⟩ | ⟨_,_,M⟩) | ⟨b,nb,arr,e,B⟩
         · rw [hno] at hpl;cases hpl
         · have hc0:=M.cap0 hpl hcapn
           subst hc0
           have hn0:n=0:=by omega
           subst hn0
           exact ⟨_,_,fz,.refl _,nil _ _ hv rfl,S1,h⟩
         obtain ⟨rfl,rfl⟩:=B.unique hpl
         have le:FzLe fz (fun c=>if c=b' then some (.cells arr e (0,0)) else fz c):=by
          intro c o hc
          simp only
          rw [if_neg]
          · exact hc
          · rintro rfl;rw [B.nfz] at hc;cases hc
         have hel:∀ x∈(es.drop off).take n,x.cells.length=s':=fun x hx=>B.elem x (List.mem_of_mem_drop (List.mem_of_mem_take hx))
         have hln:((es.drop off).take n).length=n:=by rw [List.length_take,List.length_drop];omega
         have hfit:=B.fits
         rw [AeX B.elem] at hfit
         have hmul:off * s'+n * s'≤es.length * s':=by rw [← Nat.add_mul];exact Nat.mul_le_mul_right _ hoff
         have hget:∀ (j:Nat) v,(((es.drop off).take n).flatMap AV.cells)[j]? = some v→(es.flatMap AV.cells)[off * s'+j]? = some v:=by
          intro j v hv
          have e1:es.flatMap AV.cells=(es.take off).flatMap AV.cells++((es.drop off).take n).flatMap AV.cells++((es.drop off).drop n).flatMap AV.cells:=by
           rw [List.append_assoc,← List.flatMap_append,List.take_append_drop,← List.flatMap_append,List.take_append_drop]
          have e2:((es.take off).flatMap AV.cells).length=off * s':=by
           rw [AeX (fun x hx=>B.elem x (List.mem_of_mem_take hx)),List.length_take,Nat.min_eq_left (by omega)]
          have hj:=(List.getElem?_eq_some_iff.1 hv).1
          rw [e1,List.getElem?_append_left (by rw [List.length_append];omega),List.getElem?_append_right (by omega),e2,Nat.add_sub_cancel_left]
          exact hv
         refine ⟨_,_,_,le,⟨hsz,fun t'=>?_⟩,?_,h⟩
         · rw [BqX]
           split
           · rename_i ht
             obtain ⟨rfl,-⟩:=ht
             rw [hv]
             refine .frz (.list s' _ b' (off * s') arr e (0,0) n cap (by simp) (by omega) hcap hel ?_ ?_ ?_)
             · rw [AeX hel,hln,B.size];omega
             · intro i v c hv hc
               exact B.one _ v c (hget i v hv) hc
             · intro i v c hv hc
               refine ((B.rep _ v c (hget i v hv) hc).flat ?_).mono le
               by_cases hz:0<s'
               · obtain ⟨q,g1,g2⟩:=BcQ hel hv hz
                 exact cells_flat (BgQ hfl q (List.mem_of_mem_drop (List.mem_of_mem_take (List.mem_of_getElem? g1)))) v (List.mem_of_getElem? g2)
               · have h0:s'=0:=by omega
                 have:=(List.getElem?_eq_some_iff.1 hv).1
                 rw [AeX hel,h0] at this
                 simp at this
           · exact (hT.2 t').mono le (List.prefix_refl _)
         · refine ⟨S1.lay.mono le,S1.os,S1.tape,S1.output,S1.size,?_,S1.prt,?_,S1.len,?_,S1.inj⟩
           · intro c o hb
             split at hb
             · rename_i hbb;subst hbb;injection hb with hb;subst hb;exact B.heap
             · exact hS.frz c o hb
           · intro c o hb
             split at hb
             · rename_i hbb;subst hbb;exact B.npr
             · exact hS.dis c o hb
           · intro k' sz es' hk'
             have hne:k≠k':=by
              rintro rfl
              have:=AoY hk'
              rw [AmQ] at this
              rw [AjZ this] at hk';cases hk'
             rcases S1.box k' sz es' hk' with (h1 | ⟨b2,o2,M2⟩) | ⟨b2,n2,arr2,e2,B2⟩
             · exact .inl (.inl h1)
             · refine .inl (.inr ⟨b2,o2,{ M2 with nfz:=?_,cont:=M2.cont.mono le }⟩)
               rw [if_neg]
               · exact M2.nfz
               · rintro rfl
                 rw [AiX hne] at hk'
                 exact hne (hS.inj k k' _ _ _ _ _ hk hk' B.plc M2.plc)
             · refine .inr ⟨b2,n2,arr2,e2,{ B2 with nfz:=?_,rep:=fun i v c x y=>(B2.rep i v c x y).mono le (List.prefix_refl _) }⟩
               rw [if_neg]
               · exact B2.nfz
               · rintro rfl
                 rw [AiX hne] at hk'
                 exact hne (hS.inj k k' _ _ _ _ _ hk hk' B.plc B2.plc)
       · exact ⟨_,_,fz,.refl _,nil _ _ hv hn0,S1,h⟩
     · exact h.elim
   · exact h.elim
 · exact h.elim
theorem frzSs_sound:∀ (zs:List Nat) {K:List AV→Bx→Prop} {l:List AV} {bx:Bx} {fz:Fz} {pl:Pl} {a:Act} {w:World},frzSs zs K l bx→RepT fz pl l a→Sim w0 pr fz pl bx w →
 ∃ l' bx' fz',FzLe fz fz'∧RepT fz' pl l' a∧Sim w0 pr fz' pl bx' w∧K l' bx'
 | [],K,l,bx,fz,pl,a,w,h,hT,hS=>⟨l,bx,fz,.refl _,hT,hS,h⟩
 |
  t::r,K,l,bx,fz,pl,a,w,h,hT,hS=>by
  obtain ⟨l1,bx1,fz1,f1,T1,S1,h1⟩:=frzS_sound (t:=t) (K:=frzSs r K) h hT hS
  obtain ⟨l2,bx2,fz2,f2,T2,S2,h2⟩:=frzSs_sound r h1 T1 S1
  exact ⟨l2,bx2,fz2,f1.trans f2,T2,S2,h2⟩
theorem pre_sound {P:Program} {m:Nat} {ops:Array Oper} {c:ACode} {Q:AwZ} {l:List AV} {bx:Bx} {fz:Fz} {pl:Pl} {a:Act} {w:World} (h:awp P m (pre P ops c) Q l bx) (hT:RepT fz pl l a) (hS:Sim w0 pr fz pl bx w) :
 ∃ l' bx' fz',FzLe fz fz'∧RepT fz' pl l' a∧Sim w0 pr fz' pl bx' w∧awp P m c Q l' bx':=by
 unfold pre at h
 split at h
 · have h':frzK _ (awp P m c Q) l bx:=h
   exact frzK_sound h' hT hS
 · exact ⟨l,bx,fz,.refl _,hT,hS,h⟩
theorem awp_sound {mt:FuncId→Nat}:∀ (c:Code) (ac:ACode),BsQ P mt c=some ac→∀ (Q:AwZ) (l:List AV) (bx:Bx) (fz:Fz) (pl:Pl) (a:Act) (w:World),awp P m ac Q l bx→RepT fz pl l a→Sim w0 pr fz pl bx w→m≤pl.length →
 ∀ (R:Exit→Act→World→Prop),(∀ e l' bx' a' w' fz' pl',Q e l' bx'→FzLe fz fz'→pl'.take m=pl.take m→m≤pl'.length→RepT fz' pl' l' a'→Sim w0 pr fz' pl' bx' w'→a'.defers=a.defers→R e.toExit a' w')→c.wp P R a w:=by
 intro c
 induction c with
 |
  skip =>
  intro ac hc Q l bx fz pl a w h hT hS hm R hR
  simp only [BsQ] at hc;injection hc with hc;subst hc
  exact wp_skip (hR .normal _ _ _ _ _ _ h (.refl _) rfl hm hT hS rfl)
 |
  region id ops draw =>
  intro ac hc Q l bx fz pl a w h hT hS hm R hR
  simp only [BsQ] at hc
  split at hc
  · rename_i az hz
    split at hc
    · injection hc with hc;subst hc
      obtain ⟨l2,bx2,fz2,f1,f2,f3,h⟩:=pre_sound h hT hS
      refine region_sound hz h f2 f3 ?_
      intro l' bx' a' w' fz' pl' hq h1 h2 h3 h4 h5
      obtain ⟨t1,t2⟩:=take_prefix h2 hm
      exact hR .normal _ _ _ _ _ _ hq (f1.trans h1) t1 t2 h3 h4 h5
    · split at hc
      · rename_i hd
        injection hc with hc;subst hc
        obtain ⟨l2,bx2,fz2,f1,f2,f3,h⟩:=pre_sound h hT hS
        refine draw_sound hz hd h f2 f3 ?_
        intro l' bx' a' w' fz' pl' hq h1 h2 h3 h4 h5
        obtain ⟨t1,t2⟩:=take_prefix h2 hm
        exact hR .normal _ _ _ _ _ _ hq (f1.trans h1) t1 t2 h3 h4 h5
      · cases hc
  · cases hc
 |
  seq x y ihx ihy =>
  intro ac hc Q l bx fz pl a w h hT hS hm R hR
  simp only [BsQ] at hc
  split at hc
  · rename_i x' y' hx hy
    injection hc with hc;subst hc
    refine wp_seq (ihx x' hx _ l bx fz pl a w h hT hS hm _ ?_)
    intro e l' bx' a' w' fz' pl' hq h1 h2 h3 h4 h5 h6
    cases e with
    |
     normal =>
     refine ihy y' hy Q l' bx' fz' pl' a' w' hq h4 h5 h3 R ?_
     intro e l2 bx2 a2 w2 fz2 pl2 hq2 g1 g2 g3 g4 g5 g6
     exact hR e l2 bx2 a2 w2 fz2 pl2 hq2 (h1.trans g1) (g2.trans h2) g3 g4 g5 (g6.trans h6)
    | exit id=>exact hR (.exit id) l' bx' a' w' fz' pl' hq h1 h2 h3 h4 h5 h6
    | ret=>exact hR .ret l' bx' a' w' fz' pl' hq h1 h2 h3 h4 h5 h6
  · cases hc
 |
  cond cnd x y ihx ihy =>
  intro ac hc Q l bx fz pl a w h hT hS hm R hR
  simp only [BsQ] at hc
  split at hc
  · rename_i c' x' y' h1 hx hy
    injection hc with hc;subst hc
    have hRp:=AgQ hT h1
    simp only [awp] at h
    split at h
    · rename_i t ht
      rw [ht] at hRp
      refine wp_cond_split hRp.inv_bool ?_ ?_
      · intro htt;exact ihx x' hx Q l bx fz pl a w (by rwa [if_pos htt] at h) hT hS hm R hR
      · intro htt;exact ihy y' hy Q l bx fz pl a w (by rwa [if_neg (by simp [htt])] at h) hT hS hm R hR
    · exact h.elim
  · cases hc
 |
  block id c ih =>
  intro ac hc Q l bx fz pl a w h hT hS hm R hR
  simp only [BsQ] at hc
  rw [Option.map_eq_some_iff] at hc
  obtain ⟨c',h1,rfl⟩:=hc
  refine wp_block (ih c' h1 _ l bx fz pl a w h hT hS hm _ ?_)
  intro e l' bx' a' w' fz' pl' hq g1 g2 g3 g4 g5 g6
  cases e with
  | normal=>exact hR .normal _ _ _ _ _ _ hq g1 g2 g3 g4 g5 g6
  | ret=>exact hR .ret _ _ _ _ _ _ hq g1 g2 g3 g4 g5 g6
  |
   exit i =>
   simp only [blockQ] at hq
   simp only [AExit.toExit,Exit.inBlock]
   by_cases hi:i=id
   · subst hi
     simp only [decide_true] at hq
     rw [if_pos rfl]
     exact hR .normal _ _ _ _ _ _ hq g1 g2 g3 g4 g5 g6
   · simp only [hi,decide_false] at hq
     rw [if_neg hi]
     exact hR (.exit i) _ _ _ _ _ _ hq g1 g2 g3 g4 g5 g6
 |
  loop c ih =>
  intro ac hc Q l bx fz pl a w h hT hS hm R hR
  simp only [BsQ] at hc
  rw [Option.map_eq_some_iff] at hc
  obtain ⟨c',h1,rfl⟩:=hc
  simp only [awp] at h
  obtain ⟨zs,h⟩:=h
  obtain ⟨l2,bx2,fz2,f1,T2,S2,h⟩:=frzSs_sound zs h hT hS
  have hR:=fun e l' bx' a' w' fz' pl' hq (g1:FzLe fz2 fz')=>hR e l' bx' a' w' fz' pl' hq (f1.trans g1)
  obtain ⟨E,hEW,fs,ts,β,J,S,B,μ,b0,hfs,hts,hJ,hE,hround⟩:=h
  obtain ⟨plf,fS,fpre⟩:=virtF_sound fs hfs S2
  have fT:RepT fz2 plf l2 a:=⟨T2.1,fun u=>(T2.2 u).mono (.refl _) fpre⟩
  have fm:m≤plf.length:=Nat.le_trans hm fpre.length_le
  obtain ⟨plv,v1,v2,v3,v4⟩:=virt_sound ts hts fT fS fm
  have v3:plv.take m=pl.take m:=by
   rw [v3]
   obtain ⟨q,rfl⟩:=fpre
   rw [List.take_append_of_le_length hm]
  let At:β→Act→World→Prop:=fun b a' w'=>J b∧∃ fz1 pl1,FzLe fz2 fz1∧pl1.take m=pl.take m∧m≤pl1.length∧RepT fz1 pl1 (S b) a'∧Sim w0 pr fz1 pl1 (B b) w'∧a'.defers=a.defers
  let I:Act→World→Prop:=fun a' w'=>∃ b,At b a' w'
  have hex:∀ a' w',I a' w'→∃ n,∃ b,At b a' w'∧μ b=n:=fun a' w' ⟨b,hb⟩=>⟨_,b,hb,rfl⟩
  let μ':Act→World→Nat:=fun a' w'=>if h:∃ n,∃ b,At b a' w'∧μ b=n then least h else 0
  obtain ⟨pl0,s1,s2,s3,s4⟩:=(hEW _ _ _ _ _ hE).sound v2 v1 v4
  have s3:=s3.trans v3
  refine wp_loop I μ' ⟨b0,hJ,fz2,pl0,.refl _,s3,s4,s2,s1,rfl⟩ ?_
  intro a1 w1 hI
  have hx:=hex a1 w1 hI
  have hspec:=least_spec hx
  obtain ⟨b,hAt,hb⟩:=hspec
  have hμ:μ' a1 w1=μ b:=by
   show (if h:∃ n,∃ b,At b a1 w1∧μ b=n then least h else 0)=μ b
   rw [dif_pos hx,hb]
  obtain ⟨hJb,fz1,pl1,q1,q2,q3,q4,q5,q6⟩:=hAt
  refine ih c' h1 _ (S b) (B b) fz1 pl1 a1 w1 (hround b hJb) q4 q5 q3 _ ?_
  intro e l' bx' a' w' fz' pl' hq g1 g2 g3 g4 g5 g6
  cases e with
  |
   normal =>
   obtain ⟨b',hJ',hlt,hE'⟩:=hq
   obtain ⟨pl2,r1,r2,r3,r4⟩:=(hEW _ _ _ _ _ hE').sound g5 g4 g3
   have hAt':At b' a' w':=⟨hJ',fz',pl2,q1.trans g1,(r3.trans g2).trans q2,r4,r2,r1,g6.trans q6⟩
   refine ⟨⟨b',hAt'⟩,?_⟩
   rw [hμ]
   have hx':=hex a' w' ⟨b',hAt'⟩
   show (if h:∃ n,∃ b,At b a' w'∧μ b=n then least h else 0)<μ b
   rw [dif_pos hx']
   exact Nat.lt_of_le_of_lt (least_min hx' ⟨b',hAt',rfl⟩) hlt
  | exit i=>exact hR (.exit i) _ _ _ _ _ _ hq (q1.trans g1) (g2.trans q2) g3 g4 g5 (g6.trans q6)
  | ret=>exact hR .ret _ _ _ _ _ _ hq (q1.trans g1) (g2.trans q2) g3 g4 g5 (g6.trans q6)
 |
  exit id =>
  intro ac hc Q l bx fz pl a w h hT hS hm R hR
  simp only [BsQ] at hc;injection hc with hc;subst hc
  exact wp_exit (hR (.exit id) _ _ _ _ _ _ h (.refl _) rfl hm hT hS rfl)
 |
  ret =>
  intro ac hc Q l bx fz pl a w h hT hS hm R hR
  simp only [BsQ] at hc;injection hc with hc;subst hc
  exact wp_ret (hR .ret _ _ _ _ _ _ h (.refl _) rfl hm hT hS rfl)
 |
  _ =>
  intro ac hc
  simp [BsQ] at hc
end
end Go.Proofs.YtcmphhedaefcgaaGreatDoor.Av
namespace Go.Proofs.YtcmphhedaefcgaaGreatDoor.Av
open Classical
def resV (l:List AV) (bx:Bx):List ARes→Option (List AV)
 | []=>some []
 |
  .tmp t::r=>match resV l bx r with
  | some vs=>some (getT l t::vs)
  | none=>none
 |
  .cell t agg n::r=>match BhZ bx agg n (getT l t),resV l bx r with
  | some v,some vs=>some (v::vs)
  | _,_=>none
def tupV:List AV→AV
 | [v]=>v
 | vs=>.tuple vs
def finP (res:List ARes) (r:AV):AwZ
 | .exit _,_,_=>False
 |
  _,l,bx=>match resV l bx res with
  | some vs=>wk r (view 8 bx (tupV vs))
  | none=>False
def wkN:AV→AV→Prop
 | .sl _ _ _ 0,.nils=>True
 | v,u=>wk v u
def hol:List Nat→Bx→Bx
 | [],bx=>bx
 | s::r,bx=>hol r (bx++[some (s,[])])
def finM (res:List ARes) (m:Nat) (r:AV) (bs':Bx):AwZ
 | .exit _,_,_=>False
 |
  _,l,bx=>match resV l bx res with
  | some vs=>∃ (zs ix:List Nat),ix.Nodup∧ix.take m=List.range m∧embB bs'.length ix (hol zs bx) ix bs'∧okR bs'.length r=true∧wkN (ren ix r) (tupV vs)
  | none=>False
def viewN:Nat→Bx→AV→AV
 | 0,_,_=>.any
 | n+1,bx,v=>match v with
  | .agg l=>.agg (l.map (view n bx))
  | .tuple l=>.tuple (l.map (view n bx))
  | .fn f l=>.fn f (l.map (view n bx))
  |
   .ptr sz k i off=>match AeZ bx k with
   |
    some (s,es)=>match decide (s=sz),es[i]? with
    |
     true,some e=>match decide (off<e.cells.length) with
     | true=>.rptr ((e.cells.drop off).map (view n bx))
     | false=>.any
    | _,_=>.any
   | none=>.any
  |
   .sl sz k off len=>match elemsOf bx sz (.sl sz k off len) with
   |
    some es=>match BdX es with
    | true=>.list sz es
    |
     false=>match n with
     | 0=>.any
     | n+1=>.list sz (es.map (view (n+1) bx))
   | none=>.any
  | .mp _=>.any
  | .fb _ _=>.any
  | v=>v
theorem view_eq (n:Nat) (bx:Bx) (v:AV):view n bx v=match v.flat with
 | true=>v
 | false=>viewN n bx v:=by
 cases n with
 | zero=>unfold view viewN;rfl
 | succ n=>unfold view viewN;rfl
theorem flat_any:AV.flat .any=true:=rfl
theorem flat_int (k:IntKind) (n:Int):(AV.int k n).flat=true:=rfl
theorem flat_bool (b:Bool):(AV.bool b).flat=true:=rfl
theorem flat_str (b:ByteArray):(AV.str b).flat=true:=rfl
theorem flat_nils:AV.flat .nils=true:=rfl
theorem flat_list (s:Nat) (l:List AV):(AV.list s l).flat=true:=rfl
theorem flat_ptr (a b c d:Nat):(AV.ptr a b c d).flat=false:=rfl
theorem flat_sl (a b c d:Nat):(AV.sl a b c d).flat=false:=rfl
theorem flat_agg (l:List AV):(AV.agg l).flat=BdX l:=rfl
theorem flat_tuple (l:List AV):(AV.tuple l).flat=BdX l:=rfl
theorem flat_fn (f:Fn) (l:List AV):(AV.fn f l).flat=BdX l:=rfl
theorem flatL_nil:BdX []=true:=rfl
theorem BsX (v:AV) (l:List AV):BdX (v::l)=(v.flat && BdX l):=rfl
theorem wk_any (u:AV):wk .any u=True:=by simp [wk]
theorem wk_int (k:IntKind) (n:Int) (u:AV):wk (.int k n) u=(.int k n=u):=by simp [wk]
theorem wk_bool (b:Bool) (u:AV):wk (.bool b) u=(.bool b=u):=by simp [wk]
theorem wk_list (s s':Nat) (l l':List AV):wk (.list s l) (.list s' l')=(s=s'∧l=l'):=by
 cases l <;> simp [wk]
theorem wk_list_nils (s:Nat) (l:List AV):wk (.list s l) .nils=(l=[]):=by
 cases l <;> simp [wk]
theorem wk_agg (l r:List AV):wk (.agg l) (.agg r)=wkL l r:=by simp [wk]
theorem wk_tuple (l r:List AV):wk (.tuple l) (.tuple r)=wkL l r:=by simp [wk]
theorem wkL_cons (v u:AV) (l r:List AV):wkL (v::l) (u::r)=(wk v u∧wkL l r):=by simp [wkL]
section
variable {w0:World} {pr fz:Fz} {pl pls:Pl} {bx bs:Bx} {w:World} {P:Program} {m:Nat}
def resOne (a:Act):ResultVar→Sem Value
 | .tmp t=>pure (a.tmps.getD t undef)
 | .cell p t=>do loadVar t (← asAddr (a.tmps.getD p undef))
theorem results_eq (fn:Func) (a:Act):results fn a.tmps=(do let vs ← fn.results.mapM (resOne a);pure (if h:vs.size=1 then vs[0] else .tuple vs)):=by
 unfold results
 congr 1
theorem res_sound {l:List AV} {a:Act} (hT:RepT fz pl l a) (hS:Sim w0 pr fz pl bx w):∀ {rs:List ResultVar} {az:List ARes} {vs:List AV},cRes P rs=some az→resV l bx az=some vs →
 ∃ cs:List Value,(rs.mapM (resOne a)).run P w=.ok cs w∧vs.length=cs.length∧∀ (i:Nat) v c,vs[i]? = some v→cs[i]? = some c→Rep fz pl v c
 |
  [],az,vs,hc,hv=>by
  simp [cRes] at hc;subst hc
  simp [resV] at hv;subst hv
  exact ⟨[],by simp,rfl,by simp⟩
 |
  .tmp t::rs,az,vs,hc,hv=>by
  simp only [cRes] at hc
  rw [Option.map_eq_some_iff] at hc
  obtain ⟨az',h1,rfl⟩:=hc
  simp only [resV] at hv
  split at hv
  · rename_i vs' h2
    injection hv with hv;subst hv
    obtain ⟨cs,k1,k2,k3⟩:=res_sound hT hS h1 h2
    refine ⟨a.tmps.getD t undef::cs,?_,by simp [k2],?_⟩
    · rw [List.mapM_cons]
      simp only [resOne,Sem.run_bind,Sem.run_pure,Result.andThen_ok]
      rw [k1];rfl
    · intro i v c hv hc
      cases i with
      | zero=>simp at hv hc;subst hv;subst hc;have:=hT.2 t;rwa [Array.getD_eq_getD_getElem?] at this
      | succ i=>exact k3 i v c (by simpa using hv) (by simpa using hc)
  · cases hv
 |
  .cell p t::rs,az,vs,hc,hv=>by
  simp only [cRes] at hc
  split at hc
  · rename_i ag n az' h1 h2 h3
    injection hc with hc;subst hc
    simp only [resV] at hv
    split at hv
    · rename_i v0 vs' h4 h5
      injection hv with hv;subst hv
      obtain ⟨cs,k1,k2,k3⟩:=res_sound hT hS h3 h5
      obtain ⟨c0,q1,q2⟩:=load_sound (P:=P) h1 h2 hS (hT.2 p) h4
      have hptr:∃ ad,a.tmps.getD p undef=.pointer (some ad):=by
       generalize a.tmps.getD p undef=c at q1
       unfold Instr.loadAt Instr.sureAddr at q1
       cases c with
       |
        pointer ad=>cases ad with
        | some ad=>exact ⟨ad,rfl⟩
        | none=>simp at q1
       | _=>simp at q1
      obtain ⟨ad,had⟩:=hptr
      rw [had] at q1
      have q1':(loadVar t ad).run P w=.ok c0 w:=by simpa [Instr.loadAt,Instr.sureAddr] using q1
      refine ⟨c0::cs,?_,by simp [k2],?_⟩
      · rw [List.mapM_cons]
        simp only [resOne,Sem.run_bind,had,asAddr,Sem.run_pure,Result.andThen_ok,q1']
        rw [k1];rfl
      · intro i v c hv hc
        cases i with
        | zero=>simp at hv hc;subst hv;subst hc;exact q2
        | succ i=>exact k3 i v c (by simpa using hv) (by simpa using hc)
    · cases hv
  · cases hc
theorem AyQ {fn:Func} {l:List AV} {a:Act} (hT:RepT fz pl l a) (hS:Sim w0 pr fz pl bx w) {az:List ARes} {vs:List AV} (hc:cRes P fn.results.toList=some az) (hv:resV l bx az=some vs) :
 ∃ c,(results fn a.tmps).run P w=.ok c w∧Rep fz pl (tupV vs) c:=by
 obtain ⟨cs,k1,k2,k3⟩:=res_sound (P:=P) hT hS hc hv
 have hm:(fn.results.mapM (resOne a)).run P w=.ok cs.toArray w:=by
  rw [Array.mapM_eq_mapM_toList,Sem.run_map,k1];rfl
 have hrun:(results fn a.tmps).run P w=.ok (if h:cs.toArray.size=1 then cs.toArray[0] else .tuple cs.toArray) w:=by
  rw [results_eq,Sem.run_bind,hm]
  rfl
 refine ⟨_,hrun,?_⟩
 cases vs with
 |
  nil =>
  have:cs=[]:=List.eq_nil_of_length_eq_zero (by simpa using k2.symm)
  subst this
  exact .tuple [] #[] rfl (by simp)
 |
  cons v vs =>
  cases vs with
  |
   nil =>
   cases cs with
   | nil=>simp at k2
   |
    cons c cs =>
    have:cs=[]:=List.eq_nil_of_length_eq_zero (by simpa using k2.symm)
    subst this
    simpa [tupV] using k3 0 v c (by simp) (by simp)
  |
   cons v2 vs =>
   rw [dif_neg (by simp at k2 ⊢;omega)]
   exact .tuple _ _ (by simpa using k2) (fun i v c a b=>k3 i v c a (by simpa using b))
theorem BpY {args:List AV} {cs:Array Value} (hl:args.length=cs.size) (h:∀ (i:Nat) v c,args[i]? = some v→cs[i]? = some c→Rep fz pl v c) (n:Nat) :
 RepT fz pl (args++List.replicate (n-args.length) .any) { tmps:=cs++Array.replicate (n-cs.size) undef,defers:=[] }:=by
 have getT_eq:∀ (l:List AV) t,getT l t=(l[t]?).getD .any:=by
  intro l
  induction l with
  | nil=>intro t;simp [getT]
  | cons x l ih=>intro t;cases t <;> simp [getT,ih]
 refine ⟨by simp [hl],?_⟩
 intro t
 rw [getT_eq,Array.getD_eq_getD_getElem?]
 by_cases ht:t<args.length
 · rw [List.getElem?_append_left ht,Array.getElem?_append_left (by omega)]
   have h1:args[t]? = some args[t]:=List.getElem?_eq_getElem ht
   have h2:cs[t]? = some cs[t]:=Array.getElem?_eq_getElem (by omega)
   rw [h1,h2]
   exact h t _ _ h1 h2
 · rw [List.getElem?_append_right (by omega)]
   rw [List.getElem?_replicate]
   split <;> exact .frz (.any _)
theorem AcZ {mt:FuncId→Nat} {f:FuncId} {fn:Func} {af:AFunc} (hf:P.funcs[f]? = some fn) (hcf:∀ (xs:Array Value) (w:World),(callFunc f xs).run P w=.ok (.enter f xs) w) (hc:AgY P mt fn=some af)
 {args:List AV} {r:AV} (h:awp P 0 af.body (finP af.res r) (args++List.replicate (af.ntmps-args.length) .any) []):Ctr P f args [] r []:=by
 refine ⟨hcf,?_⟩
 intro w0 pr fz pl w cs hS hl hA
 unfold AgY at hc
 split at hc
 · rename_i ac rz hb hres
   injection hc with hc;subst hc
   rw [Option.bind_eq_some_iff] at hb
   obtain ⟨c,hbody,hcc⟩:=hb
   refine calls_of_wp hf hbody (awp_sound c ac hcc _ _ _ fz pl _ w h (BpY hl hA fn.ntmps) hS (by simp) _ ?_)
   intro e l' bx' a' w' fz' pl' hq h1 _ _ hT hS' hdf
   have key:(match resV l' bx' rz with
    | some vs=>wk r (view 8 bx' (tupV vs))
    | none=>False)→a'.defers=[]∧∃ v,(results fn a'.tmps).run P w'=.ok v w'∧∃ cv fz'' pl'',Ending.returned v=.returned cv∧FzLe fz fz''∧pl <+: pl''∧Rep fz'' pl'' r cv∧Sim w0 pr fz'' pl'' [] w':=by
    intro hq
    split at hq
    · rename_i vs hvs
      obtain ⟨c,r1,r2⟩:=AyQ (P:=P) hT hS' hres hvs
      have hpl:pl=[]:=List.eq_nil_of_length_eq_zero (by rw [hS.len];rfl)
      subst hpl
      have le:FzLe fz' (fun b=>match pr b with | none=>w'.heap[b]? | some _=>none):=by
       intro b o hb
       simp only [hS'.dis b o hb]
       exact hS'.frz b o hb
      have hv:=view_sound hS' le (fun k x b m hk hp=>by simp only [(AtX hS' hk hp).2.1]) 8 (tupV vs) c r2
      refine ⟨hdf,c,r1,c,_,[],rfl,h1.trans le,List.prefix_refl _,Rep.wk _ _ _ (.frz hv) hq,?_⟩
      refine ⟨hS'.lay.mono le,hS'.os,hS'.tape,hS'.output,hS'.size,?_,hS'.prt,?_,rfl,(fun k sz es h=>by rw [AlZ] at h;cases h),(fun k k' x y b n n' h=>by rw [AlZ] at h;cases h)⟩
      · intro b o hb
        cases hp:pr b with
        | none=>simp only [hp] at hb;exact hb
        | some y=>simp only [hp] at hb;cases hb
      · intro b o hb
        cases hp:pr b with
        | none=>rfl
        | some y=>simp only [hp] at hb;cases hb
    · exact hq.elim
   cases e with
   | normal=>exact key hq
   | ret=>exact key hq
   | exit i=>exact hq.elim
 · cases hc
theorem hol_sound:∀ (zs:List Nat) {pl:Pl} {bx:Bx},Sim w0 pr fz pl bx w→∃ pl',Sim w0 pr fz pl' (hol zs bx) w∧pl <+: pl'
 | [],pl,bx,h=>⟨pl,h,List.prefix_refl _⟩
 |
  s::r,pl,bx,h=>by
  obtain ⟨pl',h1,h2⟩:=hol_sound r (h.hollow s)
  exact ⟨pl',h1,(List.prefix_append _ _).trans h2⟩
theorem Rep.wkN {v u:AV} {c:Value} (h:Rep fz pl u c) (hw:wkN v u):Rep fz pl v c:=by
 unfold Av.wkN at hw
 split at hw
 · obtain ⟨ao,rfl⟩:=h.inv_nils
   exact .sl0 _ _ _ _
 · exact Rep.wk _ _ _ h hw
theorem call_box {mt:FuncId→Nat} {f:FuncId} {fn:Func} {af:AFunc} (hf:P.funcs[f]? = some fn) (hcf:∀ (xs:Array Value) (w:World),(callFunc f xs).run P w=.ok (.enter f xs) w) (hc:AgY P mt fn=some af)
 {args:List AV} {bs:Bx} {r:AV} {bs':Bx} (h:awp P bs.length af.body (finM af.res bs.length r bs') (args++List.replicate (af.ntmps-args.length) .any) bs):Ctr P f args bs r bs':=by
 refine ⟨hcf,?_⟩
 intro w0 pr fz pl w cs hS hl hA
 unfold AgY at hc
 split at hc
 · rename_i ac rz hb hres
   injection hc with hc;subst hc
   rw [Option.bind_eq_some_iff] at hb
   obtain ⟨c,hbody,hcc⟩:=hb
   refine calls_of_wp hf hbody (awp_sound c ac hcc _ _ _ fz pl _ w h (BpY hl hA fn.ntmps) hS (by rw [hS.len];exact Nat.le_refl _) _ ?_)
   intro e l' bx' a' w' fz' pl' hq h1 ht hm hT hS' hdf
   have key:(match resV l' bx' rz with
    | some vs=>∃ (zs ix:List Nat),ix.Nodup∧ix.take bs.length=List.range bs.length∧embB bs'.length ix (hol zs bx') ix bs'∧okR bs'.length r=true∧wkN (ren ix r) (tupV vs)
    | none=>False)→a'.defers=[]∧∃ v,(results fn a'.tmps).run P w'=.ok v w'∧∃ cv fz'' pl'',Ending.returned v=.returned cv∧FzLe fz fz''∧pl <+: pl''∧Rep fz'' pl'' r cv∧Sim w0 pr fz'' pl'' bs' w':=by
    intro hq
    split at hq
    · rename_i vs hvs
      obtain ⟨c,r1,r2⟩:=AyQ (P:=P) hT hS' hres hvs
      obtain ⟨zs,ix,i1,i2,i3,i4,i5⟩:=hq
      obtain ⟨pl2,S2,hpre⟩:=hol_sound zs hS'
      have r2:=r2.mono (.refl _) hpre
      have ht:pl2.take bs.length=pl.take bs.length:=by
       obtain ⟨q,rfl⟩:=hpre
       rw [List.take_append_of_le_length hm];exact ht
      have hm:bs.length≤pl2.length:=Nat.le_trans hm hpre.length_le
      clear hS'
      have hS':=S2
      clear S2
      generalize pl2=pl' at *
      obtain ⟨S1,hp⟩:=hS'.embed rfl i3 i1 hS'.prt hS'.dis (fun k x b m' _ hk hpl=>(AtX hS' hk hpl).2.1)
      have htk:(plOf pl' ix).take bs.length=pl:=by
       have e1:(plOf pl' ix).take bs.length=pl'.take bs.length:=by
        apply List.ext_getElem?
        intro j
        rw [List.getElem?_take,List.getElem?_take]
        by_cases hj:j<bs.length
        · rw [if_pos hj,if_pos hj]
          have hix:ix[j]? = some j:=by
           have:(ix.take bs.length)[j]? = (List.range bs.length)[j]?:=by rw [i2]
           rw [List.getElem?_take,if_pos hj] at this
           rw [this];simp [hj]
          exact BhY hix (by omega)
        · rw [if_neg hj,if_neg hj]
       rw [e1,ht,← hS.len,List.take_length]
      refine ⟨hdf,c,r1,c,fz',plOf pl' ix,rfl,h1,?_,ren_bwd hp (Rep.wkN r2 i5) i4,S1⟩
      rw [← htk];exact List.take_prefix _ _
    · exact hq.elim
   cases e with
   | normal=>exact key hq
   | ret=>exact key hq
   | exit i=>exact hq.elim
 · cases hc
end
end Go.Proofs.YtcmphhedaefcgaaGreatDoor.Av
namespace Go.Proofs.YtcmphhedaefcgaaGreatDoor.Av
open Classical
def Thr (P:Program) (f:FuncId) (args:List AV) (bs:Bx) (Φ:Value→Prop):Prop :=
 (∀ (xs:Array Value) (w:World),(callFunc f xs).run P w=.ok (.enter f xs) w) ∧
 ∀ (w0:World) (pr fz:Fz) (pl:Pl) (w:World) (cs:Array Value),Sim w0 pr fz pl bs w→args.length=cs.size→(∀ (i:Nat) v c,args[i]? = some v→cs[i]? = some c→Rep fz pl v c) →
  Calls P f cs w fun e w'=>∃ v fz',e=.panicked [{ v:=v,recovered:=false }]∧Φ v∧FzLe fz fz'∧Sim w0 pr fz' [] [] w'
structure Xt where
 Φ:Value→Prop
 X:List AV→Bx→Prop
def killT:List Nat→Bx→Bx
 | [],bx=>bx
 | k::r,bx=>killT r (ArZ bx k none)
def ThrC (P:Program) (Y:Xt) (f:AV) (args:List AV) (l:List AV) (bx:Bx):Prop :=
 ∃ fid xs ix args' bs,FnA f args fid xs∧Thr P fid args' bs Y.Φ∧embB bs.length ix bx ix bs∧ix.Nodup∧args'.all (okR bs.length)=true∧wkL (args'.map (ren ix)) xs∧Y.X l (killT ix bx)
def thrHere (P:Program) (Y:Xt) (o:AOper) (l:List AV) (bx:Bx):Prop:=match o.guard,o.op.map (·.ev l) with
 | none,.callm f args=>ThrC P Y f args l bx
 | none,.callo f args=>ThrC P Y f args l bx
 | _,_=>False
def thrX (P:Program) (Y:Xt) (o:AOper) (l:List AV) (bx:Bx) (N:Prop):Prop:=match o.guard,o.op with
 | none,.callm _ _=>thrHere P Y o l bx∨N
 | none,.callo _ _=>thrHere P Y o l bx∨N
 | _,_=>N
def opX (P:Program) (Y:Xt):List AOper→(List AV→Bx→Prop)→List AV→Bx→Prop
 | [],K=>K
 | o::os,K=>fun l bx=>thrX P Y o l bx (awpOper P o (opX P Y os K) l bx)
def nowhere:AwZ:=fun _ _ _=>False
def awX (P:Program) (Y:Xt) (m:Nat):ACode→AwZ→List AV→Bx→Prop
 | .skip,Q,l,bx=>Q .normal l bx
 | .frz t,Q,l,bx=>frzK t (Q .normal) l bx
 | .region ops,Q,l,bx=>opX P Y ops (Q .normal) l bx
 | .draw ops,Q,l,bx=>AbX P ops (Q .normal) l bx
 | .seq a b,Q,l,bx=>awX P Y m a (seqQ (awX P Y m b Q) Q) l bx
 |
  .cond c a b,Q,l,bx=>match c.ev l with
  | .bool t=>if t=true then awX P Y m a Q l bx else awX P Y m b Q l bx
  | _=>False
 | .block id c,Q,l,bx=>awX P Y m c (blockQ id Q) l bx
 | .loop c,Q,l,bx=>LoopK m (awX P Y m c) Q l bx
 | .exit id,Q,l,bx=>Q (.exit id) l bx
 | .ret,Q,l,bx=>Q .ret l bx
section
variable {w0:World} {pr fz:Fz} {pl pls:Pl} {bx bs:Bx} {w:World} {P:Program} {Y:Xt}
theorem killT_get:∀ {ks:List Nat} {bx:Bx} {j:Nat} {x},AeZ (killT ks bx) j=some x→AeZ bx j=some x∧¬ j∈ks
 | [],bx,j,x,h=>⟨h,by simp⟩
 |
  k::r,bx,j,x,h=>by
  obtain ⟨h1,h2⟩:=killT_get (ks:=r) h
  by_cases hk:k=j
  · subst hk
    have:=AoY h1
    rw [AmQ] at this
    rw [AjZ this] at h1;cases h1
  · rw [AiX hk] at h1
    exact ⟨h1,by simp [h2];omega⟩
theorem killT_keep:∀ {ks:List Nat} {bx:Bx} {j:Nat} {x},AeZ bx j=some x→¬ j∈ks→AeZ (killT ks bx) j=some x
 | [],bx,j,x,h,_=>h
 |
  k::r,bx,j,x,h,hn=>by
  simp only [List.mem_cons,not_or] at hn
  exact killT_keep (ks:=r) (by rw [AiX (Ne.symm hn.1)];exact h) hn.2
theorem Sim.killT:∀ (ks:List Nat) {bx:Bx},Sim w0 pr fz pl bx w→Sim w0 pr fz pl (killT ks bx) w
 | [],bx,h=>h
 | k::r,bx,h=>Sim.killT r (h.kill k)
theorem hold_killT (ks:List Nat):hold pr pl bx w ks=hold pr pl (Av.killT ks bx) w []:=by
 funext b
 unfold hold
 have:(∃ k x m,k ∉ ks∧AeZ bx k=some x∧pl[k]? = some (some (b,m)))↔∃ k x m,k ∉ ([]:List Nat)∧AeZ (Av.killT ks bx) k=some x∧pl[k]? = some (some (b,m)):=by
  constructor
  · rintro ⟨k,x,m,h1,h2,h3⟩
    exact ⟨k,x,m,by simp,killT_keep h2 h1,h3⟩
  · rintro ⟨k,x,m,_,h2,h3⟩
    obtain ⟨h4,h5⟩:=killT_get h2
    exact ⟨k,x,m,h5,h4,h3⟩
 simp only [this]
theorem Sim.drop (h:Sim w0 pr fz pl bx w):Sim w0 pr fz [] [] w :=
 ⟨h.lay,h.os,h.tape,h.output,h.size,h.frz,h.prt,h.dis,rfl,(fun k sz es h=>by rw [AlZ] at h;cases h),(fun k k' x y b n n' h=>by rw [AlZ] at h;cases h)⟩
theorem callT_sound {l:List AV} {a:Act} (hT:RepT fz pl l a) (hS:Sim w0 pr fz pl bx w) {o:Oper} {f:Operand} {args:Array Operand} {ts:Array TypeId} (ho:o.op=.call ⟨.value f,args,ts⟩) {f':AOpd} {ys:List AOpd}
 (hf:cO f=some f') (hys:cOs args.toList=some ys) (hc:ThrC P Y (f'.ev l) (ys.map (·.ev l)) l bx) {next:Act→World→Prop} {Q:Exit→Act→World→Prop}
 (h:∀ v fz' w' bx',Y.Φ v→Y.X l bx'→FzLe fz fz'→RepT fz' pl l a→Sim w0 pr fz' pl bx' w'→Q (.panic [{ v:=v,recovered:=false }]) a w'):o.wp P a w next Q:=by
 obtain ⟨fid,xs,ix,args',bs,e1,⟨hcf,hC⟩,he,hnd,hok,hw,hXX⟩:=hc
 obtain ⟨vs,hrun,a1,a2⟩:=fnA_run (w:=w) hT ho hf hys e1 hcf
 obtain ⟨b1,b2⟩:=wkL_reps hw a1 a2
 have p3:∀ (k:Nat) x b m,k∈ix→AeZ bx k=some x→pl[k]? = some (some (b,m))→hold pr pl bx w ix b=none:=by
  intro k x b m hk hx hp
  unfold hold
  rw [if_neg]
  · exact (AtX hS hx hp).2.1
  · rintro ⟨k',x',m',hk',hx',hp'⟩
    exact hk' (hS.inj k k' x x' b m m' hx hx' hp hp' ▸ hk)
 obtain ⟨S1,hpl⟩:=hS.embed rfl he hnd (hold_prt hS ix) (hold_dis hS ix) p3
 have hargs:∀ (i:Nat) v c,args'[i]? = some v→vs[i]? = some c→Rep fz (plOf pl ix) v c:=by
  intro i v c hv hc
  have:=b2 i (ren ix v) c (by rw [List.getElem?_map,hv];rfl) hc
  simp only [List.all_eq_true] at hok
  exact ren_bwd hpl this (hok v (List.mem_of_getElem? hv))
 unfold Oper.wp
 rw [hrun,Oper.upon_enter]
 refine (hC w0 _ fz (plOf pl ix) w _ S1 (by simpa using b1) hargs).mono ?_
 rintro e w' ⟨v,fz',rfl,hv,hfz,hS'⟩
 rw [hold_killT] at hS'
 exact h v fz' w' _ hv hXX hfz (hT.mono hfz (List.prefix_refl _)) ((hS.killT ix).back hfz hS')
theorem cOp_call {mt:FuncId→Nat} {o:Oper} {p:AOp AOpd} (hc:cOp P mt o=some p) (f':AOpd) (ys:List AOpd) (hp:p=.callm f' ys∨p=.callo f' ys) :
 ∃ f args ts,o.op=.call ⟨.value f,args,ts⟩∧cO f=some f'∧cOs args.toList=some ys:=by
 obtain ⟨dst,op,type,pos,after,guard⟩:=o
 unfold cOp at hc
 cases op <;> simp only at hc
 case call c =>
  obtain ⟨callee,args,argTypes⟩:=c
  simp only at hc
  split at hc
  case h_6 =>
   rename_i l _ f
   split at hc
   · rename_i f1 l1 h1 h2
     split at hc <;> (injection hc with hc;subst hc;rcases hp with hp | hp <;> first | (cases hp;done) | (injection hp with e1 e2;subst e1;subst e2;exact ⟨f,args,argTypes,rfl,h1,h2⟩))
   · cases hc
  all_goals
   exfalso
   revert hc
   repeat' split
   all_goals first
    | (intro hc;cases hc;done)
    | (intro hc;injection hc with hc;subst hc;rcases hp with hp | hp <;> cases hp)
    | (intro hc;rw [Option.map_eq_some_iff] at hc;obtain ⟨_,_,hc⟩:=hc;subst hc;rcases hp with hp | hp <;> cases hp)
 all_goals
  exfalso
  revert hc
  repeat' split
  all_goals first
   | (intro hc;cases hc;done)
   | (intro hc;injection hc with hc;subst hc;rcases hp with hp | hp <;> cases hp)
   | (intro hc;rw [Option.map_eq_some_iff] at hc;obtain ⟨_,_,hc⟩:=hc;subst hc;rcases hp with hp | hp <;> cases hp)
theorem here_sound {mt:FuncId→Nat} {o:Oper} {q:AOp AOpd} {dst:Option Nat} (hq:(cOp P mt o).getD .bad=q) {l:List AV} {a:Act} (hT:RepT fz pl l a) (hS:Sim w0 pr fz pl bx w) (h:thrHere P Y ⟨dst,q,none⟩ l bx)
 {next:Act→World→Prop} {Q:Exit→Act→World→Prop}
 (hQ:∀ v bx' fz' w',Y.Φ v→Y.X l bx'→FzLe fz fz'→RepT fz' pl l a→Sim w0 pr fz' pl bx' w'→Q (.panic [{ v:=v,recovered:=false }]) a w'):o.wp P a w next Q:=by
 have key:∃ (f':AOpd) (ys:List AOpd),(q=.callm f' ys∨q=.callo f' ys)∧ThrC P Y (f'.ev l) (ys.map (·.ev l)) l bx:=by
  unfold thrHere at h
  simp only at h
  cases q <;> simp only [AOp.map] at h <;> first | exact h.elim | skip
  · rename_i f' ys;exact ⟨f',ys,.inl rfl,h⟩
  · rename_i f' ys;exact ⟨f',ys,.inr rfl,h⟩
 obtain ⟨f',ys,hp,hC⟩:=key
 cases hc:cOp P mt o with
 | none=>rw [hc] at hq;simp only [Option.getD_none] at hq;subst hq;rcases hp with hp | hp <;> cases hp
 |
  some p =>
  rw [hc] at hq;simp only [Option.getD_some] at hq;subst hq
  obtain ⟨f,args,ts,ho,h1,h2⟩:=cOp_call hc f' ys hp
  exact callT_sound hT hS ho h1 h2 hC (fun v fz' w' bx'=>hQ v bx' fz' w')
theorem thrX_cases {o:AOper} {l:List AV} {bx:Bx} {N:Prop} (h:thrX P Y o l bx N):(o.guard=none∧thrHere P Y o l bx)∨N:=by
 unfold thrX at h
 split at h
 · rename_i e1 e2
   rcases h with h | h
   · exact .inl ⟨e1,h⟩
   · exact .inr h
 · rename_i e1 e2
   rcases h with h | h
   · exact .inl ⟨e1,h⟩
   · exact .inr h
 · exact .inr h
theorem opersX_sound {mt:FuncId→Nat} {ops:Array Oper} {Q:Exit→Act→World→Prop}:∀ (os:List Oper) (k:Nat) (az:List AOper),ops.toList.drop k=os→BhQ P mt ops os=some az →
 ∀ (K:List AV→Bx→Prop) (l:List AV) (bx:Bx) (fz:Fz) (pl:Pl) (a:Act) (w:World),opX P Y az K l bx→RepT fz pl l a→Sim w0 pr fz pl bx w →
  (∀ v l' bx' pl' fz' a' w',Y.Φ v→Y.X l' bx'→FzLe fz fz'→pl <+: pl'→RepT fz' pl' l' a'→Sim w0 pr fz' pl' bx' w'→a'.defers=a.defers→Q (.panic [{ v:=v,recovered:=false }]) a' w') →
  (∀ l' bx' a' w' fz' pl',K l' bx'→FzLe fz fz'→pl <+: pl'→RepT fz' pl' l' a'→Sim w0 pr fz' pl' bx' w'→a'.defers=a.defers→Q .normal a' w')→wpOps P ops Q (List.range' k os.length) a w
 |
  [],k,az,_,hz,K,l,bx,fz,pl,a,w,hK,hT,hS,hX,hQ=>by
  simp [BhQ] at hz;subst hz
  simp only [List.length_nil,List.range'_zero,wpOps]
  exact hQ l bx a w fz pl hK (.refl _) (List.prefix_refl _) hT hS rfl
 |
  o::os,k,az,hd,hz,K,l,bx,fz,pl,a,w,hK,hT,hS,hX,hQ=>by
  simp only [BhQ] at hz
  split at hz
  · rename_i p r hp hr
    injection hz with hz;subst hz
    have ho:ops[k]? = some o:=by
     have:(ops.toList.drop k)[0]? = some o:=by rw [hd];rfl
     simpa using this
    have hd':ops.toList.drop (k+1)=os:=by rw [← List.drop_drop,hd];rfl
    unfold cOper at hp
    generalize hq:(cOp P mt o).getD .bad=q at hp
    split at hp
    · rename_i g hg
      injection hp with hp;subst hp
      simp only [List.length_cons,List.range'_succ,wpOps,ho]
      have go:AwY P (q.map (·.ev l)) (AxY (opX P Y r K) l o.dst) bx→o.wp P a w (wpOps P ops Q (List.range' (k+1) os.length)) Q:=by
       intro hdo
       refine awpDo_soundB hq hT hS hdo ?_
       intro v bx' cv w' fz' pl' hk h1 h2 h3 h4
       refine opersX_sound os (k+1) r hd' hr K _ bx' fz' pl' _ w' hk ((hT.mono h1 h2).put o.dst h3) h4 ?_ ?_
       · intro v2 l2 bx2 pl2 fz'' a' w'' g1 g0 g2 g7 g5 g3 g4
         exact hX v2 l2 bx2 pl2 fz'' a' w'' g1 g0 (h1.trans g2) (h2.trans g7) g5 g3 (by rw [g4,AkY])
       · intro l' bx'' a' w'' fz'' pl'' g1 g2 g3 g4 g5 g6
         exact hQ l' bx'' a' w'' fz'' pl'' g1 (h1.trans g2) (h2.trans g3) g4 g5 (by rw [g6,AkY])
      have skip:opX P Y r K (putT l o.dst (.tuple [])) bx→wpOps P ops Q (List.range' (k+1) os.length) (a.put o.dst undef) w:=by
       intro hk
       refine opersX_sound os (k+1) r hd' hr K _ bx fz pl _ w hk (hT.put o.dst rep_undef) hS ?_ ?_
       · intro v2 l2 bx2 pl2 fz'' a' w'' g1 g0 g2 g7 g5 g3 g4
         exact hX v2 l2 bx2 pl2 fz'' a' w'' g1 g0 g2 g7 g5 g3 (by rw [g4,AkY])
       · intro l' bx'' a' w'' fz'' pl'' g1 g2 g3 g4 g5 g6
         exact hQ l' bx'' a' w'' fz'' pl'' g1 g2 g3 g4 g5 (by rw [g6,AkY])
      simp only [opX] at hK
      rcases thrX_cases hK with ⟨hgn,hH⟩ | hK
      · simp only at hgn;subst hgn
        rw [if_pos (guard_none hg a)]
        exact .inl (here_sound hq hT hS hH (fun v bx' fz' w' g1 g0 g2 g5 g3=>hX v l bx' pl fz' a w' g1 g0 g2 (List.prefix_refl _) g5 g3 rfl))
      · cases g with
        |
         none =>
         simp only [awpOper] at hK
         rw [if_pos (guard_none hg a)]
         exact .inl (go hK)
        |
         some gg =>
         obtain ⟨t,want⟩:=gg
         simp only [awpOper] at hK
         obtain ⟨y1,y2⟩:=BjY hg hT
         split at hK
         · rename_i b hb
           rw [y1 b hb]
           by_cases hbw:b=want
           · subst hbw
             rw [if_pos (by simp)]
             exact .inl (go (by simpa using hK))
           · rw [if_neg (by simpa using hbw)]
             exact skip (by rwa [if_neg hbw] at hK)
         · rename_i hb
           rw [y2 hb,if_neg (by simp)]
           exact skip hK
         · exact hK.elim
    · cases hp
  · cases hz
variable {m:Nat}
theorem preX_sound {ops:Array Oper} {c:ACode} {Q:AwZ} {l:List AV} {bx:Bx} {fz:Fz} {pl:Pl} {a:Act} {w:World} (h:awX P Y m (pre P ops c) Q l bx) (hT:RepT fz pl l a) (hS:Sim w0 pr fz pl bx w) :
 ∃ l' bx' fz',FzLe fz fz'∧RepT fz' pl l' a∧Sim w0 pr fz' pl bx' w∧awX P Y m c Q l' bx':=by
 unfold pre at h
 split at h
 · have h':frzK _ (awX P Y m c Q) l bx:=h
   exact frzK_sound h' hT hS
 · exact ⟨l,bx,fz,.refl _,hT,hS,h⟩
theorem take_pre {pl pl':Pl} (h:pl <+: pl') (hm:m≤pl.length):pl'.take m=pl.take m∧m≤pl'.length:=by
 refine ⟨?_,Nat.le_trans hm h.length_le⟩
 obtain ⟨q,rfl⟩:=h
 rw [List.take_append_of_le_length hm]
theorem awX_sound {mt:FuncId→Nat}:∀ (c:Code) (ac:ACode),BsQ P mt c=some ac→∀ (Q:AwZ) (l:List AV) (bx:Bx) (fz:Fz) (pl:Pl) (a:Act) (w:World),awX P Y m ac Q l bx→RepT fz pl l a→Sim w0 pr fz pl bx w→m≤pl.length →
 ∀ (R:Exit→Act→World→Prop),(∀ v l' bx' pl' fz' a' w',Y.Φ v→Y.X l' bx'→FzLe fz fz'→pl'.take m=pl.take m→m≤pl'.length→RepT fz' pl' l' a'→Sim w0 pr fz' pl' bx' w'→a'.defers=a.defers→R (.panic [{ v:=v,recovered:=false }]) a' w') →
  (∀ e l' bx' a' w' fz' pl',Q e l' bx'→FzLe fz fz'→pl'.take m=pl.take m→m≤pl'.length→RepT fz' pl' l' a'→Sim w0 pr fz' pl' bx' w'→a'.defers=a.defers→R e.toExit a' w')→c.wp P R a w:=by
 intro c
 induction c with
 |
  skip =>
  intro ac hc Q l bx fz pl a w h hT hS hm R hX hR
  simp only [BsQ] at hc;injection hc with hc;subst hc
  exact wp_skip (hR .normal _ _ _ _ _ _ h (.refl _) rfl hm hT hS rfl)
 |
  region id ops draw =>
  intro ac hc Q l bx fz pl a w h hT hS hm R hX hR
  simp only [BsQ] at hc
  split at hc
  · rename_i az hz
    split at hc
    · injection hc with hc;subst hc
      obtain ⟨l2,bx2,fz2,f1,f2,f3,h⟩:=preX_sound h hT hS
      refine wp_region ?_
      have:=opersX_sound (Q:=R) ops.toList 0 az (by simp) hz (Q .normal) l2 bx2 fz2 pl a w h f2 f3 (fun v l' bx' pl' fz' a' w' g1 g0 g2 g7 g5 g3 g4=>hX v l' bx' pl' fz' a' w' g1 g0 (f1.trans g2) (take_pre g7 hm).1 (take_pre g7 hm).2 g5 g3 g4)
       (fun l' bx' a' w' fz' pl' hq h1 h2 h3 h4 h5=>hR .normal _ _ _ _ _ _ hq (f1.trans h1) (take_pre h2 hm).1 (take_pre h2 hm).2 h3 h4 h5)
      rwa [List.range_eq_range',← Array.length_toList]
    · split at hc
      · rename_i hd
        injection hc with hc;subst hc
        obtain ⟨l2,bx2,fz2,f1,f2,f3,h⟩:=preX_sound h hT hS
        refine draw_sound hz hd h f2 f3 ?_
        intro l' bx' a' w' fz' pl' hq h1 h2 h3 h4 h5
        exact hR .normal _ _ _ _ _ _ hq (f1.trans h1) (take_pre h2 hm).1 (take_pre h2 hm).2 h3 h4 h5
      · cases hc
  · cases hc
 |
  seq x y ihx ihy =>
  intro ac hc Q l bx fz pl a w h hT hS hm R hX hR
  simp only [BsQ] at hc
  split at hc
  · rename_i x' y' hx hy
    injection hc with hc;subst hc
    refine wp_seq (ihx x' hx _ l bx fz pl a w h hT hS hm _ (fun v l' bx' pl' fz' a' w' g1 g0 g2 g7 g8 g5 g3 g4=>hX v l' bx' pl' fz' a' w' g1 g0 g2 g7 g8 g5 g3 g4) ?_)
    intro e l' bx' a' w' fz' pl' hq h1 h2 h3 h4 h5 h6
    cases e with
    |
     normal =>
     refine ihy y' hy Q l' bx' fz' pl' a' w' hq h4 h5 h3 R (fun v l2 bx2 pl2 fz2 a2 w2 g1 g0 g2 g7 g8 g5 g3 g4=>hX v l2 bx2 pl2 fz2 a2 w2 g1 g0 (h1.trans g2) (g7.trans h2) g8 g5 g3 (g4.trans h6)) ?_
     intro e l2 bx2 a2 w2 fz2 pl2 hq2 g1 g2 g3 g4 g5 g6
     exact hR e l2 bx2 a2 w2 fz2 pl2 hq2 (h1.trans g1) (g2.trans h2) g3 g4 g5 (g6.trans h6)
    | exit id=>exact hR (.exit id) l' bx' a' w' fz' pl' hq h1 h2 h3 h4 h5 h6
    | ret=>exact hR .ret l' bx' a' w' fz' pl' hq h1 h2 h3 h4 h5 h6
  · cases hc
 |
  cond cnd x y ihx ihy =>
  intro ac hc Q l bx fz pl a w h hT hS hm R hX hR
  simp only [BsQ] at hc
  split at hc
  · rename_i c' x' y' h1 hx hy
    injection hc with hc;subst hc
    have hRp:=AgQ hT h1
    simp only [awX] at h
    split at h
    · rename_i t ht
      rw [ht] at hRp
      refine wp_cond_split hRp.inv_bool ?_ ?_
      · intro htt;exact ihx x' hx Q l bx fz pl a w (by rwa [if_pos htt] at h) hT hS hm R hX hR
      · intro htt;exact ihy y' hy Q l bx fz pl a w (by rwa [if_neg (by simp [htt])] at h) hT hS hm R hX hR
    · exact h.elim
  · cases hc
 |
  block id c ih =>
  intro ac hc Q l bx fz pl a w h hT hS hm R hX hR
  simp only [BsQ] at hc
  rw [Option.map_eq_some_iff] at hc
  obtain ⟨c',h1,rfl⟩:=hc
  refine wp_block (ih c' h1 _ l bx fz pl a w h hT hS hm _ (fun v l' bx' pl' fz' a' w' g1 g0 g2 g7 g8 g5 g3 g4=>hX v l' bx' pl' fz' a' w' g1 g0 g2 g7 g8 g5 g3 g4) ?_)
  intro e l' bx' a' w' fz' pl' hq g1 g2 g3 g4 g5 g6
  cases e with
  | normal=>exact hR .normal _ _ _ _ _ _ hq g1 g2 g3 g4 g5 g6
  | ret=>exact hR .ret _ _ _ _ _ _ hq g1 g2 g3 g4 g5 g6
  |
   exit i =>
   simp only [blockQ] at hq
   simp only [AExit.toExit,Exit.inBlock]
   by_cases hi:i=id
   · subst hi
     simp only [decide_true] at hq
     rw [if_pos rfl]
     exact hR .normal _ _ _ _ _ _ hq g1 g2 g3 g4 g5 g6
   · simp only [hi,decide_false] at hq
     rw [if_neg hi]
     exact hR (.exit i) _ _ _ _ _ _ hq g1 g2 g3 g4 g5 g6
 |
  loop c ih =>
  intro ac hc Q l bx fz pl a w h hT hS hm R hX hR
  simp only [BsQ] at hc
  rw [Option.map_eq_some_iff] at hc
  obtain ⟨c',h1,rfl⟩:=hc
  simp only [awX] at h
  obtain ⟨zs,h⟩:=h
  obtain ⟨l2,bx2,fz2,f1,T2,S2,h⟩:=frzSs_sound zs h hT hS
  have hR:=fun e l' bx' a' w' fz' pl' hq (g1:FzLe fz2 fz')=>hR e l' bx' a' w' fz' pl' hq (f1.trans g1)
  have hX:=fun v l' bx' pl' fz' a' w' hq g0 (g1:FzLe fz2 fz')=>hX v l' bx' pl' fz' a' w' hq g0 (f1.trans g1)
  obtain ⟨E,hEW,fs,ts,β,J,S,B,μ,b0,hfs,hts,hJ,hE,hround⟩:=h
  obtain ⟨plf,fS,fpre⟩:=virtF_sound fs hfs S2
  have fT:RepT fz2 plf l2 a:=⟨T2.1,fun u=>(T2.2 u).mono (.refl _) fpre⟩
  have fm:m≤plf.length:=Nat.le_trans hm fpre.length_le
  obtain ⟨plv,v1,v2,v3,v4⟩:=virt_sound ts hts fT fS fm
  have v3:plv.take m=pl.take m:=by
   rw [v3]
   exact (take_pre fpre hm).1
  let At:β→Act→World→Prop:=fun b a' w'=>J b∧∃ fz1 pl1,FzLe fz2 fz1∧pl1.take m=pl.take m∧m≤pl1.length∧RepT fz1 pl1 (S b) a'∧Sim w0 pr fz1 pl1 (B b) w'∧a'.defers=a.defers
  let I:Act→World→Prop:=fun a' w'=>∃ b,At b a' w'
  have hex:∀ a' w',I a' w'→∃ n,∃ b,At b a' w'∧μ b=n:=fun a' w' ⟨b,hb⟩=>⟨_,b,hb,rfl⟩
  let μ':Act→World→Nat:=fun a' w'=>if h:∃ n,∃ b,At b a' w'∧μ b=n then least h else 0
  obtain ⟨pl0,s1,s2,s3,s4⟩:=(hEW _ _ _ _ _ hE).sound v2 v1 v4
  have s3:=s3.trans v3
  refine wp_loop I μ' ⟨b0,hJ,fz2,pl0,.refl _,s3,s4,s2,s1,rfl⟩ ?_
  intro a1 w1 hI
  have hx:=hex a1 w1 hI
  have hspec:=least_spec hx
  obtain ⟨b,hAt,hb⟩:=hspec
  have hμ:μ' a1 w1=μ b:=by
   show (if h:∃ n,∃ b,At b a1 w1∧μ b=n then least h else 0)=μ b
   rw [dif_pos hx,hb]
  obtain ⟨hJb,fz1,pl1,q1,q2,q3,q4,q5,q6⟩:=hAt
  refine ih c' h1 _ (S b) (B b) fz1 pl1 a1 w1 (hround b hJb) q4 q5 q3 _ (fun v l' bx' pl' fz' a' w' g1 g0 g2 g7 g8 g5 g3 g4=>hX v l' bx' pl' fz' a' w' g1 g0 (q1.trans g2) (g7.trans q2) g8 g5 g3 (g4.trans q6)) ?_
  intro e l' bx' a' w' fz' pl' hq g1 g2 g3 g4 g5 g6
  cases e with
  |
   normal =>
   obtain ⟨b',hJ',hlt,hE'⟩:=hq
   obtain ⟨pl2,r1,r2,r3,r4⟩:=(hEW _ _ _ _ _ hE').sound g5 g4 g3
   have hAt':At b' a' w':=⟨hJ',fz',pl2,q1.trans g1,(r3.trans g2).trans q2,r4,r2,r1,g6.trans q6⟩
   refine ⟨⟨b',hAt'⟩,?_⟩
   rw [hμ]
   have hx':=hex a' w' ⟨b',hAt'⟩
   show (if h:∃ n,∃ b,At b a' w'∧μ b=n then least h else 0)<μ b
   rw [dif_pos hx']
   exact Nat.lt_of_le_of_lt (least_min hx' ⟨b',hAt',rfl⟩) hlt
  | exit i=>exact hR (.exit i) _ _ _ _ _ _ hq (q1.trans g1) (g2.trans q2) g3 g4 g5 (g6.trans q6)
  | ret=>exact hR .ret _ _ _ _ _ _ hq (q1.trans g1) (g2.trans q2) g3 g4 g5 (g6.trans q6)
 |
  exit id =>
  intro ac hc Q l bx fz pl a w h hT hS hm R hX hR
  simp only [BsQ] at hc;injection hc with hc;subst hc
  exact wp_exit (hR (.exit id) _ _ _ _ _ _ h (.refl _) rfl hm hT hS rfl)
 |
  ret =>
  intro ac hc Q l bx fz pl a w h hT hS hm R hX hR
  simp only [BsQ] at hc;injection hc with hc;subst hc
  exact wp_ret (hR .ret _ _ _ _ _ _ h (.refl _) rfl hm hT hS rfl)
 |
  _ =>
  intro ac hc
  simp [BsQ] at hc
theorem call_thr {mt:FuncId→Nat} {f:FuncId} {fn:Func} {af:AFunc} (hf:P.funcs[f]? = some fn) (hcf:∀ (xs:Array Value) (w:World),(callFunc f xs).run P w=.ok (.enter f xs) w) (hc:AgY P mt fn=some af)
 {args:List AV} {bs:Bx} {Φ:Value→Prop} (h:awX P ⟨Φ,fun _ _=>True⟩ 0 af.body nowhere (args++List.replicate (af.ntmps-args.length) .any) bs):Thr P f args bs Φ:=by
 refine ⟨hcf,?_⟩
 intro w0 pr fz pl w cs hS hl hA
 unfold AgY at hc
 split at hc
 · rename_i ac rz hb hres
   injection hc with hc;subst hc
   rw [Option.bind_eq_some_iff] at hb
   obtain ⟨c,hbody,hcc⟩:=hb
   refine calls_of_wp hf hbody (awX_sound c ac hcc _ _ _ fz pl _ w h (BpY hl hA fn.ntmps) hS (Nat.zero_le _) _ ?_ ?_)
   · intro v l' bx' pl' fz' a' w' g1 g0 g2 g7 g8 g5 g3 g4
     exact ⟨g4,v,fz',rfl,g1,g2,g3.drop⟩
   · intro e l' bx' a' w' fz' pl' hq
     exact hq.elim
 · cases hc
theorem AbZ {fid:FuncId} {args' args:List AV} {l:List AV} {bx bs:Bx} (ix:List Nat) (hc:Thr P fid args' bs Y.Φ) (hn:ix.Nodup) (hE:embB bs.length ix bx ix bs)
 (ho:args'.all (okR bs.length)=true) (hw:wkL (args'.map (ren ix)) args) (hX:Y.X l (killT ix bx)):ThrC P Y (.fn (.func fid) []) args l bx :=
 ⟨fid,args,ix,args',bs,.inl ⟨[],rfl,(List.append_nil _).symm⟩,hc,hE,hn,ho,hw,hX⟩
end
end Go.Proofs.YtcmphhedaefcgaaGreatDoor.Av
end
