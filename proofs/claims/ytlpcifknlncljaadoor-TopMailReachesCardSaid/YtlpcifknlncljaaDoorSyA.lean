/- The symbolic evaluator: a part of it; generic over programs. Conditions: none. -/
import Derived.Below
import Derived.Orders
import Derived.KernelRfl
import Derived.Laws.Cells
import Derived.RangeFuncRecord
import Derived.RangeFuncCalls
import Derived.OrdersIn
import Derived.TacticsIn
namespace Go.Sx
open Go.RowKit (Below)
inductive SV where
 | raw (v:Value)
 | loc (b off:Nat)
 | slc (b off len cap:Nat)
 | rp (v:Value) (off:Nat)
 | agg (l:List SV)
 | tup (l:List SV)
 | clo (f:FuncId) (first caps:List SV)
 | ifc (t:TypeId) (v:SV)
 /-- a method's value, of what stands behind an interface -/
 | mth (name:String) (v:SV)
 /-- a map, or a map's iterator -/
 | mp (it:Bool) (b:Nat)
abbrev Env:=List (Option Addr)
def locDen (ρ:Env) (b off:Nat):Option Value:=
 match ρ[b]? with
 | some (some a)=>if a.spot=none then some (.pointer (some (a.add off))) else none
 | _=>none
def mpDen (ρ:Env) (it:Bool) (b:Nat):Option Value:=
 match ρ[b]? with
 | some (some a)=>if a.spot=some (cond it 1 0) then some (cond it (.pointer (some ⟨a.block,0,none⟩)) (.map (some a.block))) else none
 | _=>none
def slcDen (ρ:Env) (b off len cap:Nat):Option Value:=
 match ρ[b]? with
 | some (some a)=>if a.spot=none then some (.slice (some (a.add off)) len cap) else none
 | some none=>if off=0/\len=0/\cap=0 then some (.slice none 0 0) else none
 | none=>none
def rpDen (v:Value) (off:Nat):Option Value:=
 match v with
 | .slice (some a) _ _=>if a.spot=none then some (.pointer (some (a.add off))) else none
 | _=>none
mutual
def SV.den (ρ:Env):SV->Option Value
 | .raw v=>some v
 | .loc b off=>locDen ρ b off
 | .slc b off len cap=>slcDen ρ b off len cap
 | .rp v off=>rpDen v off
 | .agg l=>(SV.denL ρ l).map fun vs=>.agg vs.toArray
 | .tup l=>(SV.denL ρ l).map fun vs=>.tuple vs.toArray
 | .clo f m l=>match SV.denL ρ m,SV.denL ρ l with
  | some us,some vs=>some (.func (.func f) us.toArray vs.toArray)
  | _,_=>none
 | .ifc t v=>(SV.den ρ v).map fun x=>.iface t x
 | .mth n v=>(SV.den ρ v).map fun x=>.func (.method n) #[x] #[]
 | .mp it b=>mpDen ρ it b
def SV.denL (ρ:Env):List SV->Option (List Value)
 | []=>some []
 | x::l=>match SV.den ρ x,SV.denL ρ l with
  | some v,some vs=>some (v::vs)
  | _,_=>none
end
theorem get_prefix {α:Type} {l m:List α} (h:l<+:m) {i:Nat} {x:α} (hx:l[i]? =some x):m[i]? =some x:=by
 obtain ⟨t,rfl⟩:=h
 have :i<l.length:=by
  rcases Nat.lt_or_ge i l.length with h'|h'
  ·exact h'
  ·simp [List.getElem?_eq_none h'] at hx
 rw [List.getElem?_append_left this];exact hx
theorem locDen_mono {ρ ρ':Env} (h:ρ<+:ρ') {b off:Nat} {v:Value} (hv:locDen ρ b off=some v):locDen ρ' b off=some v:=by
 unfold locDen at *
 split at hv
 ·rename_i a ha;rw [get_prefix h ha];exact hv
 ·cases hv
theorem mpDen_mono {ρ ρ':Env} (h:ρ<+:ρ') {it:Bool} {b:Nat} {v:Value} (hv:mpDen ρ it b=some v):mpDen ρ' it b=some v:=by
 unfold mpDen at *
 split at hv
 ·rename_i a ha;rw [get_prefix h ha];exact hv
 ·cases hv
theorem slcDen_mono {ρ ρ':Env} (h:ρ<+:ρ') {b off len cap:Nat} {v:Value} (hv:slcDen ρ b off len cap=some v):slcDen ρ' b off len cap=some v:=by
 unfold slcDen at *
 split at hv
 ·rename_i a ha;rw [get_prefix h ha];exact hv
 ·rename_i ha;rw [get_prefix h ha];exact hv
 ·cases hv
mutual
theorem SV.den_mono {ρ ρ':Env} (h:ρ<+:ρ'):∀ (s:SV) {v:Value},s.den ρ=some v->s.den ρ'=some v
 | .raw v,_,e=>by simpa [SV.den] using e
 | .loc b off,_,e=>by simp only [SV.den] at *;exact locDen_mono h e
 | .slc b off len cap,_,e=>by simp only [SV.den] at *;exact slcDen_mono h e
 | .rp v off,_,e=>by simpa [SV.den] using e
 | .agg l,_,e=>by
  simp only [SV.den,Option.map_eq_some_iff] at *
  obtain ⟨vs,h1,h2⟩:=e;exact ⟨vs,SV.denL_mono h l h1,h2⟩
 | .tup l,_,e=>by
  simp only [SV.den,Option.map_eq_some_iff] at *
  obtain ⟨vs,h1,h2⟩:=e;exact ⟨vs,SV.denL_mono h l h1,h2⟩
 | .clo f m l,_,e=>by
  simp only [SV.den] at e
  split at e
  ·rename_i us vs h1 h2
   simp only [SV.den,SV.denL_mono h m h1,SV.denL_mono h l h2];exact e
  ·cases e
 | .ifc t x,_,e=>by
  simp only [SV.den,Option.map_eq_some_iff] at *
  obtain ⟨vs,h1,h2⟩:=e;exact ⟨vs,SV.den_mono h x h1,h2⟩
 | .mth t x,_,e=>by
  simp only [SV.den,Option.map_eq_some_iff] at *
  obtain ⟨vs,h1,h2⟩:=e;exact ⟨vs,SV.den_mono h x h1,h2⟩
 | .mp it b,_,e=>by simp only [SV.den] at *;exact mpDen_mono h e
theorem SV.denL_mono {ρ ρ':Env} (h:ρ<+:ρ'):∀ (l:List SV) {vs:List Value},SV.denL ρ l=some vs->SV.denL ρ' l=some vs
 | [],_,e=>by simpa [SV.denL] using e
 | x::l,vs,e=>by
  simp only [SV.denL] at e
  split at e
  ·rename_i v ws h1 h2
   simp only [SV.denL,SV.den_mono h x h1,SV.denL_mono h l h2];exact e
  ·cases e
end
theorem denL_length {ρ:Env}:∀ {l:List SV} {vs:List Value},SV.denL ρ l=some vs->vs.length=l.length
 | [],_,e=>by simp only [SV.denL,Option.some.injEq] at e;subst e;rfl
 | x::l,_,e=>by
  simp only [SV.denL] at e
  split at e
  ·rename_i v ws h1 h2
   simp only [Option.some.injEq] at e;subst e
   simp [denL_length h2]
  ·cases e
theorem denL_get {ρ:Env}:∀ {l:List SV} {vs:List Value},SV.denL ρ l=some vs->∀ {i:Nat} {s:SV},l[i]? =some s->∃ v,vs[i]? =some v/\s.den ρ=some v
 | [],_,_,_,_,h=>by simp at h
 | x::l,_,e,i,s,h=>by
  simp only [SV.denL] at e
  split at e
  ·rename_i v ws h1 h2
   simp only [Option.some.injEq] at e;subst e
   cases i with
   | zero=>simp at h;subst h;exact ⟨v,by simp,h1⟩
   | succ i=>simp at h ⊢;exact denL_get h2 h
  ·cases e
theorem denL_get' {ρ:Env} {l:List SV} {vs:List Value} (e:SV.denL ρ l=some vs) {i:Nat} {v:Value} (h:vs[i]? =some v):∃ s,l[i]? =some s/\s.den ρ=some v:=by
 have hl:=denL_length e
 have hi:i<l.length:=by
  rcases Nat.lt_or_ge i vs.length with h'|h'
  ·omega
  ·simp [List.getElem?_eq_none h'] at h
 obtain ⟨v',h1,h2⟩:=denL_get e (List.getElem?_eq_getElem hi)
 rw [h1] at h;cases h
 exact ⟨_,List.getElem?_eq_getElem hi,h2⟩
theorem denL_append {ρ:Env}:∀ {l m:List SV} {vs ws:List Value},SV.denL ρ l=some vs->SV.denL ρ m=some ws->SV.denL ρ (l++m)=some (vs++ws)
 | [],m,_,_,e,e'=>by simp only [SV.denL,Option.some.injEq] at e;subst e;simpa using e'
 | x::l,m,_,_,e,e'=>by
  simp only [SV.denL] at e
  split at e
  ·rename_i v us h1 h2
   simp only [Option.some.injEq] at e;subst e
   simp only [List.cons_append,SV.denL,h1,denL_append h2 e']
  ·cases e
theorem denL_raw {ρ:Env}:∀ (vs:List Value),SV.denL ρ (vs.map .raw)=some vs
 | []=>by simp [SV.denL]
 | v::vs=>by simp [SV.denL,SV.den,denL_raw vs]
theorem denL_take {ρ:Env}:∀ {l:List SV} {vs:List Value},SV.denL ρ l=some vs->∀ n,SV.denL ρ (l.take n)=some (vs.take n)
 | _,_,_,0=>by simp [SV.denL]
 | [],_,e,n+1=>by simp only [SV.denL,Option.some.injEq] at e;subst e;simp [SV.denL]
 | x::l,_,e,n+1=>by
  simp only [SV.denL] at e
  split at e
  ·rename_i v us h1 h2
   simp only [Option.some.injEq] at e;subst e
   simp only [List.take_succ_cons,SV.denL,h1,denL_take h2 n]
  ·cases e
theorem denL_drop {ρ:Env}:∀ {l:List SV} {vs:List Value},SV.denL ρ l=some vs->∀ n,SV.denL ρ (l.drop n)=some (vs.drop n)
 | _,_,e,0=>by simpa using e
 | [],_,e,n+1=>by simp only [SV.denL,Option.some.injEq] at e;subst e;simp [SV.denL]
 | x::l,_,e,n+1=>by
  simp only [SV.denL] at e
  split at e
  ·rename_i v us h1 h2
   simp only [Option.some.injEq] at e;subst e
   simpa using denL_drop h2 n
  ·cases e
theorem denL_set {ρ:Env}:∀ {l:List SV} {vs:List Value},SV.denL ρ l=some vs->∀ (i:Nat) {s:SV} {v:Value},s.den ρ=some v->SV.denL ρ (l.set i s)=some (vs.set i v)
 | [],_,e,i,_,_,_=>by simp only [SV.denL,Option.some.injEq] at e;subst e;simp [SV.denL]
 | x::l,_,e,i,s,v,hs=>by
  simp only [SV.denL] at e
  split at e
  ·rename_i u us h1 h2
   simp only [Option.some.injEq] at e;subst e
   cases i with
   | zero=>simp only [List.set_cons_zero,SV.denL,hs,h2]
   | succ i=>simp only [List.set_cons_succ,SV.denL,h1,denL_set h2 i hs]
  ·cases e
abbrev Mem:=Value->List Value->Prop
def Mem.le (E F:Mem):Prop:=∀ v cs,E v cs->F v cs
theorem Mem.le_refl (E:Mem):Mem.le E E:=fun _ _ h=>h
theorem Mem.le_trans {E F G:Mem} (h:Mem.le E F) (k:Mem.le F G):Mem.le E G:=fun _ _ x=>k _ _ (h _ _ x)
def blk:Value->Option Nat
 | .slice (some a) _ _=>some a.block
 | _=>none
def RowAt (w:World) (v:Value) (cs:List Value):Prop:=
 cs=[]\/∃ a len cap,v= .slice (some a) len cap/\a.spot=none/\∀ i x,cs[i]? =some x->w.cell? ⟨a.block,a.off+i,none⟩=some x
def Hold (E:Mem) (w:World):Prop:=∀ v cs,E v cs->RowAt w v cs
theorem cell_lt {w:World} {a:Addr} {x:Value} (h:w.cell? a=some x):a.block<w.heap.size:=by
 unfold World.cell? at h
 rcases Nat.lt_or_ge a.block w.heap.size with h'|h'
 ·exact h'
 ·simp [Array.getElem?_eq_none h'] at h
theorem cell_of_block {w w':World} {a:Addr} (h:w'.heap[a.block]? =w.heap[a.block]?):w'.cell? a=w.cell? a:=by
 unfold World.cell?;rw [h]
theorem RowAt.lt {w:World} {v:Value} {cs:List Value} (h:RowAt w v cs) (hne:cs≠[]):∃ b,blk v=some b/\b<w.heap.size:=by
 rcases h with h|⟨a,len,cap,rfl,_,h⟩
 ·exact absurd h hne
 ·cases cs with
  | nil=>exact absurd rfl hne
  | cons x cs=>exact ⟨a.block,rfl,cell_lt (a:=⟨a.block,a.off+0,none⟩) (h 0 x rfl)⟩
theorem RowAt.of_block {w w':World} {v:Value} {cs:List Value} (h:RowAt w v cs) (hb:∀ b,cs≠[]->blk v=some b->w'.heap[b]? =w.heap[b]?):RowAt w' v cs:=by
 rcases h with h|⟨a,len,cap,rfl,hs,h⟩
 ·exact .inl h
 ·by_cases hne:cs=[]
  ·exact .inl hne
  ·exact .inr ⟨a,len,cap,rfl,hs,fun i x hx=>by rw [cell_of_block (a:=⟨a.block,a.off+i,none⟩) (hb a.block hne rfl)];exact h i x hx⟩
inductive Row where
 | lst (l:List SV)
 | vals (l:List Value)
def Row.cells:Row->List SV
 | .lst l=>l
 | .vals l=>l.map .raw
structure Box where
 elem:TypeId
 row:Row
 total:Nat
 own:Bool
def Box.cells (b:Box):List SV:=b.row.cells
def Box.live (b:Box):Bool:=b.own|| !b.cells.isEmpty
structure St where
 fr:List (Option SV)
 bx:List Box
 E:Mem
def mapEs:List Value->Nat->List MapEntry
 | k::v::l,n=>⟨k,v,n⟩::mapEs l (n+1)
 | _,_=>[]
def mapObj (cs:List Value):Obj:=.map (mapEs cs 0).toArray (cs.length / 2)
def asNat:Value->Nat
 | .int _ n=>n.toNat
 | _=>0
def refOf:Value->Option Nat
 | .map r=>r
 | _=>none
def itObj:List Value->Obj
 | m::s::l=>.mapIter (refOf m) (asNat s) (l.map asNat).toArray (asNat s)
 | _=>.mapIter none 0 #[] 0
def objS (sp:Option Nat) (cs:List Value):Obj:=if sp=some 0 then mapObj cs else itObj cs
def RowAtB (w:World) (ρ:Env) (a:Addr) (b:Box):Prop:=
 ∃ vs,SV.denL ρ b.cells=some vs/\
   if b.own=true then a.off=0/\∃ junk:List Value,w.heap[a.block]? =some (.cells (vs++junk).toArray b.elem (0,0))/\(vs++junk).length=b.total
   else ∀ i x,vs[i]? =some x->w.cell? ⟨a.block,a.off+i,none⟩=some x
def MAPE:TypeId:=4294967297
def MapAtB (w:World) (ρ:Env) (a:Addr) (b:Box):Prop:=
 ∃ vs,SV.denL ρ b.cells=some vs/\(b.live=true->a.block<w.heap.size)/\
  (b.own=true->a.off=0/\w.heap[a.block]? =some (objS a.spot vs)/\vs.length=b.total/\b.elem=MAPE)/\(b.own=false->b.cells=[])
def BoxAt (w:World) (ρ:Env) (oa:Option Addr) (b:Box):Prop:=
 match oa with
 | none=>b.cells=[]/\b.total=0
 | some a=>(a.spot=none/\RowAtB w ρ a b)\/(a.spot≠none/\MapAtB w ρ a b)
theorem BoxAt.vals {w:World} {ρ:Env} {a:Addr} {b:Box} (h:BoxAt w ρ (some a) b):∃ vs,SV.denL ρ b.cells=some vs:=by
 rcases h with ⟨_,vs,h,_⟩|⟨_,vs,h,_⟩<;>exact ⟨vs,h⟩
theorem BoxAt.isRow {w:World} {ρ:Env} {a:Addr} {b:Box} (h:BoxAt w ρ (some a) b) (hs:a.spot=none):a.spot=none/\RowAtB w ρ a b:=by
 rcases h with h|⟨h1,_⟩
 ·exact h
 ·exact absurd hs h1
theorem BoxAt.isMap {w:World} {ρ:Env} {a:Addr} {b:Box} (h:BoxAt w ρ (some a) b) (hs:a.spot≠none):MapAtB w ρ a b:=by
 rcases h with ⟨h1,_⟩|⟨_,h⟩
 ·exact absurd h1 hs
 ·exact h
structure Keep (mu:List Nat) (w0 w:World):Prop where
 os:w.os=w0.os
 tape:w.tape=w0.tape
 output:w.output=w0.output
 size:w0.heap.size<=w.heap.size
 block:∀ k,k<w0.heap.size->k ∉ mu->w.heap[k]? =w0.heap[k]?
theorem Keep.refl (mu:List Nat) (w:World):Keep mu w w:=⟨rfl,rfl,rfl,Nat.le_refl _,fun _ _ _=>rfl⟩
theorem Keep.trans {mu:List Nat} {a b c:World} (h:Keep mu a b) (k:Keep mu b c):Keep mu a c:=
 ⟨k.os.trans h.os,k.tape.trans h.tape,k.output.trans h.output,Nat.le_trans h.size k.size,fun i hi hm=>(k.block i (Nat.lt_of_lt_of_le hi h.size) hm).trans (h.block i hi hm)⟩
theorem Keep.below {w w':World} (h:Keep [] w w'):Below w.heap.size w w':=
 ⟨h.os,h.tape,h.output,h.size,fun k hk=>h.block k hk (by simp)⟩
theorem Keep.drew (mu:List Nat) (w:World) (n:Nat):Keep mu w { w with drawn:=n }:=⟨rfl,rfl,rfl,Nat.le_refl _,fun _ _ _=>rfl⟩
structure Rc0 where
 l:Nat
 r:Loop
 ρ:Env
structure Rc where
 l:Nat
 r:Loop
 /-- where the boxes lay that the loop's frame names -/
 ρ:Env
 /-- what must hold where a round has returned -/
 q:List Box->Mem->Prop
 /-- the loop whose round this loop stands in -/
 up:Option Rc0:=none
def Rc.base (c:Rc):Rc0:=⟨c.l,c.r,c.ρ⟩
def Rc.stop (c:Rc):Loop:={ c.r with state:=.done,pending:=some .ret }
structure Fm where
 mu:List Nat
 E0:Mem
 /-- the record of the loop whose rounds a call of yield runs -/
 om:Option Rc:=none
 /-- the activation's marks -/
 ds:List Deferred:=[]
def okP (w0:World) (mu:Fm) (c:Rc):Prop:=∀ p,c.up=some p->(w0.heap[p.l]? =some (.loop p.r)/\(p.r.state= .ready/\p.r.pending=none)/\p.l ∉ mu.mu)/\p.l≠c.l/\p.ρ<+:c.ρ
def okO (w0:World) (mu:Fm):Prop:=match mu.om with
 | none=>True
 | some c=>w0.heap[c.l]? =some (.loop c.r)/\(c.r.state= .ready/\c.r.pending=none)/\c.l ∉ mu.mu/\okP w0 mu c
structure Rel (w0:World) (mu:Fm) (bx:List Box) (E:Mem) (ρ:Env) (w:World):Prop where
 keep:Keep mu.mu w0 w
 len:ρ.length=bx.length
 box:∀ (i:Nat) (b:Box) oa,bx[i]? =some b->ρ[i]? =some oa->BoxAt w ρ oa b
 sep:∀ (i:Nat) (b:Box) a,bx[i]? =some b->b.own=true->ρ[i]? =some (some a)->
  (w0.heap.size<=a.block\/a.block∈mu.mu)/\
  (∀ (j:Nat) b' a',j≠i->bx[j]? =some b'->b'.live=true->ρ[j]? =some (some a')->a'.block≠a.block)/\
  (∀ v cs,E v cs->cs≠[]->blk v≠some a.block)
 hold:Hold E w
 bsrc:∀ (i:Nat) (b:Box) a,bx[i]? =some b->b.live=true->ρ[i]? =some (some a)->w0.heap.size<=a.block\/a.block∈mu.mu
 src:∀ v cs,E v cs->cs≠[]->(∃ b,blk v=some b/\(w0.heap.size<=b\/b∈mu.mu))\/∃ v0 cs0,mu.E0 v0 cs0/\cs0≠[]/\blk v=blk v0
def FrRel (ρ:Env) (fr:List (Option SV)) (tmps:Array Value):Prop:=
 fr.length=tmps.size/\∀ (i:Nat) s,fr[i]? =some (some s)->∃ v,tmps[i]? =some v/\s.den ρ=some v
theorem FrRel.mono {ρ ρ':Env} {fr:List (Option SV)} {tmps:Array Value} (h:FrRel ρ fr tmps) (hp:ρ<+:ρ'):FrRel ρ' fr tmps:=
 ⟨h.1,fun i s hs=>let ⟨v,h1,h2⟩:=h.2 i s hs;⟨v,h1,SV.den_mono hp s h2⟩⟩
theorem FrRel.set {ρ:Env} {fr:List (Option SV)} {tmps:Array Value} (h:FrRel ρ fr tmps) (d:Nat) {s:SV} {v:Value} (hv:s.den ρ=some v):
  FrRel ρ (fr.set d (some s)) (tmps.setIfInBounds d v):=by
 refine ⟨by simp [h.1],fun i t ht=>?_⟩
 by_cases hid:d=i
 ·subst hid
  rw [List.getElem?_set_self'] at ht
  cases hf:fr[d]? with
  | none=>simp [hf] at ht
  | some o=>
   simp [hf] at ht;subst ht
   have hlt:d<tmps.size:=by
    rw [← h.1]
    rcases Nat.lt_or_ge d fr.length with h'|h'
    ·exact h'
    ·simp [List.getElem?_eq_none h'] at hf
   exact ⟨v,by simp [hlt],hv⟩
 ·rw [List.getElem?_set_ne hid] at ht
  obtain ⟨u,h1,h2⟩:=h.2 i t ht
  exact ⟨u,by rw [Array.getElem?_setIfInBounds_ne hid];exact h1,h2⟩
theorem BoxAt.mono {w:World} {ρ ρ':Env} (hp:ρ<+:ρ') {oa:Option Addr} {b:Box} (h:BoxAt w ρ oa b):BoxAt w ρ' oa b:=by
 cases oa with
 | none=>exact h
 | some a=>
  rcases h with ⟨h1,vs,h2,h3⟩|⟨h1,vs,h2,h3⟩
  ·exact .inl ⟨h1,vs,SV.denL_mono hp _ h2,h3⟩
  ·exact .inr ⟨h1,vs,SV.denL_mono hp _ h2,h3⟩
theorem BoxAt.lt {w:World} {ρ:Env} {a:Addr} {b:Box} (h:BoxAt w ρ (some a) b) (hl:b.live=true):a.block<w.heap.size:=by
 rcases h with ⟨_,vs,h2,h3⟩|⟨_,vs,h2,h3,_⟩
 case inr=>exact h3 hl
 by_cases ho:b.own=true
 ·rw [if_pos ho] at h3
  obtain ⟨_,junk,hj,_⟩:=h3
  rcases Nat.lt_or_ge a.block w.heap.size with h'|h'
  ·exact h'
  ·simp [Array.getElem?_eq_none h'] at hj
 ·rw [if_neg ho] at h3
  have :b.cells≠[]:=by
   intro e
   simp [Box.live,e] at hl
   exact ho hl
  have hlen:=denL_length h2
  cases vs with
  | nil=>
   simp at hlen
   exact absurd (List.eq_nil_of_length_eq_zero hlen.symm) this
  | cons x vs=>exact cell_lt (a:=⟨a.block,a.off+0,none⟩) (h3 0 x rfl)
theorem BoxAt.of_block {w w':World} {ρ:Env} {oa:Option Addr} {b:Box} (h:BoxAt w ρ oa b) (hb:∀ a,oa=some a->b.live=true->w'.heap[a.block]? =w.heap[a.block]?):BoxAt w' ρ oa b:=by
 cases oa with
 | none=>exact h
 | some a=>
  rcases h with ⟨h1,vs,h2,h3⟩|⟨h1,vs,h2,h3,h4,h5⟩
  case inr=>
   refine .inr ⟨h1,vs,h2,fun hl=>?_,fun ho=>?_,h5⟩
   ·have:=hb a rfl hl
    rcases Nat.lt_or_ge a.block w'.heap.size with h'|h'
    ·exact h'
    ·rw [Array.getElem?_eq_none h',Array.getElem?_eq_getElem (h3 hl)] at this;cases this
   ·obtain ⟨h5,h6,h7⟩:=h4 ho
    exact ⟨h5,by rw [hb a rfl (by simp [Box.live,ho])];exact h6,h7⟩
  refine .inl ⟨h1,vs,h2,?_⟩
  by_cases ho:b.own=true
  ·rw [if_pos ho] at h3 ⊢
   obtain ⟨h4,junk,hj,hk⟩:=h3
   exact ⟨h4,junk,by rw [hb a rfl (by simp [Box.live,ho])];exact hj,hk⟩
  ·rw [if_neg ho] at h3 ⊢
   intro i x hx
   have hlive:b.live=true:=by
    simp only [Box.live,Bool.or_eq_true]
    right
    have hlen:=denL_length h2
    cases hc:b.cells with
    | nil=>rw [hc] at hlen;simp at hlen;subst hlen;simp at hx
    | cons=>rfl
   rw [cell_of_block (a:=⟨a.block,a.off+i,none⟩) (hb a rfl hlive)]
   exact h3 i x hx
theorem BoxAt.dead' {w:World} {ρ ρ':Env} {a:Addr} {b y:Box} (h:BoxAt w ρ (some a) b) (h1:y.cells=[]) (h2:y.own=false):BoxAt w ρ' (some a) y:=by
 have hl:y.live=false:=by simp [Box.live,h1,h2]
 rcases h with ⟨hs,_⟩|⟨hs,_⟩
 ·exact .inl ⟨hs,[],by rw [h1];rfl,by simp [h2]⟩
 ·exact .inr ⟨hs,[],by rw [h1];rfl,by simp [hl],by simp [h2],fun _=>h1⟩
theorem Rel.grow {w0:World} {mu:Fm} {bx:List Box} {E:Mem} {ρ:Env} {w w':World} (h:Rel w0 mu bx E ρ w) (hb:Keep [] w w'):Rel w0 mu bx E ρ w' where
 keep:=h.keep.trans ⟨hb.os,hb.tape,hb.output,hb.size,fun k hk _=>hb.block k hk (by simp)⟩
 len:=h.len
 box i b oa h1 h2:=(h.box i b oa h1 h2).of_block fun a ha hl=>hb.block _ (by subst ha;exact (h.box i b _ h1 h2).lt hl) (by simp)
 sep:=h.sep
 hold v cs hE:=(h.hold v cs hE).of_block fun b hne hb'=>by
  obtain ⟨b2,h1,h2⟩:=(h.hold v cs hE).lt hne
  rw [hb'] at h1;cases h1
  exact hb.block _ h2 (by simp)
 bsrc:=h.bsrc
 src:=h.src
theorem Rel.drew {w0:World} {mu:Fm} {bx:List Box} {E:Mem} {ρ:Env} {w:World} (h:Rel w0 mu bx E ρ w) (n:Nat):Rel w0 mu bx E ρ { w with drawn:=n }:=h.grow (Keep.drew [] w n)
theorem heap_alloc_old (w:World) (o:Obj) (k:Nat) (h:k<w.heap.size):(w.alloc o).heap[k]? =w.heap[k]?:=by
 show (w.heap.push o)[k]? =_
 rw [Array.getElem?_push,if_neg (by omega)]
theorem heap_alloc_new (w:World) (o:Obj):(w.alloc o).heap[w.heap.size]? =some o:=by
 show (w.heap.push o)[w.heap.size]? =_
 simp
theorem Keep.alloc (mu:List Nat) (w:World) (o:Obj):Keep mu w (w.alloc o):=
 ⟨rfl,rfl,rfl,by simp,fun k hk _=>heap_alloc_old w o k hk⟩
theorem Rel.alloc {w0:World} {mu:Fm} {bx:List Box} {E:Mem} {ρ:Env} {w:World} (h:Rel w0 mu bx E ρ w) (T:TypeId) (r:Row) (vs junk:List Value) (n:Nat) (hv:SV.denL ρ r.cells=some vs) (hn:(vs++junk).length=n):
  Rel w0 mu (bx++[⟨T,r,n,true⟩]) E (ρ++[some ⟨w.heap.size,0,none⟩]) (w.alloc (.cells (vs++junk).toArray T)):=by
 have hg:=h.grow (Keep.alloc [] w (.cells (vs++junk).toArray T))
 have hp:ρ<+:ρ++[some ⟨w.heap.size,0,none⟩]:=List.prefix_append _ _
 have hlen:=h.len
 refine ⟨hg.keep,by simp [hlen],?_,?_,hg.hold,?_,h.src⟩
 ·intro i b oa h1 h2
  by_cases hi:i<bx.length
  ·rw [List.getElem?_append_left hi] at h1
   rw [List.getElem?_append_left (by omega)] at h2
   exact (hg.box i b oa h1 h2).mono hp
  ·have hi':i=bx.length:=by
    have :i<(bx++[(⟨T,r,n,true⟩:Box)]).length:=by
     rcases Nat.lt_or_ge i (bx++[(⟨T,r,n,true⟩:Box)]).length with h'|h'
     ·exact h'
     ·rw [List.getElem?_eq_none h'] at h1;cases h1
    simp at this;omega
   subst hi'
   simp at h1
   rw [← hlen] at h2
   simp at h2
   subst h1;subst h2
   refine .inl ⟨rfl,vs,SV.denL_mono hp _ hv,?_⟩
   rw [if_pos rfl]
   exact ⟨rfl,junk,heap_alloc_new w _,hn⟩
 ·intro i b a h1 ho h2
  by_cases hi:i<bx.length
  ·rw [List.getElem?_append_left hi] at h1
   rw [List.getElem?_append_left (by omega)] at h2
   obtain ⟨s1,s2,s3⟩:=h.sep i b a h1 ho h2
   refine ⟨s1,?_,s3⟩
   intro j b' a' hji hj1 hl hj2
   by_cases hj:j<bx.length
   ·rw [List.getElem?_append_left hj] at hj1
    rw [List.getElem?_append_left (by omega)] at hj2
    exact s2 j b' a' hji hj1 hl hj2
   ·have hlt:=(h.box i b _ h1 h2).lt (by simp [Box.live,ho])
    have hj':j=bx.length:=by
     have :j<(bx++[(⟨T,r,n,true⟩:Box)]).length:=by
      rcases Nat.lt_or_ge j (bx++[(⟨T,r,n,true⟩:Box)]).length with h'|h'
      ·exact h'
      ·rw [List.getElem?_eq_none h'] at hj1;cases hj1
     simp at this;omega
    subst hj'
    rw [← hlen] at hj2
    simp at hj2
    subst hj2
    simp only;omega
  ·have hi':i=bx.length:=by
    have :i<(bx++[(⟨T,r,n,true⟩:Box)]).length:=by
     rcases Nat.lt_or_ge i (bx++[(⟨T,r,n,true⟩:Box)]).length with h'|h'
     ·exact h'
     ·rw [List.getElem?_eq_none h'] at h1;cases h1
    simp at this;omega
   subst hi'
   rw [← hlen] at h2
   simp at h2
   subst h2
   refine ⟨.inl h.keep.size,?_,?_⟩
   ·intro j b' a' hji hj1 hl hj2
    have hj:j<bx.length:=by
     have :j<(bx++[(⟨T,r,n,true⟩:Box)]).length:=by
      rcases Nat.lt_or_ge j (bx++[(⟨T,r,n,true⟩:Box)]).length with h'|h'
      ·exact h'
      ·rw [List.getElem?_eq_none h'] at hj1;cases hj1
     simp at this;omega
    rw [List.getElem?_append_left hj] at hj1
    rw [List.getElem?_append_left (by omega)] at hj2
    have:=(h.box j b' _ hj1 hj2).lt hl
    simp only;omega
   ·intro v cs hE hne hb
    obtain ⟨b2,h3,h4⟩:=(h.hold v cs hE).lt hne
    rw [hb] at h3;cases h3
    exact absurd h4 (Nat.lt_irrefl _)
 ·intro i b a h1 hl h2
  by_cases hi:i<bx.length
  ·rw [List.getElem?_append_left hi] at h1
   rw [List.getElem?_append_left (by omega)] at h2
   exact h.bsrc i b a h1 hl h2
  ·rw [List.getElem?_append_right (by omega)] at h2
   have :i=bx.length:=by
    have :i<(bx++[(⟨T,r,n,true⟩:Box)]).length:=by
     rcases Nat.lt_or_ge i (bx++[(⟨T,r,n,true⟩:Box)]).length with h'|h'
     ·exact h'
     ·rw [List.getElem?_eq_none h'] at h1;cases h1
    simp at this;omega
   subst this
   rw [hlen,Nat.sub_self] at h2
   simp at h2;subst h2
   exact .inl h.keep.size
theorem add_eq {a:Addr} (h:a.spot=none) (n:Nat):a.add n=⟨a.block,a.off+n,none⟩:=by
 cases a;simp at h;subst h
 unfold Addr.add
 split
 ·subst_vars;rfl
 ·rfl
theorem Rel.read {w0:World} {mu:Fm} {bx:List Box} {E:Mem} {ρ:Env} {w:World} (h:Rel w0 mu bx E ρ w) {i:Nat} {b:Box} (hb:bx[i]? =some b) (hc:b.cells≠[]) (hsp:∀ a,ρ[i]? =some (some a)->a.spot=none):
  ∃ a vs,ρ[i]? =some (some a)/\a.spot=none/\SV.denL ρ b.cells=some vs/\∀ k x,vs[k]? =some x->w.cell? (a.add k)=some x:=by
 have hi:i<ρ.length:=by
  rw [h.len]
  rcases Nat.lt_or_ge i bx.length with h'|h'
  ·exact h'
  ·simp [List.getElem?_eq_none h'] at hb
 have hbox:=h.box i b _ hb (List.getElem?_eq_getElem hi)
 cases hρ:ρ[i] with
 | none=>rw [hρ] at hbox;exact absurd hbox.1 hc
 | some a=>
  rw [hρ] at hbox
  obtain ⟨h1,vs,h2,h3⟩:=hbox.isRow (hsp a (by rw [List.getElem?_eq_getElem hi,hρ]))
  refine ⟨a,vs,by rw [List.getElem?_eq_getElem hi,hρ],h1,h2,fun k x hx=>?_⟩
  rw [add_eq h1]
  by_cases ho:b.own=true
  ·rw [if_pos ho] at h3
   obtain ⟨h4,junk,hj,_⟩:=h3
   simp only [World.cell?,hj,Option.isSome_none,h4,Nat.zero_add]
   have hk:k<vs.length:=by
    rcases Nat.lt_or_ge k vs.length with h'|h'
    ·exact h'
    ·simp [List.getElem?_eq_none h'] at hx
   simp [List.getElem?_append_left hk,hx]
  ·rw [if_neg ho] at h3
   exact h3 k x hx
end Go.Sx
