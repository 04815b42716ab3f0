/- The symbolic evaluator; generic. Conditions: none. -/
import Derived.Below
import Derived.Orders
import Derived.KernelRfl
import Derived.Laws.Cells
import Derived.RangeFuncRecord
import Derived.RangeFuncCalls
import Derived.OrdersIn
import Derived.TacticsIn
import Derived.Laws.CopyRow
import Derived.Laws.CopyOwn
import Derived.Laws.Tables
import Derived.Maps.AppendAt
import Derived.Laws.MakeOwn
import Derived.Laws.StructEq
import Derived.Lib.AppendZerosOnto
namespace Go.Sx
open Go.RowKit (Below)
abbrev Li:=List Int
abbrev Ll:=List Li
abbrev Lv:=List Value
abbrev Oa:=Option Addr
variable {α:Type} {off b cap:Nat} {v x:Value} {vs cs:Lv} {w w' w0:World} {oa:Oa}
inductive SV where
 | raw (v:Value)
 | loc (b off:Nat)
 | bH (b off len cap:Nat)
 | rp (v:Value) (off:Nat)
 | agg (l:List SV)
 | bB (l:List SV)
 | fM (f:FuncId) (first jL:List SV)
 | cr (t:TypeId) (v:SV)
 /-- a method's value, of what stands behind an interface -/
 | vm (name:String) (v:SV)
abbrev Env:=List Oa
def gS (ρ:Env) (b off:Nat):Option Value:=
 match ρ[b]? with
 | some (some a)=>some (.pointer (some (a.add off)))
 | _=>none
def eu (ρ:Env) (b off len cap:Nat):Option Value:=
 match ρ[b]? with
 | some (some a)=>some (.slice (some (a.add off)) len cap)
 | some none=>if off=0/\len=0/\cap=0 then some (.slice none 0 0) else none
 | none=>none
def pF (v:Value) (off:Nat):Option Value:=
 match v with
 | .slice (some a) _ _=>if a.spot=none then some (.pointer (some (a.add off))) else none
 | _=>none
mutual
def SV.den (ρ:Env):SV->Option Value
 | .raw v=>some v
 | .loc b off=>gS ρ b off
 | .bH b off len cap=>eu ρ b off len cap
 | .rp v off=>pF v off
 | .agg l=>(SV.bF ρ l).map λvs=>.agg vs.toArray
 | .bB l=>(SV.bF ρ l).map λvs=>.tuple vs.toArray
 | .fM f m l=>match SV.bF ρ m,SV.bF ρ l with
  | some us,some vs=>some (.func (.func f) us.toArray vs.toArray)
  | _,_=>none
 | .cr t v=>(SV.den ρ v).map λx=>.iface t x
 | .vm n v=>(SV.den ρ v).map λx=>.func (.method n) #[x] #[]
def SV.bF (ρ:Env):List SV->Option Lv
 | []=>some []
 | x::l=>match SV.den ρ x,SV.bF ρ l with
  | some v,some vs=>some (v::vs)
  | _,_=>none
end
theorem gv {l m:List α} (h:l<+:m) {i:Nat} {x:α} (hx:l[i]? =some x):m[i]? =some x:=by
 obtain ⟨t,rfl⟩:=h;have :i<l.length:=by
  rcases Nat.lt_or_ge i l.length with h'|h'
  ·exact h'
  ·simp [List.getElem?_eq_none h'] at hx
 rw [List.getElem?_append_left this];exact hx
theorem Ao {ρ ρ':Env} (h:ρ<+:ρ') (hv:gS ρ b off=some v):gS ρ' b off=some v:=by
 unfold gS at *;split at hv
 ·rename_i a ha;rw [gv h ha];exact hv
 ·cases hv
theorem Ap {ρ ρ':Env} (h:ρ<+:ρ') {len:Nat} (hv:eu ρ b off len cap=some v):eu ρ' b off len cap=some v:=by
 unfold eu at *;split at hv
 ·rename_i a ha;rw [gv h ha];exact hv
 ·rename_i ha;rw [gv h ha];exact hv
 ·cases hv
mutual
theorem SV.sy {ρ ρ':Env} (h:ρ<+:ρ'):∀ (s:SV) {v:Value},s.den ρ=some v->s.den ρ'=some v
 | .raw v,_,e=>by simpa [SV.den] using e
 | .loc b off,_,e=>by simp only [SV.den] at *;exact Ao h e
 | .bH b off len cap,_,e=>by simp only [SV.den] at *;exact Ap h e
 | .rp v off,_,e=>by simpa [SV.den] using e
 | .agg l,_,e=>by simp only [SV.den,Option.map_eq_some_iff] at *;obtain ⟨vs,h1,h2⟩:=e;exact ⟨vs,SV.iK h l h1,h2⟩
 | .bB l,_,e=>by simp only [SV.den,Option.map_eq_some_iff] at *;obtain ⟨vs,h1,h2⟩:=e;exact ⟨vs,SV.iK h l h1,h2⟩
 | .fM f m l,_,e=>by
  simp only [SV.den] at e;split at e
  ·rename_i us vs h1 h2;simp only [SV.den,SV.iK h m h1,SV.iK h l h2];exact e
  ·cases e
 | .cr t x,_,e=>by simp only [SV.den,Option.map_eq_some_iff] at *;obtain ⟨vs,h1,h2⟩:=e;exact ⟨vs,SV.sy h x h1,h2⟩
 | .vm t x,_,e=>by simp only [SV.den,Option.map_eq_some_iff] at *;obtain ⟨vs,h1,h2⟩:=e;exact ⟨vs,SV.sy h x h1,h2⟩
theorem SV.iK {ρ ρ':Env} (h:ρ<+:ρ'):∀ (l:List SV) {vs:Lv},SV.bF ρ l=some vs->SV.bF ρ' l=some vs
 | [],_,e=>by simpa [SV.bF] using e
 | x::l,vs,e=>by
  simp only [SV.bF] at e;split at e
  ·rename_i v ws h1 h2;simp only [SV.bF,SV.sy h x h1,SV.iK h l h2];exact e
  ·cases e
end
theorem bN {ρ:Env}:∀ {l:List SV} {vs:Lv},SV.bF ρ l=some vs->vs.length=l.length
 | [],_,e=>by simp only [SV.bF,Option.some.injEq] at e;subst e;rfl
 | x::l,_,e=>by
  simp only [SV.bF] at e;split at e
  ·rename_i v ws h1 h2;simp only [Option.some.injEq] at e;subst e;simp [bN h2]
  ·cases e
theorem kJ {ρ:Env}:∀ {l:List SV} {vs:Lv},SV.bF ρ l=some vs->∀ {i:Nat} {s:SV},l[i]? =some s->∃ v,vs[i]? =some v/\s.den ρ=some v
 | [],_,_,_,_,h=>by simp at h
 | x::l,_,e,i,s,h=>by
  simp only [SV.bF] at e;split at e
  ·rename_i v ws h1 h2;simp only [Option.some.injEq] at e;subst e
   cases i with
   | zero=>simp at h;subst h;exact ⟨v,by simp,h1⟩
   | succ i=>simp at h ⊢;exact kJ h2 h
  ·cases e
theorem D1 {ρ:Env} {l:List SV} (e:SV.bF ρ l=some vs) {i:Nat} (h:vs[i]? =some v):∃ s,l[i]? =some s/\s.den ρ=some v:=by
 have hl:=bN e;have hi:i<l.length:=by
  rcases Nat.lt_or_ge i vs.length with h'|h'
  ·omega
  ·simp [List.getElem?_eq_none h'] at h
 obtain ⟨v',h1,h2⟩:=kJ e (List.getElem?_eq_getElem hi);rw [h1] at h;cases h;exact ⟨_,List.getElem?_eq_getElem hi,h2⟩
theorem dQ {ρ:Env}:∀ {l m:List SV} {vs ws:Lv},SV.bF ρ l=some vs->SV.bF ρ m=some ws->SV.bF ρ (l++m)=some (vs++ws)
 | [],m,_,_,e,e'=>by simp only [SV.bF,Option.some.injEq] at e;subst e;simpa using e'
 | x::l,m,_,_,e,e'=>by
  simp only [SV.bF] at e;split at e
  ·rename_i v us h1 h2;simp only [Option.some.injEq] at e;subst e;simp only [List.cons_append,SV.bF,h1,dQ h2 e']
  ·cases e
theorem bU {ρ:Env}:∀ (vs:Lv),SV.bF ρ (vs.map .raw)=some vs
 | []=>by simp [SV.bF]
 | v::vs=>by simp [SV.bF,SV.den,bU vs]
theorem ir {ρ:Env}:∀ {l:List SV} {vs:Lv},SV.bF ρ l=some vs->∀ n,SV.bF ρ (l.take n)=some (vs.take n)
 | _,_,_,0=>by simp [SV.bF]
 | [],_,e,n+1=>by simp only [SV.bF,Option.some.injEq] at e;subst e;simp [SV.bF]
 | x::l,_,e,n+1=>by
  simp only [SV.bF] at e;split at e
  ·rename_i v us h1 h2;simp only [Option.some.injEq] at e;subst e;simp only [List.take_succ_cons,SV.bF,h1,ir h2 n]
  ·cases e
theorem iL {ρ:Env}:∀ {l:List SV} {vs:Lv},SV.bF ρ l=some vs->∀ n,SV.bF ρ (l.drop n)=some (vs.drop n)
 | _,_,e,0=>by simpa using e
 | [],_,e,n+1=>by simp only [SV.bF,Option.some.injEq] at e;subst e;simp [SV.bF]
 | x::l,_,e,n+1=>by
  simp only [SV.bF] at e;split at e
  ·rename_i v us h1 h2;simp only [Option.some.injEq] at e;subst e;simpa using iL h2 n
  ·cases e
abbrev Mem:=Value->Lv->Prop
def Mem.le (E F:Mem):Prop:=∀ v cs,E v cs->F v cs
theorem Mem.le_refl (E:Mem):Mem.le E E:=λ_ _ h=>h
theorem Mem.le_trans {E F G:Mem} (h:Mem.le E F) (k:Mem.le F G):Mem.le E G:=λ_ _ x=>k _ _ (h _ _ x)
def pP:Value->Option Nat
 | .slice (some a) _ _=>some a.block
 | _=>none
def dV (w:World) (v:Value) (cs:Lv):Prop:=
 cs=[]\/∃ a len cap,v= .slice (some a) len cap/\a.spot=none/\∀ i x,cs[i]? =some x->w.cell? ⟨a.block,a.off+i,none⟩=some x
def Nb (E:Mem) (w:World):Prop:=∀ v cs,E v cs->dV w v cs
theorem CM {a:Addr} (h:w.cell? a=some x):a.block<w.heap.size:=by
 unfold World.cell? at h;rcases Nat.lt_or_ge a.block w.heap.size with h'|h'
 ·exact h'
 ·simp [Array.getElem?_eq_none h'] at h
theorem qW {a:Addr} (h:w'.heap[a.block]? =w.heap[a.block]?):w'.cell? a=w.cell? a:=by unfold World.cell?;rw [h]
theorem dV.lt (h:dV w v cs) (hne:cs≠[]):∃ b,pP v=some b/\b<w.heap.size:=by
 rcases h with h|⟨a,len,cap,rfl,_,h⟩
 ·exact absurd h hne
 ·cases cs with
  | nil=>exact absurd rfl hne
  | cons x cs=>exact ⟨a.block,rfl,CM (a:=⟨a.block,a.off+0,none⟩) (h 0 x rfl)⟩
theorem dV.js (h:dV w v cs) (hb:∀ b,cs≠[]->pP v=some b->w'.heap[b]? =w.heap[b]?):dV w' v cs:=by
 rcases h with h|⟨a,len,cap,rfl,hs,h⟩
 ·exact .inl h
 ·by_cases hne:cs=[]
  ·exact .inl hne
  ·exact .inr ⟨a,len,cap,rfl,hs,λi x hx=>by rw [qW (a:=⟨a.block,a.off+i,none⟩) (hb a.block hne rfl)];exact h i x hx⟩
inductive Row where
 | ae (l:List SV)
 | vals (l:Lv)
def Row.cells:Row->List SV
 | .ae l=>l
 | .vals l=>l.map .raw
structure aR where
 elem:TypeId
 row:Row
 total:Nat
 own:Bool
def aR.cells (b:aR):List SV:=b.row.cells
def aR.live (b:aR):Bool:=b.own|| !b.cells.isEmpty
structure St where
 fr:List (Option SV)
 bx:List aR
 E:Mem
def iA (w:World) (ρ:Env) (oa:Oa) (b:aR):Prop:=
 match oa with
 | none=>b.cells=[]/\b.total=0
 | some a=>a.spot=none/\∃ vs,SV.bF ρ b.cells=some vs/\
   if b.own=true then a.off=0/\∃ bZ:Lv,w.heap[a.block]? =some (.cells (vs++bZ).toArray b.elem (0,0))/\(vs++bZ).length=b.total
   else ∀ i x,vs[i]? =some x->w.cell? ⟨a.block,a.off+i,none⟩=some x
structure lA (mu:List Nat) (w0 w:World):Prop where
 os:w.os=w0.os
 tape:w.tape=w0.tape
 output:w.output=w0.output
 size:w0.heap.size<=w.heap.size
 block:∀ k,k<w0.heap.size->k ∉ mu->w.heap[k]? =w0.heap[k]?
theorem lA.refl (mu:List Nat) (w:World):lA mu w w:=⟨rfl,rfl,rfl,Nat.le_refl _,λ_ _ _=>rfl⟩
theorem lA.trans {mu:List Nat} {a b c:World} (h:lA mu a b) (k:lA mu b c):lA mu a c:=
 ⟨k.os.trans h.os,k.tape.trans h.tape,k.output.trans h.output,Nat.le_trans h.size k.size,λi hi hm=>(k.block i (Nat.lt_of_lt_of_le hi h.size) hm).trans (h.block i hi hm)⟩
theorem lA.below (h:lA [] w w'):Below w.heap.size w w':=
 ⟨h.os,h.tape,h.output,h.size,λk hk=>h.block k hk (by simp)⟩
theorem lA.drew (mu:List Nat) (w:World) (n:Nat):lA mu w { w with drawn:=n }:=⟨rfl,rfl,rfl,Nat.le_refl _,λ_ _ _=>rfl⟩
structure Rc0 where
 l:Nat
 r:Loop
 ρ:Env
structure Rc where
 l:Nat
 r:Loop
 /-- where the boxes lay that the loop's frame names -/
 ρ:Env
 /-- what must hold where a round has returned -/
 q:List aR->Mem->Prop
 /-- the loop whose round this loop stands in -/
 up:Option Rc0:=none
def Rc.stop (c:Rc):Loop:={ c.r with state:=.done,pending:=some .ret }
structure Fm where
 mu:List Nat
 E0:Mem
 /-- the record of the loop whose rounds a call of yield runs -/
 om:Option Rc:=none
 /-- the activation's marks -/
 ds:List Deferred:=[]
def okP (w0:World) (mu:Fm) (c:Rc):Prop:=∀ p,c.up=some p->(w0.heap[p.l]? =some (.loop p.r)/\(p.r.state= .ready/\p.r.pending=none)/\p.l ∉ mu.mu)/\p.l≠c.l/\p.ρ<+:c.ρ
def mL (w0:World) (mu:Fm):Prop:=match mu.om with
 | none=>True
 | some c=>w0.heap[c.l]? =some (.loop c.r)/\(c.r.state= .ready/\c.r.pending=none)/\c.l ∉ mu.mu/\okP w0 mu c
structure Rel (w0:World) (mu:Fm) (bx:List aR) (E:Mem) (ρ:Env) (w:World):Prop where
 keep:lA mu.mu w0 w
 len:ρ.length=bx.length
 box:∀ (i:Nat) (b:aR) oa,bx[i]? =some b->ρ[i]? =some oa->iA w ρ oa b
 sep:∀ (i:Nat) (b:aR) a,bx[i]? =some b->b.own=true->ρ[i]? =some (some a)->
  (w0.heap.size<=a.block\/a.block∈mu.mu)/\
  (∀ (j:Nat) b' a',j≠i->bx[j]? =some b'->b'.live=true->ρ[j]? =some (some a')->a'.block≠a.block)/\
  (∀ v cs,E v cs->cs≠[]->pP v≠some a.block)
 hold:Nb E w
 jM:∀ (i:Nat) (b:aR) a,bx[i]? =some b->b.live=true->ρ[i]? =some (some a)->w0.heap.size<=a.block\/a.block∈mu.mu
 src:∀ v cs,E v cs->cs≠[]->(∃ b,pP v=some b/\(w0.heap.size<=b\/b∈mu.mu))\/∃ v0 jQ,mu.E0 v0 jQ/\jQ≠[]/\pP v=pP v0
def cV (ρ:Env) (fr:List (Option SV)) (tmps:Array Value):Prop:=
 fr.length=tmps.size/\∀ (i:Nat) s,fr[i]? =some (some s)->∃ v,tmps[i]? =some v/\s.den ρ=some v
theorem cV.mono {ρ ρ':Env} {fr:List (Option SV)} {tmps:Array Value} (h:cV ρ fr tmps) (hp:ρ<+:ρ'):cV ρ' fr tmps:=
 ⟨h.1,λi s hs=>let ⟨v,h1,h2⟩:=h.2 i s hs;⟨v,h1,SV.sy hp s h2⟩⟩
theorem cV.set {ρ:Env} {fr:List (Option SV)} {tmps:Array Value} (h:cV ρ fr tmps) (d:Nat) {s:SV} (hv:s.den ρ=some v):
  cV ρ (fr.set d (some s)) (tmps.setIfInBounds d v):=by
 refine ⟨by simp [h.1],λi t ht=>?_⟩;by_cases LF:d=i
 ·subst LF;rw [List.getElem?_set_self'] at ht
  cases hf:fr[d]? with
  | none=>simp [hf] at ht
  | some o=>
   simp [hf] at ht;subst ht;have hlt:d<tmps.size:=by
    rw [← h.1];rcases Nat.lt_or_ge d fr.length with h'|h'
    ·exact h'
    ·simp [List.getElem?_eq_none h'] at hf
   exact ⟨v,by simp [hlt],hv⟩
 ·rw [List.getElem?_set_ne LF] at ht;obtain ⟨u,h1,h2⟩:=h.2 i t ht;exact ⟨u,by rw [Array.getElem?_setIfInBounds_ne LF];exact h1,h2⟩
theorem iA.mono {ρ ρ':Env} (hp:ρ<+:ρ') {b:aR} (h:iA w ρ oa b):iA w ρ' oa b:=by
 cases oa with
 | none=>exact h
 | some a=>
  obtain ⟨h1,vs,h2,h3⟩:=h;exact ⟨h1,vs,SV.iK hp _ h2,h3⟩
theorem iA.lt {ρ:Env} {a:Addr} {b:aR} (h:iA w ρ (some a) b) (hl:b.live=true):a.block<w.heap.size:=by
 obtain ⟨_,vs,h2,h3⟩:=h;by_cases ho:b.own=true
 ·rw [if_pos ho] at h3;obtain ⟨_,bZ,hj,_⟩:=h3;rcases Nat.lt_or_ge a.block w.heap.size with h'|h'
  ·exact h'
  ·simp [Array.getElem?_eq_none h'] at hj
 ·rw [if_neg ho] at h3;have :b.cells≠[]:=by
   intro e;simp [aR.live,e] at hl;exact ho hl
  have hlen:=bN h2
  cases vs with
  | nil=>
   simp at hlen;exact absurd (List.eq_nil_of_length_eq_zero hlen.symm) this
  | cons x vs=>exact CM (a:=⟨a.block,a.off+0,none⟩) (h3 0 x rfl)
theorem iA.js {ρ:Env} {b:aR} (h:iA w ρ oa b) (hb:∀ a,oa=some a->b.live=true->w'.heap[a.block]? =w.heap[a.block]?):iA w' ρ oa b:=by
 cases oa with
 | none=>exact h
 | some a=>
  obtain ⟨h1,vs,h2,h3⟩:=h;refine ⟨h1,vs,h2,?_⟩;by_cases ho:b.own=true
  ·rw [if_pos ho] at h3 ⊢;obtain ⟨h4,bZ,hj,hk⟩:=h3;exact ⟨h4,bZ,by rw [hb a rfl (by simp [aR.live,ho])];exact hj,hk⟩
  ·rw [if_neg ho] at h3 ⊢;intro i x hx;have mQ:b.live=true:=by
    simp only [aR.live,Bool.or_eq_true];right;have hlen:=bN h2
    cases hc:b.cells with
    | nil=>rw [hc] at hlen;simp at hlen;subst hlen;simp at hx
    | cons=>rfl
   rw [qW (a:=⟨a.block,a.off+i,none⟩) (hb a rfl mQ)];exact h3 i x hx
theorem Rel.grow {mu:Fm} {bx:List aR} {E:Mem} {ρ:Env} (h:Rel w0 mu bx E ρ w) (hb:lA [] w w'):Rel w0 mu bx E ρ w' where
 keep:=h.keep.trans ⟨hb.os,hb.tape,hb.output,hb.size,λk hk _=>hb.block k hk (by simp)⟩
 len:=h.len
 box i b oa h1 h2:=(h.box i b oa h1 h2).js λa ha hl=>hb.block _ (by subst ha;exact (h.box i b _ h1 h2).lt hl) (by simp)
 sep:=h.sep
 hold v cs hE:=(h.hold v cs hE).js λb hne hb'=>by obtain ⟨b2,h1,h2⟩:=(h.hold v cs hE).lt hne;rw [hb'] at h1;cases h1;exact hb.block _ h2 (by simp)
 jM:=h.jM
 src:=h.src
theorem Rel.drew {mu:Fm} {bx:List aR} {E:Mem} {ρ:Env} (h:Rel w0 mu bx E ρ w) (n:Nat):Rel w0 mu bx E ρ { w with drawn:=n }:=h.grow (lA.drew [] w n)
theorem heap_alloc_old (w:World) (o:Obj) (k:Nat) (h:k<w.heap.size):(w.alloc o).heap[k]? =w.heap[k]?:=by show (w.heap.push o)[k]? =_;rw [Array.getElem?_push,if_neg (by omega)]
theorem heap_alloc_new (w:World) (o:Obj):(w.alloc o).heap[w.heap.size]? =some o:=by show (w.heap.push o)[w.heap.size]? =_;simp
theorem lA.alloc (mu:List Nat) (w:World) (o:Obj):lA mu w (w.alloc o):=
 ⟨rfl,rfl,rfl,by simp,λk hk _=>heap_alloc_old w o k hk⟩
theorem Rel.alloc {mu:Fm} {bx:List aR} {E:Mem} {ρ:Env} (h:Rel w0 mu bx E ρ w) (T:TypeId) (r:Row) (vs bZ:Lv) (n:Nat) (hv:SV.bF ρ r.cells=some vs) (hn:(vs++bZ).length=n):
  Rel w0 mu (bx++[⟨T,r,n,true⟩]) E (ρ++[some ⟨w.heap.size,0,none⟩]) (w.alloc (.cells (vs++bZ).toArray T)):=by
 have hg:=h.grow (lA.alloc [] w (.cells (vs++bZ).toArray T));have hp:ρ<+:ρ++[some ⟨w.heap.size,0,none⟩]:=List.prefix_append _ _;have hlen:=h.len;refine ⟨hg.keep,by simp [hlen],?_,?_,hg.hold,?_,h.src⟩
 ·intro i b oa h1 h2;by_cases hi:i<bx.length
  ·rw [List.getElem?_append_left hi] at h1;rw [List.getElem?_append_left (by omega)] at h2;exact (hg.box i b oa h1 h2).mono hp
  ·have hi':i=bx.length:=by
    have :i<(bx++[(⟨T,r,n,true⟩:aR)]).length:=by
     rcases Nat.lt_or_ge i (bx++[(⟨T,r,n,true⟩:aR)]).length with h'|h'
     ·exact h'
     ·rw [List.getElem?_eq_none h'] at h1;cases h1
    simp at this;omega
   subst hi';simp at h1;rw [← hlen] at h2;simp at h2;subst h1;subst h2;refine ⟨rfl,vs,SV.iK hp _ hv,?_⟩;rw [if_pos rfl];exact ⟨rfl,bZ,heap_alloc_new w _,hn⟩
 ·intro i b a h1 ho h2;by_cases hi:i<bx.length
  ·rw [List.getElem?_append_left hi] at h1;rw [List.getElem?_append_left (by omega)] at h2;obtain ⟨s1,s2,s3⟩:=h.sep i b a h1 ho h2;refine ⟨s1,?_,s3⟩;intro j b' a' hji pG hl nJ;by_cases hj:j<bx.length
   ·rw [List.getElem?_append_left hj] at pG;rw [List.getElem?_append_left (by omega)] at nJ;exact s2 j b' a' hji pG hl nJ
   ·have hlt:=(h.box i b _ h1 h2).lt (by simp [aR.live,ho]);have hj':j=bx.length:=by
     have :j<(bx++[(⟨T,r,n,true⟩:aR)]).length:=by
      rcases Nat.lt_or_ge j (bx++[(⟨T,r,n,true⟩:aR)]).length with h'|h'
      ·exact h'
      ·rw [List.getElem?_eq_none h'] at pG;cases pG
     simp at this;omega
    subst hj';rw [← hlen] at nJ;simp at nJ;subst nJ;simp only;omega
  ·have hi':i=bx.length:=by
    have :i<(bx++[(⟨T,r,n,true⟩:aR)]).length:=by
     rcases Nat.lt_or_ge i (bx++[(⟨T,r,n,true⟩:aR)]).length with h'|h'
     ·exact h'
     ·rw [List.getElem?_eq_none h'] at h1;cases h1
    simp at this;omega
   subst hi';rw [← hlen] at h2;simp at h2;subst h2;refine ⟨.inl h.keep.size,?_,?_⟩
   ·intro j b' a' hji pG hl nJ;have hj:j<bx.length:=by
     have :j<(bx++[(⟨T,r,n,true⟩:aR)]).length:=by
      rcases Nat.lt_or_ge j (bx++[(⟨T,r,n,true⟩:aR)]).length with h'|h'
      ·exact h'
      ·rw [List.getElem?_eq_none h'] at pG;cases pG
     simp at this;omega
    rw [List.getElem?_append_left hj] at pG;rw [List.getElem?_append_left (by omega)] at nJ;have:=(h.box j b' _ pG nJ).lt hl;simp only;omega
   ·intro v cs hE hne hb;obtain ⟨b2,h3,h4⟩:=(h.hold v cs hE).lt hne;rw [hb] at h3;cases h3;exact absurd h4 (Nat.lt_irrefl _)
 ·intro i b a h1 hl h2;by_cases hi:i<bx.length
  ·rw [List.getElem?_append_left hi] at h1;rw [List.getElem?_append_left (by omega)] at h2;exact h.jM i b a h1 hl h2
  ·rw [List.getElem?_append_right (by omega)] at h2;have :i=bx.length:=by
    have :i<(bx++[(⟨T,r,n,true⟩:aR)]).length:=by
     rcases Nat.lt_or_ge i (bx++[(⟨T,r,n,true⟩:aR)]).length with h'|h'
     ·exact h'
     ·rw [List.getElem?_eq_none h'] at h1;cases h1
    simp at this;omega
   subst this;rw [hlen,Nat.sub_self] at h2;simp at h2;subst h2;exact .inl h.keep.size
theorem add_eq {a:Addr} (h:a.spot=none) (n:Nat):a.add n=⟨a.block,a.off+n,none⟩:=by
 cases a;simp at h;subst h;unfold Addr.add;split
 ·subst_vars;rfl
 ·rfl
theorem Rel.read {mu:Fm} {bx:List aR} {E:Mem} {ρ:Env} (h:Rel w0 mu bx E ρ w) {i:Nat} {b:aR} (hb:bx[i]? =some b) (hc:b.cells≠[]):
  ∃ a vs,ρ[i]? =some (some a)/\a.spot=none/\SV.bF ρ b.cells=some vs/\∀ k x,vs[k]? =some x->w.cell? (a.add k)=some x:=by
 have hi:i<ρ.length:=by
  rw [h.len];rcases Nat.lt_or_ge i bx.length with h'|h'
  ·exact h'
  ·simp [List.getElem?_eq_none h'] at hb
 have gG:=h.box i b _ hb (List.getElem?_eq_getElem hi)
 cases hρ:ρ[i] with
 | none=>rw [hρ] at gG;exact absurd gG.1 hc
 | some a=>
  rw [hρ] at gG;obtain ⟨h1,vs,h2,h3⟩:=gG;refine ⟨a,vs,by rw [List.getElem?_eq_getElem hi,hρ],h1,h2,λk x hx=>?_⟩;rw [add_eq h1];by_cases ho:b.own=true
  ·rw [if_pos ho] at h3;obtain ⟨h4,bZ,hj,_⟩:=h3;simp only [World.cell?,hj,Option.isSome_none,h4,Nat.zero_add];have hk:k<vs.length:=by
    rcases Nat.lt_or_ge k vs.length with h'|h'
    ·exact h'
    ·simp [List.getElem?_eq_none h'] at hx
   simp [List.getElem?_append_left hk,hx]
  ·rw [if_neg ho] at h3;exact h3 k x hx
end Go.Sx
namespace Go.Sx
open Go.RowKit (Below)
variable {v av:Value} {d:TypeDesc} {P:Program} {T t:TypeId} {off g b:Nat} {i:TypeInfo} {vs:Lv} {w w0:World}
mutual
def SV.val:SV->Option Value
 | .raw v=>some v
 | .agg l=>(SV.fY l).map λvs=>.agg vs.toArray
 | .bB l=>(SV.fY l).map λvs=>.tuple vs.toArray
 | .cr t v=>(SV.val v).map λx=>.iface t x
 | _=>none
def SV.fY:List SV->Option Lv
 | []=>some []
 | x::l=>match SV.val x,SV.fY l with
  | some v,some vs=>some (v::vs)
  | _,_=>none
end
mutual
theorem SV.gx (ρ:Env):∀ (s:SV) {v:Value},s.val=some v->s.den ρ=some v
 | .raw v,_,e=>by simpa [SV.den,SV.val] using e
 | .loc b off,_,e=>by simp [SV.val] at e
 | .bH b off len cap,_,e=>by simp [SV.val] at e
 | .rp v off,_,e=>by simp [SV.val] at e
 | .agg l,_,e=>by simp only [SV.den,SV.val,Option.map_eq_some_iff] at *;obtain ⟨vs,h1,h2⟩:=e;exact ⟨vs,SV.dR ρ l h1,h2⟩
 | .bB l,_,e=>by simp only [SV.den,SV.val,Option.map_eq_some_iff] at *;obtain ⟨vs,h1,h2⟩:=e;exact ⟨vs,SV.dR ρ l h1,h2⟩
 | .fM f m l,_,e=>by simp [SV.val] at e
 | .vm n x,_,e=>by simp [SV.val] at e
 | .cr t x,_,e=>by simp only [SV.den,SV.val,Option.map_eq_some_iff] at *;obtain ⟨vs,h1,h2⟩:=e;exact ⟨vs,SV.gx ρ x h1,h2⟩
theorem SV.dR (ρ:Env):∀ (l:List SV) {vs:Lv},SV.fY l=some vs->SV.bF ρ l=some vs
 | [],_,e=>by simpa [SV.bF,SV.fY] using e
 | x::l,vs,e=>by
  simp only [SV.fY] at e;split at e
  ·rename_i v ws h1 h2;simp only [SV.bF,SV.gx ρ x h1,SV.dR ρ l h2];exact e
  ·cases e
end
def gU (P:Program):Sem Value->Option Value
 | .pure v=>some v
 | .program k=>gU P (k P)
 | _=>none
theorem uq {P:Program}:∀ (s:Sem Value) {v:Value},gU P s=some v->∀ w,s.run P w= .ok v w
 | .pure x,v,h,w=>by simp only [gU,Option.some.injEq] at h;subst h;rfl
 | .program k,v,h,w=>by simp only [gU] at h;simp only [Sem.run];exact uq (k P) h w
 | .load ..,_,h,_=>by simp [gU] at h
 | .store ..,_,h,_=>by simp [gU] at h
 | .new ..,_,h,_=>by simp [gU] at h
 | .shape ..,_,h,_=>by simp [gU] at h
 | .freeze ..,_,h,_=>by simp [gU] at h
 | .frozen ..,_,h,_=>by simp [gU] at h
 | .getObj ..,_,h,_=>by simp [gU] at h
 | .setObj ..,_,h,_=>by simp [gU] at h
 | .choose ..,_,h,_=>by simp [gU] at h
 | .sys ..,_,h,_=>by simp [gU] at h
 | .mark ..,_,h,_=>by simp [gU] at h
 | .halt ..,_,h,_=>by simp [gU] at h
def fN:SV->Option (List SV)
 | .agg l=>some l
 | .raw (.agg cs)=>some (cs.toList.map .raw)
 | _=>none
def cG (s:SV):List SV:=match fN s with |some l=>l|none=>[s]
def SV.one:SV->Bool
 | .raw (.agg _)| .raw (.tuple _)| .agg _| .bB _=>false
 | _=>true
theorem gV {ρ:Env} {s:SV} {l:List SV} (h:fN s=some l) (hv:s.den ρ=some v):∃ vs:Lv,v= .agg vs.toArray/\SV.bF ρ l=some vs:=by
 unfold fN at h;split at h
 ·rename_i l';simp only [Option.some.injEq] at h;subst h;simp only [SV.den,Option.map_eq_some_iff] at hv;obtain ⟨vs,h1,h2⟩:=hv;exact ⟨vs,h2.symm,h1⟩
 ·rename_i cs;simp only [Option.some.injEq] at h;subst h;simp only [SV.den,Option.some.injEq] at hv;subst hv;exact ⟨cs.toList,by simp,bU _⟩
 ·cases h
theorem one_den {ρ:Env} {s:SV} (h:s.one=true) (hv:s.den ρ=some v):v.oneCell'=true:=by
 cases s with
 | raw x=>simp only [SV.den,Option.some.injEq] at hv;subst hv;cases x<;>simp_all [SV.one,Value.oneCell']
 | loc b off=>simp only [SV.den,gS] at hv;split at hv<;>simp_all;subst hv;rfl
 | bH b off len cap=>
  simp only [SV.den,eu] at hv;split at hv
  ·simp at hv;subst hv;rfl
  ·split at hv
   ·simp at hv;subst hv;rfl
   ·cases hv
  ·cases hv
 | rp x off=>
  simp only [SV.den,pF] at hv;split at hv
  ·split at hv
   ·simp only [Option.some.injEq] at hv;subst hv;rfl
   ·cases hv
  ·cases hv
 | agg l=>simp [SV.one] at h
 | bB l=>simp [SV.one] at h
 | fM f m l=>
  simp only [SV.den] at hv;split at hv
  ·simp only [Option.some.injEq] at hv;subst hv;rfl
  ·cases hv
 | cr t x=>simp only [SV.den,Option.map_eq_some_iff] at hv;obtain ⟨_,_,rfl⟩:=hv;rfl
 | vm t x=>simp only [SV.den,Option.map_eq_some_iff] at hv;obtain ⟨_,_,rfl⟩:=hv;rfl
def gH (s:SV):Bool:=(fN s).isSome||s.one
theorem iZ {ρ:Env} {s:SV} (h1:gH s=true) (hv:s.den ρ=some v):SV.bF ρ (cG s)=some v.cells.toList:=by
 unfold cG
 cases h:fN s with
 | some l=>
  obtain ⟨vs,rfl,h2⟩:=gV h hv;simpa [Value.cells] using h2
 | none=>
  simp only [gH,h,Option.isSome_none,Bool.false_or] at h1;have:=one_den h1 hv;have hc:v.cells= #[v]:=by cases v<;>simp_all [Value.oneCell',Value.cells]
  simp [SV.bF,hv,hc]
def iB (P:Program) (T:TypeId) (cells:List SV) (off:Nat):Option SV:=
 match P.underlying T with
 | some (.struct _)|some (.array ..)=>
  match P.info? T with
  | some i=>if ((cells.drop off).take i.size).length=i.size then some (.agg ((cells.drop off).take i.size)) else none
  | none=>none
 | some _=>cells[off]?
 | none=>none
def jS:TypeDesc->Bool
 | .struct _| .array .. =>true
 | _=>false
theorem lP (h:P.underlying T=some d) (w:World):(isAgg T).run P w= .ok (jS d) w:=by
 unfold isAgg;simp only [Sem.run_bind,run_underlying h,Result.andThen_ok]
 cases d<;>rfl
theorem tH {cells:List SV} {s:SV} (hu:P.underlying T=some d) (hd:jS d=true) (h:iB P T cells off=some s):
  ∃ i,P.info? T=some i/\((cells.drop off).take i.size).length=i.size/\s= .agg ((cells.drop off).take i.size):=by
 unfold iB at h;rw [hu] at h
 cases d<;>simp only [jS,Bool.false_eq_true] at hd<;>
 ·simp only at h;split at h
  ·rename_i i hi;split at h
   ·rename_i hl;simp only [Option.some.injEq] at h;exact ⟨i,hi,hl,h.symm⟩
   ·cases h
  ·cases h
theorem og {cells:List SV} {s:SV} (hu:P.underlying T=some d) (hd:jS d=false) (h:iB P T cells off=some s):
  cells[off]? =some s:=by
 unfold iB at h;rw [hu] at h
 cases d<;>simp_all [jS]
theorem rA {cells:List SV} {s:SV} (h:iB P T cells off=some s):∃ d,P.underlying T=some d:=by
 unfold iB at h
 cases hu:P.underlying T with
 | none=>rw [hu] at h;cases h
 | some d=>exact ⟨d,rfl⟩
theorem jt (h:P.info? T=some i) (w:World):(typeInfo T).run P w= .ok i w:=by simp [typeInfo,h]
theorem bY (h:P.info? T=some i) (w:World):(sizeOf T).run P w= .ok i.size w:=by simp [sizeOf,jt h]
theorem ur {cells:List SV} {s:SV} {ρ:Env} {a:Addr} (ha:a.spot=none)
  (h:iB P T cells off=some s) (hv:SV.bF ρ cells=some vs) (hc:∀ k x,vs[k]? =some x->w.cell? (a.add k)=some x):
  ∃ v,s.den ρ=some v/\(loadVar T (a.add off)).run P w= .ok v w:=by
 obtain ⟨d,hu⟩:=rA h;by_cases hd:jS d=true
 ·obtain ⟨i,hi,hl,rfl⟩:=tH hu hd h;have ju:=ir (iL hv off) i.size;have Jh:=bN ju;rw [hl] at Jh;refine ⟨.agg ((vs.drop off).take i.size).toArray,by simp only [SV.den,ju,Option.map_some],?_⟩;have hr:=run_loadCells_list (P:=P) w (a.add off) ((vs.drop off).take i.size) (λj x hx=>by
   rw [add_eq (by rw [add_eq ha]) j,add_eq ha];have hj:j<i.size:=by
    rcases Nat.lt_or_ge j ((vs.drop off).take i.size).length with h'|h'
    ·omega
    ·rw [List.getElem?_eq_none h'] at hx;cases hx
   rw [List.getElem?_take_of_lt hj,List.getElem?_drop] at hx;have:=hc _ _ hx
   rwa [add_eq ha,← Nat.add_assoc] at this)
  rw [Jh] at hr;unfold loadVar;simp only [Sem.run_bind,lP hu,hd,Result.andThen_ok,Sem.run_ite,if_true,bY hi,hr,Sem.run_pure]
 ·have tD:jS d=false:=by simpa using hd
  have hs:=og hu tD h;obtain ⟨v,h1,h2⟩:=kJ hv hs;refine ⟨v,h2,?_⟩;unfold loadVar;simp only [Sem.run_bind,lP hu,tD,Result.andThen_ok,Sem.run_ite,run_load,hc _ _ h1];rfl
theorem kK {cells:List SV} {s:SV} {ρ:Env}
  (h:iB P T cells off=some s) (hv:SV.bF ρ cells=some vs):
  ∃ v,s.den ρ=some v/\(part T vs.toArray off).run P w= .ok v w:=by
 obtain ⟨d,hu⟩:=rA h;by_cases hd:jS d=true
 ·obtain ⟨i,hi,hl,rfl⟩:=tH hu hd h;have ju:=ir (iL hv off) i.size;refine ⟨.agg ((vs.drop off).take i.size).toArray,by simp only [SV.den,ju,Option.map_some],?_⟩;unfold part;simp only [Sem.run_bind,lP hu,hd,Result.andThen_ok,Sem.run_ite,if_true,bY hi,Sem.run_pure];congr 2;simp [List.extract_toArray,List.extract_eq_take_drop]
 ·have tD:jS d=false:=by simpa using hd
  have hs:=og hu tD h;obtain ⟨v,h1,h2⟩:=kJ hv hs;refine ⟨v,h2,?_⟩;unfold part;have :vs.toArray[off]? =some v:=by simpa using h1
  simp only [Sem.run_bind,lP hu,tD,Result.andThen_ok,Sem.run_ite,this];rfl
def lay (cells:List SV) (off:Nat) (pc:List SV):List SV:=cells.take off++pc++cells.drop (off+pc.length)
theorem Rel.own {mu:Fm} {bx:List aR} {E:Mem} {ρ:Env} (h:Rel w0 mu bx E ρ w) {i:Nat} {b:aR} (hb:bx[i]? =some b) (ho:b.own=true) (hc:b.cells≠[]):
  ∃ g vs bZ,ρ[i]? =some (some ⟨g,0,none⟩)/\SV.bF ρ b.cells=some vs/\w.heap[g]? =some (.cells (vs++bZ).toArray b.elem (0,0))/\(vs++bZ).length=b.total:=by
 have hi:i<ρ.length:=by
  rw [h.len];rcases Nat.lt_or_ge i bx.length with h'|h'
  ·exact h'
  ·simp [List.getElem?_eq_none h'] at hb
 have gG:=h.box i b _ hb (List.getElem?_eq_getElem hi)
 cases hρ:ρ[i] with
 | none=>rw [hρ] at gG;exact absurd gG.1 hc
 | some a=>
  rw [hρ] at gG;obtain ⟨h1,vs,h2,h3⟩:=gG;rw [if_pos ho] at h3;obtain ⟨h4,bZ,hj,hk⟩:=h3;refine ⟨a.block,vs,bZ,?_,h2,hj,hk⟩;rw [List.getElem?_eq_getElem hi,hρ]
  cases a;simp at h1 h4;subst h1;subst h4;rfl
theorem lA.setRow {mu:List Nat} (h:lA mu w0 w) (hg:w0.heap.size<=g\/g∈mu) (cs:Array Value):lA mu w0 (w.setRow g cs):=
 ⟨h.os,h.tape,h.output,by simpa using h.size,λk hk hm=>by rw [setRow_other w g k cs (by rintro rfl;rcases hg with hg|hg;omega;exact hm hg)];exact h.block k hk hm⟩
theorem Rel.setRow {mu:Fm} {bx:List aR} {E:Mem} {ρ:Env} (h:Rel w0 mu bx E ρ w) {i:Nat} {b:aR} (hb:bx[i]? =some b) (ho:b.own=true)
  (hρ:ρ[i]? =some (some ⟨g,0,none⟩)) {r:Row} {bZ:Lv} (hv:SV.bF ρ r.cells=some vs) (hl:(vs++bZ).length=b.total):
  Rel w0 mu (bx.set i { b with row:=r }) E ρ (w.setRow g (vs++bZ).toArray):=by
 obtain ⟨s1,s2,s3⟩:=h.sep i b _ hb ho hρ;have hi:i<bx.length:=by
  rcases Nat.lt_or_ge i bx.length with h'|h'
  ·exact h'
  ·simp [List.getElem?_eq_none h'] at hb
 refine ⟨h.keep.setRow s1 _,by simpa using h.len,?_,?_,?_,?_,h.src⟩
 ·intro j b' oa h1 h2;by_cases hj:i=j
  ·subst hj;rw [List.getElem?_set_self hi] at h1;simp only [Option.some.injEq] at h1;subst h1;rw [hρ] at h2;simp only [Option.some.injEq] at h2;subst h2;refine ⟨rfl,vs,hv,?_⟩;simp only [ho,if_true];have gG:=h.box i b _ hb hρ;obtain ⟨_,vs0,_,h3⟩:=gG;rw [if_pos ho] at h3;obtain ⟨_,aaA,hj0,_⟩:=h3;exact ⟨trivial,bZ,setRow_heap w g _ _ b.elem (0,0) hj0,hl⟩
  ·rw [List.getElem?_set_ne hj] at h1;refine (h.box j b' oa h1 h2).js λa ha mQ=>?_;subst ha;exact setRow_other w g _ _ (s2 j b' a (Ne.symm hj) h1 mQ h2)
 ·intro j b' a h1 FV h2;have key:∃ b2,bx[j]? =some b2/\b2.own=true:=by
   by_cases hj:i=j
   ·subst hj;exact ⟨b,hb,ho⟩
   ·rw [List.getElem?_set_ne hj] at h1;exact ⟨b',h1,FV⟩
  obtain ⟨b2,D2,ho2⟩:=key;obtain ⟨t1,t2,t3⟩:=h.sep j b2 a D2 ho2 h2;refine ⟨t1,?_,t3⟩;intro k b3 a3 JA vE CN CO;by_cases hk:i=k
  ·subst hk;exact t2 i b _ JA hb (by simp [aR.live,ho]) CO
  ·rw [List.getElem?_set_ne hk] at vE;exact t2 k b3 a3 JA vE CN CO
 ·intro v cs hE;exact (h.hold v cs hE).js λbb hne US=>setRow_other w g bb _ (by rintro rfl;exact s3 v cs hE hne US)
 ·intro j b' a h1 hl h2;by_cases hj:i=j
  ·subst hj;exact h.jM i b a hb (by simp [aR.live,ho]) h2
  ·rw [List.getElem?_set_ne hj] at h1;exact h.jM j b' a h1 hl h2
theorem zf (hi:P.info? T=some i) {cur:Array Value}
  (hg:w.heap[g]? =some (.cells cur t (0,0))) (hs:v.cells.size=i.size) (hb:off+v.cells.toList.length<=cur.size) (h1:∀ x∈v.cells.toList,x.oneCell'=true):
  (storeVar T ⟨g,off,none⟩ v).run P w= .ok () (w.setRow g (cur.toList.take off++v.cells.toList++cur.toList.drop (off+v.cells.toList.length)).toArray):=by
 unfold storeVar;have:=run_storeCells_at (P:=P) g off t v.cells.toList 0 cur w hg (by simpa using hb) h1;simp only [Nat.add_zero] at this;simp only [Sem.run_bind,bY hi,Result.andThen_ok,hs,ne_eq,not_true_eq_false,if_false,this]
def bj (vs:Lv) (off:Nat) (ws:Lv):Lv:=vs.take off++ws++vs.drop (off+ws.length)
def zg (P:Program) (T:TypeId) (bx:List aR) (b off:Nat) (s:SV) (K:List aR->Prop):Prop:=
 match bx[b]?,P.info? T with
 | some ⟨e,.ae cells,tot,true⟩,some i=>
  if gH s&&(cG s).all SV.one&&(cG s).length==i.size&&decide (off+(cG s).length<=cells.length)&&decide (0<(cG s).length)
  then K (bx.set b ⟨e,.ae (lay cells off (cG s)),tot,true⟩) else False
 | some ⟨e,.vals vs,tot,true⟩,some i=>
  if gH s&&(cG s).all SV.one&&(cG s).length==i.size&&decide (0<(cG s).length)
  then match SV.fY (cG s) with
   | some ws=>off+i.size<=vs.length/\K (bx.set b ⟨e,.vals (bj vs off ws),tot,true⟩)
   | none=>False
  else False
 | _,_=>False
theorem uu {ρ:Env}:∀ {l:List SV} {vs:Lv},l.all SV.one=true->SV.bF ρ l=some vs->∀ x∈vs,x.oneCell'=true:=by intro l vs h hv x hx;obtain ⟨k,hk,rfl⟩:=List.getElem_of_mem hx;obtain ⟨s,hs,hd⟩:=D1 hv (List.getElem?_eq_getElem hk);have:=List.mem_of_getElem? hs;exact one_den (List.all_eq_true.1 h s this) hd
theorem yg {mu:Fm} {bx:List aR} {E:Mem} {ρ:Env} (h:Rel w0 mu bx E ρ w) {x:aR} {s:SV} {r:Row}
  (hi:P.info? T=some i) (hx:bx[b]? =some x) (ho:x.own=true) (FB:gH s=true) (hall:(cG s).all SV.one=true) (hlen:(cG s).length=i.size) (hle:off+(cG s).length<=x.cells.length) (hpos:0<(cG s).length)
  (hr:∀ vs,SV.bF ρ x.cells=some vs->SV.bF ρ r.cells=some (vs.take off++v.cells.toList++vs.drop (off+v.cells.toList.length))) (hv:s.den ρ=some v) (ha:gS ρ b off=some av):
  ∃ w',(Instr.storeAt T av v).run P w= .ok () w'/\Rel w0 mu (bx.set b { x with row:=r }) E ρ w':=by
 have hne:x.cells≠[]:=λe=>by
  have h0:x.cells.length=0:=by rw [e];rfl
  omega
 obtain ⟨g,vs,bZ,hρ,ju,hg,htot⟩:=h.own hx ho hne;have JB:=iZ FB hv;have hvl:=bN JB;have Nc:=bN ju;unfold gS at ha;rw [hρ] at ha;simp only [Option.some.injEq] at ha;subst ha;have zh:(⟨g,0,none⟩:Addr).add off=⟨g,off,none⟩:=by rw [add_eq rfl];simp
 have hrun:=zf (P:=P) hi (g:=g) (off:=off) (v:=v) hg (by rw [← Array.length_toList,hvl,hlen]) (by rw [hvl,List.size_toArray,List.length_append,Nc];omega) (uu hall JB);refine ⟨w.setRow g ((vs.take off++v.cells.toList++vs.drop (off+v.cells.toList.length))++bZ).toArray,?_,?_⟩
 ·unfold Instr.storeAt;simp only [Instr.sureAddr,Sem.run_bind,Sem.run_pure,Result.andThen_ok,zh,hrun];congr 2;simp only [List.take_append_of_le_length (show off<=vs.length by omega),List.append_assoc];rw [List.drop_append_of_le_length (by omega)]
 ·refine h.setRow hx ho hρ ?_ ?_
  ·exact hr _ ju
  ·simp only [List.length_append,List.length_take,List.length_drop] at htot ⊢;omega
theorem pQ:∀ {l:List SV} {vs:Lv},SV.fY l=some vs->vs.length=l.length
 | [],_,h=>by simp only [SV.fY,Option.some.injEq] at h;subst h;rfl
 | x::l,_,h=>by
  simp only [SV.fY] at h;split at h
  ·rename_i v ws h1 h2;simp only [Option.some.injEq] at h;subst h;simp [pQ h2]
  ·cases h
theorem Aq {mu:Fm} {bx:List aR} {K:List aR->Prop} {E:Mem} {ρ:Env} (h:Rel w0 mu bx E ρ w) {s:SV}
  (hs:zg P T bx b off s K) (hv:s.den ρ=some v) (ha:gS ρ b off=some av):
  ∃ w' bA,(Instr.storeAt T av v).run P w= .ok () w'/\Rel w0 mu bA E ρ w'/\K bA:=by
 unfold zg at hs;split at hs
 ·rename_i e cells tot i hx hi;split at hs;case isFalse=>exact hs.elim
  rename_i lD;simp only [Bool.and_eq_true,beq_iff_eq,decide_eq_true_eq] at lD;obtain ⟨⟨⟨⟨FB,hall⟩,hlen⟩,hle⟩,hpos⟩:=lD;have JB:=iZ FB hv;have hvl:=bN JB;obtain ⟨w',h1,h2⟩:=yg (r:=.ae (lay cells off (cG s))) h hi hx rfl FB hall hlen hle hpos (λvs ju=>by have:=dQ (dQ (ir ju off) JB) (iL ju (off+(cG s).length));rw [hvl];exact this) hv ha
  exact ⟨w',_,h1,h2,hs⟩
 ·rename_i e vs tot i hx hi;split at hs;case isFalse=>exact hs.elim
  rename_i lD;simp only [Bool.and_eq_true,beq_iff_eq,decide_eq_true_eq] at lD;obtain ⟨⟨⟨FB,hall⟩,hlen⟩,hpos⟩:=lD;split at hs;case h_2=>exact hs.elim
  rename_i ws TG;obtain ⟨hle,hs⟩:=hs;have hwl:=pQ TG;have JB:=iZ FB hv;rw [SV.dR ρ _ TG] at JB;simp only [Option.some.injEq] at JB;obtain ⟨w',h1,h2⟩:=yg (r:=.vals (bj vs off ws)) h hi hx rfl FB hall hlen (by simp only [aR.cells,Row.cells,List.length_map];omega) hpos (λus ju=>by
   have :us=vs:=by have:=bU (ρ:=ρ) vs;simp only [aR.cells,Row.cells] at ju;rw [this] at ju;cases ju;rfl
   subst this;rw [← JB];exact bU _) hv ha
  exact ⟨w',_,h1,h2,hs⟩
 ·exact hs.elim
end Go.Sx
namespace Go.Sx
open Go.RowKit (Below)
variable {oa:Oa} {n:Nat} {w:World}
def dW (σ:List Nat) (n:Nat) (i:Nat):Nat:=
 match σ[i]? with
 | some j=>j
 | none=>n+(i-σ.length)
mutual
def SV.cD (σ:List Nat) (n:Nat):SV->SV
 | .raw v=>.raw v
 | .loc b off=>.loc (dW σ n b) off
 | .bH b off len cap=>.bH (dW σ n b) off len cap
 | .rp v off=>.rp v off
 | .agg l=>.agg (SV.dL σ n l)
 | .bB l=>.bB (SV.dL σ n l)
 | .fM f m l=>.fM f (SV.dL σ n m) (SV.dL σ n l)
 | .cr t v=>.cr t (SV.cD σ n v)
 | .vm t v=>.vm t (SV.cD σ n v)
def SV.dL (σ:List Nat) (n:Nat):List SV->List SV
 | []=>[]
 | x::l=>SV.cD σ n x::SV.dL σ n l
end
def Row.cD (σ:List Nat) (n:Nat):Row->Row
 | .ae l=>.ae (SV.dL σ n l)
 | .vals l=>.vals l
def aR.cD (σ:List Nat) (n:Nat) (b:aR):aR:={ b with row:=b.row.cD σ n }
mutual
theorem vF {ρ ρ':Env} {σ:List Nat} {n:Nat} (h:∀ i,ρ[dW σ n i]? =ρ'[i]?):∀ (s:SV),(s.cD σ n).den ρ=s.den ρ'
 | .raw v=>by simp only [SV.cD,SV.den]
 | .loc b off=>by simp only [SV.cD,SV.den,gS,h]
 | .bH b off len cap=>by simp only [SV.cD,SV.den,eu,h]
 | .rp v off=>by simp only [SV.cD,SV.den]
 | .agg l=>by simp only [SV.cD,SV.den,lQ h l]
 | .bB l=>by simp only [SV.cD,SV.den,lQ h l]
 | .fM f m l=>by simp only [SV.cD,SV.den,lQ h m,lQ h l]
 | .cr t x=>by simp only [SV.cD,SV.den,vF h x]
 | .vm t x=>by simp only [SV.cD,SV.den,vF h x]
theorem lQ {ρ ρ':Env} {σ:List Nat} {n:Nat} (h:∀ i,ρ[dW σ n i]? =ρ'[i]?):∀ (l:List SV),SV.bF ρ (SV.dL σ n l)=SV.bF ρ' l
 | []=>by simp only [SV.dL,SV.bF]
 | x::l=>by simp only [SV.dL,SV.bF,vF h x,lQ h l]
end
theorem vP (σ:List Nat) (n:Nat):∀ (l:Lv),SV.dL σ n (l.map .raw)=l.map .raw
 | []=>rfl
 | x::l=>by simp only [List.map_cons,SV.dL,SV.cD,vP σ n l]
theorem Row.tI (σ:List Nat) (n:Nat) (r:Row):(r.cD σ n).cells=SV.dL σ n r.cells:=by
 cases r with
 | ae l=>rfl
 | vals l=>exact (vP σ n l).symm
theorem uv (σ:List Nat) (n:Nat):∀ (l:List SV),(SV.dL σ n l).length=l.length
 | []=>rfl
 | x::l=>by simp only [SV.dL,List.length_cons,uv σ n l]
theorem zi (σ:List Nat) (n:Nat) (l:List SV):(SV.dL σ n l).isEmpty=l.isEmpty:=by cases l<;>rfl
theorem aR.sA (σ:List Nat) (n:Nat) (b:aR):(b.cD σ n).live=b.live:=by unfold aR.live aR.cD aR.cells;simp only [Row.tI,zi]
theorem iA.cD {ρ ρ':Env} {σ:List Nat} (h:∀ i,ρ[dW σ n i]? =ρ'[i]?) {b:aR}:iA w ρ oa (b.cD σ n)↔iA w ρ' oa b:=by
 cases oa with
 | none=>
  simp only [iA,aR.cells,aR.cD,Row.tI];constructor
  ·rintro ⟨h1,h2⟩;exact ⟨List.eq_nil_of_length_eq_zero (by rw [← uv σ n,h1];rfl),h2⟩
  ·rintro ⟨h1,h2⟩;exact ⟨by rw [h1];rfl,h2⟩
 | some a=>
  simp only [iA,aR.cells,aR.cD,Row.tI,lQ h];exact Iff.rfl
mutual
def SV.pR:SV->Option Nat
 | .bH b _ _ _=>some b
 | .agg l| .bB l=>SV.lK l
 | .fM _ m l=>match SV.lK m with
  | some b=>some b
  | none=>SV.lK l
 | .cr _ v=>SV.pR v
 | .vm _ v=>SV.pR v
 | _=>none
def SV.lK:List SV->Option Nat
 | []=>none
 | x::l=>match SV.pR x with
  | some b=>some b
  | none=>SV.lK l
end
def iP (base:Oa) (off len cap:Nat):Value:=.slice (base.map (·.add off)) len cap
mutual
def SV.subst (b:Nat) (base:Oa):SV->SV
 | .bH b' off len cap=>if b'=b then .raw (iP base off len cap) else .bH b' off len cap
 | .agg l=>.agg (SV.lR b base l)
 | .bB l=>.bB (SV.lR b base l)
 | .fM f m l=>.fM f (SV.lR b base m) (SV.lR b base l)
 | .cr t v=>.cr t (SV.subst b base v)
 | .vm t v=>.vm t (SV.subst b base v)
 | s=>s
def SV.lR (b:Nat) (base:Oa):List SV->List SV
 | []=>[]
 | x::l=>SV.subst b base x::SV.lR b base l
end
def Row.val:Row->Option Lv
 | .ae l=>SV.fY l
 | .vals l=>some l
def Row.pR:Row->Option Nat
 | .ae l=>SV.lK l
 | .vals _=>none
def aR.subst (b:Nat) (base:Oa) (y:aR):aR:=
 match y with
 | ⟨e,.ae l,t,o⟩=>⟨e,.ae (SV.lR b base l),t,o⟩
 | ⟨e,.vals l,t,o⟩=>⟨e,.vals l,t,o⟩
def gD (E':Mem) (base:Oa) (cs:Lv):Prop:=(base=none->cs=[])/\∀ off m len cap,off+m<=cs.length->E' (iP base off len cap) ((cs.drop off).take m)
def deep (bx:List aR):Nat->Nat->Nat
 | 0,b=>b
 | n+1,b=>match bx[b]? with
  | some y=>match y.row.pR with
   | some b'=>deep bx n b'
   | none=>b
  | none=>b
def BD:Nat->List SV->List aR->Mem->(List SV->List aR->Mem->Prop)->Prop
 | 0,_,_,_,_=>False
 | n+1,ss,bx,E,K=>
  match SV.lK ss with
  | none=>K ss bx E
  | some b0=>match deep bx 4 b0 with
   | b=>match bx[b]? with
    | some y=>match y.row.val with
     | some cs=>∀ (base:Oa) (E':Mem),Mem.le E E'->gD E' base cs->BD n (SV.lR b base ss) ((bx.set b { y with own:=false }).map (aR.subst b base)) E' K
     | none=>False
    | none=>False
def aW (E:Mem) (K:SV->Mem->Prop):SV->List aR->Mem->Prop:=λs bx E'=>BD 16 [s] bx E' λss _ mN=>Mem.le E mN/\match ss with
 | [r]=>match r.val with
  | some _=>K r mN
  | none=>False
 | _=>False
end Go.Sx
namespace Go.Sx
open Go.RowKit (Below)
variable {P:Program} {T:TypeId} {v:Value}
abbrev KT:=SV->List aR->Mem->Prop
abbrev cK:=FuncId->List SV->List aR->Mem->KT->Prop
def LG:FuncId:=4294967296
def cU (c:Prop) [Decidable c] (k:Prop):Prop:=if c then k else False
theorem af {c:Prop} [Decidable c] {k:Prop} (h:c) (hk:k):cU c k:=by unfold cU;rw [if_pos h];exact hk
theorem dX {c:Prop} [Decidable c] {k:Prop} (h:cU c k):c/\k:=by
 unfold cU at h;split at h
 ·exact ⟨‹_›,h⟩
 ·exact h.elim
def jh (S:St):Operand->Option SV
 | .tmp t=>match S.fr[t]? with |some o=>o|none=>none
 | .const v=>some (.raw v)
 | .global g=>some (.raw (.pointer (some ⟨g,0,none⟩)))
 | .func f=>some (.fM f [] [])
def tJ (S:St):List Operand->Option (List SV)
 | []=>some []
 | x::l=>match jh S x,tJ S l with
  | some s,some ss=>some (s::ss)
  | _,_=>none
inductive Lf where
 | int (k:IntKind)|bool|slice|str|other
def leaf:TypeDesc->Lf
 | .int k=>.int k
 | .bool=>.bool
 | .slice _=>.slice
 | .string=>.str
 | _=>.other
def zj (l:Lf) (f:SV->Prop):Prop:=
 match l with
 | .int k=>∃ n:Int,f (.raw (.int k n))
 | .bool=>∃ b:Bool,f (.raw (.bool b))
 | .slice=>∃ (base:Oa) (len cap:Nat),f (.raw (.slice base len cap))
 | .str=>∃ s:ByteArray,f (.raw (.string s))
 | .other=>∃ v:Value,f (.raw v)
theorem uw {l:Lf} {f:SV->Prop} (h:zj l f):∃ s,f s:=by
 cases l<;>simp only [zj] at h
 ·obtain ⟨n,h⟩:=h;exact ⟨_,h⟩
 ·obtain ⟨n,h⟩:=h;exact ⟨_,h⟩
 ·obtain ⟨a,b,c,h⟩:=h;exact ⟨_,h⟩
 ·obtain ⟨n,h⟩:=h;exact ⟨_,h⟩
 ·obtain ⟨n,h⟩:=h;exact ⟨_,h⟩
def vQ:List Lf->(List SV->Prop)->Prop
 | [],f=>f []
 | l::ls,f=>zj l λs=>vQ ls λss=>f (s::ss)
theorem ny:∀ {ls:List Lf} {f:List SV->Prop},vQ ls f->∃ ss,f ss
 | [],_,h=>⟨_,h⟩
 | _::_,_,h=>let ⟨_,h1⟩:=uw h;let ⟨_,h2⟩:=ny h1;⟨_,h2⟩
def leaves (P:Program):Nat->TypeId->List Lf
 | 0,_=>[]
 | n+1,T=>match P.underlying T with
  | some (.struct fs)=>fs.toList.flatMap λf=>leaves P n f.type
  | some (.array k e)=>(List.replicate k (leaves P n e)).flatten
  | some d=>[leaf d]
  | none=>[]
def bt (P:Program) (E:Mem) (T:TypeId) (v:Value) (off:Nat) (s:SV):Prop:=∃ cs,E v cs/\iB P T (cs.map .raw) off=some s
def qB (P:Program) (T:TypeId) (R:SV->Prop) (K:SV->Prop):Prop:=
 match P.underlying T with
 | some (.struct _)|some (.array ..)=>vQ (leaves P 12 T) λcs=>R (.agg cs)/\K (.agg cs)
 | some d=>zj (leaf d) λs=>R s/\K s
 | none=>False
theorem lJ {R:SV->Prop} {K:SV->Prop} (h:qB P T R K):∃ s,R s/\K s:=by
 unfold qB at h;split at h
 ·obtain ⟨ss,h1,h2⟩:=ny h;exact ⟨_,h1,h2⟩
 ·obtain ⟨ss,h1,h2⟩:=ny h;exact ⟨_,h1,h2⟩
 ·exact uw h
 ·exact h.elim
def gA (P:Program) (T:TypeId) (vs:Lv) (off:Nat) (s:SV):Prop:=iB P T (vs.map .raw) off=some s
def eJ (P:Program) (T:TypeId):Option Nat:=(P.info? T).map (·.size)
def pS (place:Nat->Option (Nat×Nat)) (cells:List SV):List (Nat×SV)->Option (List SV)
 | []=>some cells
 | (i,s)::rest=>
  match place i with
  | none=>none
  | some (off,size)=>
   if gH s=true/\(cG s).length=size/\off+(cG s).length<=cells.length then pS place (lay cells off (cG s)) rest else none
def parts (S:St):List (Nat×Operand)->Option (List (Nat×SV))
 | []=>some []
 | (i,x)::l=>match jh S x,parts S l with
  | some s,some ss=>some ((i,s)::ss)
  | _,_=>none
def vR (P:Program) (e:TypeId) (n:Nat):Option (List SV):=
 match P.info? e with
 | some i=>match i.zero with
  | some z=>if gH (.raw z)=true/\(cG (.raw z)).length=i.size then some (List.replicate n (cG (.raw z))).flatten else none
  | none=>none
 | none=>none
def aaB (s:Option SV):Option Int:=
 match s with
 | some (.raw (.int _ n))=>some n
 | _=>none
def BE (o:Option Int) (top:Nat) (k:Prop):Prop:=
 match o with
 | none=>k
 | some i=>cU (0<=i/\i<=(top:Int)) k
def toN (o:Option Int) (d:Nat):Nat:=match o with |none=>d|some i=>i.toNat
def jj (lo hi mx:Option Int) (len cap:Nat) (K:Nat->Nat->Nat->Prop):Prop:=
 match hi,mx with
 | none,some _=>False
 | _,_=>BE mx cap<|BE hi (toN mx cap)<|BE lo (toN hi len)<|K (toN lo 0) (toN hi len) (toN mx cap)
def vn (S:St):Option Operand->Option (Option Int)
 | none=>some none
 | some x=>match jh S x with
  | some (.raw (.int _ n))=>some (some n)
  | _=>none
def JC (l:List SV):Option Lv:=SV.fY l
def kf (P:Program) (s:Sem Value) (K:SV->Prop):Prop:=
 match gU P s with
 | some v=>K (.raw v)
 | none=>False
def JD (P:Program) (op:BinOp) (T:TypeId) (x y:Operand) (v u:Value) (K:SV->Prop):Prop:=
 match op,v,u with
 | .rem,.int k a,.int k' b=>if k=k' then b≠0/\K (.raw (.int k (a.tmod b))) else False
 | .quo,.int k a,.int k' b=>if k=k' then b≠0/\K (.raw (.int k (k.wrap (a.tdiv b)))) else False
 | .shl,.int k a,.int _ b=>cU (0<=b) (K (.raw (.int k (k.wrap (a*2 ^ min b.toNat k.bits)))))
 | .shr,.int k a,.int _ b=>cU (0<=b) (K (.raw (.int k (a.fdiv (2 ^ min b.toNat k.bits)))))
 | _,_,_=>kf P (do eqGuard op T x y v u;binOp op T v u) K
theorem yh {op:BinOp} {x y:Operand} {u:Value} {K:SV->Prop} (h:JD P op T x y v u K):
  ∃ s:Sem Value,(do eqGuard op T x y v u;binOp op T v u)=s/\kf P s K:=by
 unfold JD at h;split at h
 ·rename_i k a k' b;split at h;case isFalse=>exact h.elim
  rename_i hk;subst hk;refine ⟨pure (.int k (a.tmod b)),?_,h.2⟩;show binOp .rem T (.int k a) (.int k b)=_;simp [binOp,Op.intDiv,h.1]
 ·rename_i k a k' b;split at h;case isFalse=>exact h.elim
  rename_i hk;subst hk;refine ⟨pure (.int k (k.wrap (a.tdiv b))),?_,h.2⟩;show binOp .quo T (.int k a) (.int k b)=_;simp [binOp,Op.intDiv,h.1]
 ·rename_i k a k' b;obtain ⟨hb,h⟩:=dX h;refine ⟨pure (.int k (k.wrap (a*2 ^ min b.toNat k.bits))),?_,h⟩;show binOp .shl T (.int k a) (.int k' b)=_;simp [binOp,Op.shift,show ¬ b<0 by omega]
 ·rename_i k a k' b;obtain ⟨hb,h⟩:=dX h;refine ⟨pure (.int k (a.fdiv (2 ^ min b.toNat k.bits))),?_,h⟩;show binOp .shr T (.int k a) (.int k' b)=_;simp [binOp,Op.shift,show ¬ b<0 by omega]
 ·exact ⟨_,rfl,h⟩
def nL:SV->SV->Option Bool
 | .loc ..,.raw (.pointer none)| .rp ..,.raw (.pointer none)| .raw (.pointer none),.loc .. | .raw (.pointer none),.rp .. =>some false
 | _,_=>none
def UT:TypeDesc->Bool
 | .pointer _=>true
 | _=>false
def mR (P:Program) (T:TypeId) (name:String):Option FuncId:=
 match P.info? T with
 | some i=>match i.methods.find? (·.name==name) with
  | some m=>match m.path.toList,m.func,P.underlying T with
   | [],some (f,true),some (.pointer _)=>some f
   | [],some (_,false),some (.pointer _)=>none
   | [],some (f,false),some _=>some f
   | _,_,_=>none
  | none=>none
 | none=>none
def yj (ak:cK) (f:FuncId) (args:List SV) (bx:List aR) (E:Mem) (K:KT):Prop:=
 if f=LG then False else
 match SV.fY args with
 | some _=>ak f args [] E λs bA E'=>Mem.le E E'/\K (s.cD [] bx.length) (bx++bA.map (aR.cD [] bx.length)) E'
 | none=>ak f args bx E K
def FW (z:Nat) (s:SV) (bx:List aR) (E:Mem) (K:Nat->Row->Prop):Prop:=
 match s with
 | .raw (.slice base m cap)=>∃ cs,(cs=[]\/E (.slice base m cap) cs)/\m*z<=cs.length/\(∀ x∈cs,x.oneCell'=true)/\K m (.vals (cs.take (m*z)))
 | .bH b off m _=>match bx[b]? with
  | some y=>match y.row with
   | .ae cells=>if off+m*z<=cells.length/\cells.all SV.one=true then K m (.ae ((cells.drop off).take (m*z))) else False
   | .vals vs=>off+m*z<=vs.length/\(∀ x∈vs,x.oneCell'=true)/\K m (.vals ((vs.drop off).take (m*z)))
  | none=>False
 | _=>False
def zk (a b:Row) (K:Row->Prop):Prop:=
 match a,b with
 | .ae a,.ae b=>K (.ae (a++b))
 | .vals a,.vals b=>K (.vals (a++b))
 | .ae a,.vals b=>match SV.fY a with
  | some a=>K (.vals (a++b))
  | none=>False
 | .vals a,.ae b=>match SV.fY b with
  | some b=>K (.vals (a++b))
  | none=>False
def sB (n:Nat):Row->Row
 | .ae l=>.ae (l.take n)
 | .vals l=>.vals (l.take n)
def dead (y:aR):aR:=⟨y.elem,.ae [],0,false⟩
def LH (b:Bool) (p q:Prop):Prop:=match b with
 | true=>p->q
 | false=>q
theorem oh {b:Bool} {p q:Prop} (h:LH b p q) (hp:p):q:=by
 cases b
 ·exact h
 ·exact h hp
def sC (s x:SV):Bool:=match s,x with
 | .bH b _ _ _,.bH b' _ _ _=>b==b'
 | _,_=>false
def oo (sm:Bool) (e:TypeId) (i:TypeInfo) (s:SV) (m:Nat) (new:Row) (bx:List aR) (E:Mem) (K:KT):Prop:=
 match s with
 | .raw (.slice base n cap)=>cond base.isNone
   (if n=0/\cap=0 then cU (m*max i.bytes 1<=140737488355328) (∀ cap' aa:Nat,m<=cap'->cap'*i.size<=aa->K (.bH bx.length 0 m cap') (bx++[⟨e,new,aa,true⟩]) E) else False)
   (FW i.size s bx E λ_ old=>cU (cap<n+m) (cU ((n+m)*max i.bytes 1<=140737488355328) (zk old new λrow=>
    ∀ cap' aa:Nat,n+m<=cap'->cap'*i.size<=aa->K (.bH bx.length 0 (n+m) cap') (bx++[⟨e,row,aa,true⟩]) E)))
 | .bH b off n cap=>if off=0 then match bx[b]? with
  | some ⟨e',r,tot,true⟩=>if e'=e then
    n*i.size<=r.cells.length/\cap*i.size<=tot/\n<=cap/\cU ((n+m)*max i.bytes 1<=140737488355328) (zk (sB (n*i.size) r) new λrow=>
     ∀ cap' aa:Nat,n+m<=cap'->cap'*i.size<=aa->LH sm (cap<=cap') (K (.bH bx.length 0 (n+m) cap') (bx.set b (dead ⟨e',r,tot,true⟩)++[⟨e',row,aa,true⟩]) E)) else False
  | _=>False else False
 | _=>False
def FX (s:SV) (bx:List aR):Bool:=
 match s with
 | .bH b _ _ _=>match bx[b]? with
  | some ⟨_,.vals _,_,_⟩=>true
  | _=>false
 | _=>false
def vG (P:Program) (e:TypeId) (s x:SV) (bx:List aR) (E:Mem) (K:KT):Prop:=
 match P.info? e with
 | some i=>match i.zero with
  | some zv=>if zv.cells.size=i.size/\0<i.size then FW i.size x bx E λm new=>
    cond (FX s bx) (match new with
     | .ae l=>match SV.fY l with
      | some _=>oo (sC s x) e i s m (.ae l) bx E K
      | none=>BD 8 l bx E λl' bA E'=>oo (sC s x) e i s m (.ae l') bA E' K
     | .vals l=>oo (sC s x) e i s m (.vals l) bx E K) (oo (sC s x) e i s m new bx E K) else False
  | none=>False
 | none=>False
def BF (r src:Row):Row:=match r,src with
 | .vals _,.ae l=>(match SV.fY l with |some vs=>.vals vs|none=>.ae l)
 | _,s=>s
def JE (s:SV) (bx:List aR):Option (Nat×Nat×Nat×TypeId×Lv×Nat×Bool):=
 match s with
 | .bH b off n _=>match bx[b]? with
  | some ⟨e,.vals vs,tot,o⟩=>some (b,off,n,e,vs,tot,o)
  | _=>none
 | _=>none
def copyV (z:Nat) (d x:Nat×Nat×Nat×TypeId×Lv×Nat×Bool) (bx:List aR) (E:Mem) (K:KT):Prop:=
 match d,x with
 | (b,off,n,e',vs,tot,_),(_,off',m,_,us,_,_)=>
  off'+min m n*z<=us.length/\off<=vs.length/\(off+min m n*z<=vs.length\/off+min m n*z<=tot)/\(∀ x∈us,x.oneCell'=true)/\
   K (.raw (.int .i64 (min m n:Nat))) (bx.set b ⟨e',.vals (bj vs off ((us.drop off').take (min m n*z))),tot,true⟩) E
def CP (P:Program) (e:TypeId) (d x:SV) (bx:List aR) (E:Mem) (K:KT):Prop:=
 match P.info? e with
 | some i=>match JE d bx,JE x bx with
  | some (b,off,n,e',vs,tot,true),some y=>copyV i.size (b,off,n,e',vs,tot,true) y bx E K
  | _,_=>FW i.size x bx E λm src=>
   match d with
   | .bH b off n _=>match bx[b]? with
    | some ⟨e',r,tot,true⟩=>match r,sB (min m n*i.size) (BF r src) with
     | .ae cells,.ae new=>if off+n*i.size<=cells.length then K (.raw (.int .i64 (min m n:Nat))) (bx.set b ⟨e',.ae (lay cells off new),tot,true⟩) E else False
     | .vals vs,.vals new=>off+n*i.size<=vs.length/\K (.raw (.int .i64 (min m n:Nat))) (bx.set b ⟨e',.vals (bj vs off new),tot,true⟩) E
     | .ae cells,.vals new=>match SV.fY cells with
      | some vs=>off+n*i.size<=vs.length/\K (.raw (.int .i64 (min m n:Nat))) (bx.set b ⟨e',.vals (bj vs off new),tot,true⟩) E
      | none=>False
     | .vals vs,.ae new=>match SV.fY new with
      | some new=>off+n*i.size<=vs.length/\K (.raw (.int .i64 (min m n:Nat))) (bx.set b ⟨e',.vals (bj vs off new),tot,true⟩) E
      | none=>False
    | _=>False
   | _=>False
 | none=>False
def bW (z:Lv) (n:Nat):Lv:=(List.replicate n z).flatten
def CQ (P:Program) (e:TypeId) (l c:Int) (bx:List aR) (E:Mem) (K:KT):Prop:=
 match P.info? e with
 | some i=>match i.zero with
  | some zv=>if zv.cells.size=i.size/\zv.cells.toList.all Value.oneCell'=true then
    cU (0<=l/\l<=c)<|cU (c*(max i.bytes 1:Nat)<=140737488355328)<|K (.bH bx.length 0 l.toNat c.toNat) (bx++[⟨e,.vals (bW zv.cells.toList c.toNat),c.toNat*i.size,true⟩]) E else False
  | none=>False
 | none=>False
def zl (P:Program) (e:TypeId) (d:SV) (bx:List aR) (E:Mem) (K:KT):Prop:=
 match P.info? e with
 | some i=>match i.zero with
  | some zv=>if zv.cells.size=i.size/\zv.cells.toList.all Value.oneCell'=true then
    match d with
    | .bH b off n _=>match bx[b]? with
     | some ⟨e',.vals vs,tot,true⟩=>off<=vs.length/\off+n*i.size<=tot/\K (.bB []) (bx.set b ⟨e',.vals (bj vs off (bW zv.cells.toList n)),tot,true⟩) E
     | _=>False
    | _=>False
   else False
  | none=>False
 | none=>False
def vH (P:Program) (e:TypeId) (s x:SV) (bx:List aR) (E:Mem) (K:KT):Prop:=
 match P.info? e with
 | some i=>match x with
  | .raw (.int _ k)=>match i.zero with
   | some zv=>if zv.cells.size=i.size/\0<i.size then
     match s with
     | .bH b off n cap=>if off=0 then match bx[b]? with
      | some ⟨_,.vals vs,_,true⟩=>n*i.size<=vs.length/\cU (0<k) (cU ((cap:Int)<n+k) (cU ((n+k)*(max i.bytes 1:Nat)<=140737488355328)
        (∀ cap' aa:Nat,n+k.toNat<=cap'->cap'*i.size<=aa->K (.bH bx.length 0 (n+k.toNat) cap') (bx++[⟨e,.vals (vs.take (n*i.size)++bW zv.cells.toList k.toNat),aa,true⟩]) E)))
      | _=>False else False
     | _=>False else False
   | none=>False
  | _=>False
 | none=>False
def D3 (P:Program) (r:TypeId->SV->SV->Option Bool) (cs ds:List SV):List Field->Option Bool
 | []=>some true
 | f :: fs => if f.name ≠ "_" then
   match iB P f.type cs f.offset,iB P f.type ds f.offset with
   | some x,some y=>match r f.type x y,D3 P r cs ds fs with
    | some b,some c=>some (b&&c)
    | _,_=>none
   | _,_=>none
  else D3 P r cs ds fs
def xT (P:Program):Nat->TypeId->SV->SV->Option Bool
 | 0,_,_,_=>none
 | n+1,T,s,t=>match P.underlying T with
  | some (.int _)=>match s,t with
   | .raw (.int k a),.raw (.int k' b)=>if k=k' then some (a==b) else none
   | _,_=>none
  | some .bool=>match s,t with
   | .raw (.bool a),.raw (.bool b)=>some (a==b)
   | _,_=>none
  | some (.struct fs)=>match fN s,fN t with
   | some cs,some ds=>if P.stoodInHeld T=false then D3 P (xT P n) cs ds fs.toList else none
   | _,_=>none
  | _=>none
def JF (P:Program) (src dst:TypeId) (s:SV) (bx:List aR) (K:List aR->Prop):Prop:=match s with
 | .bH b _ _ _=>match bx[b]? with
  | some ⟨e,r,tot,true⟩=>match r.cells with
   | _::_=>if src=dst then match P.underlying src with
    | some (.slice e')=>match P.underlying e' with
     | some (.int .u8)=>K (bx.set b ⟨e,r,tot,false⟩)
     | _=>False
    | _=>False else False
   | []=>False
  | _=>False
 | _=>False
def qC (s t:SV) (K:Bool->Prop):Prop:=
 match t with
 | .raw (.slice none _ _)=>match s with
  | .bH _ _ len cap=>∀ r:Bool,(r=true->len=0/\cap=0)->K r
  | .raw (.slice base _ _)=>K base.isNone
  | _=>False
 | _=>False
def kg (P:Program) (ak:cK) (op:Op) (S:St) (K:KT):Prop:=
 match op with
 | .move x| .assign x=>match jh S x with |some s=>K s S.bx S.E|none=>False
 | .pick c x y=>match jh S c,jh S x,jh S y with
  | some (.raw (.bool t)),some (.raw (.bool a)),some (.raw (.bool b))=>K (.raw (.bool (cond t a b))) S.bx S.E
  | some (.raw (.bool t)),some a,some b=>cond t (K a S.bx S.E) (K b S.bx S.E)
  | some (.raw (.bool true)),some a,none=>K a S.bx S.E
  | some (.raw (.bool false)),none,some b=>K b S.bx S.E
  | _,_,_=>False
 | .alloc T=>match P.info? T with
  | some i=>match i.zero with
   | some z=>if gH (.raw z)=true then K (.loc S.bx.length 0) (S.bx++[⟨T,.ae (cG (.raw z)),(cG (.raw z)).length,true⟩]) S.E else False
   | none=>False
  | none=>False
 | .box T x=>match jh S x with
  | some s=>if gH s=true then K (.loc S.bx.length 0) (S.bx++[⟨T,.ae (cG s),(cG s).length,true⟩]) S.E else False
  | none=>False
 | .build T ps=>match P.info? T,P.underlying T,parts S ps.toList with
  | some i,some (.struct fs),some ss=>match i.zero,fs.toList.mapM (λf=>(P.info? f.type).map λi=>(f.offset,i.size)) with
   | some z,some places=>match fN (.raw z) with
    | some zs=>match pS (places.toArray[·]?) zs ss with
     | some cs=>K (.agg cs) S.bx S.E
     | none=>False
    | none=>False
   | _,_=>False
  | some i,some (.array _ e),some ss=>match i.zero,P.info? e with
   | some z,some ie=>match fN (.raw z) with
    | some zs=>match pS (λk=>some (k*ie.size,ie.size)) zs ss with
     | some cs=>K (.agg cs) S.bx S.E
     | none=>False
    | none=>False
   | _,_=>False
  | _,_,_=>False
 | .buildSlice T n ps=>match P.underlying T,parts S ps.toList with
  | some (.slice e),some ss=>match eJ P e,vR P e n with
   | some m,some zs=>if n*m<=16777216 then
     match pS (λk=>some (k*m,m)) zs ss with
     | some cs=>K (.bH S.bx.length 0 n n) (S.bx++[⟨e,.ae cs,cs.length,true⟩]) S.E
     | none=>False else False
   | _,_=>False
  | _,_=>False
 | .load T x=>match jh S x with
  | some (.loc b off)=>match S.bx[b]? with
   | some y=>match y.row with
    | .ae cells=>match iB P T cells off with
     | some r=>K r S.bx S.E
     | none=>False
    | .vals vs=>qB P T (gA P T vs off) λs=>K s S.bx S.E
   | none=>False
  | some (.rp v off)=>qB P T (bt P S.E T v off) λs=>K s S.bx S.E
  | _=>False
 | .store T x y=>match jh S x,jh S y with
  | some (.loc b off),some s=>zg P T S.bx b off s λbx=>K (.raw undef) bx S.E
  | _,_=>False
 | .nilCheck x=>match jh S x with
  | some (.loc b off)=>K (.loc b off) S.bx S.E
  | some (.rp v off)=>K (.rp v off) S.bx S.E
  | some (.fM f m l)=>K (.fM f m l) S.bx S.E
  | some (.cr t v)=>K (.cr t v) S.bx S.E
  | some (.vm n (.cr T v))=>match mR P T n,P.underlying T with
   | some _,some (.pointer _)=>K (.vm n (.cr T v)) S.bx S.E
   | _,_=>False
  | _=>False
 | .binOp op T x y _=>match jh S x,jh S y with
  | some s,some t=>match op,nL s t,P.underlying T with
   | .eql,some r,some (.pointer _)=>K (.raw (.bool r)) S.bx S.E
   | .neq,some r,some (.pointer _)=>K (.raw (.bool !r)) S.bx S.E
   | .eql,none,some (.slice _)=>qC s t λr=>K (.raw (.bool r)) S.bx S.E
   | .neq,none,some (.slice _)=>qC s t λr=>K (.raw (.bool !r)) S.bx S.E
   | .eql,none,some (.struct _)=>if P.eqGuardType P.depth T=false then match xT P 12 T s t with
    | some r=>K (.raw (.bool r)) S.bx S.E
    | none=>False else False
   | .neq,none,some (.struct _)=>if P.eqGuardType P.depth T=false then match xT P 12 T s t with
    | some r=>K (.raw (.bool !r)) S.bx S.E
    | none=>False else False
   | _,_,_=>match s.val,t.val with
    | some v,some u=>JD P op T x y v u λr=>K r S.bx S.E
    | _,_=>False
  | _,_=>False
 | .unOp op _ x=>match jh S x with
  | some (.raw v)=>kf P (Op.unary op v) λr=>K r S.bx S.E
  | _=>False
 | .convert src dst x=>match jh S x with
  | some s=>match s.val with
   | some v=>kf P (convert src dst v) λr=>K r S.bx S.E
   | none=>JF P src dst s S.bx λbx=>K s bx S.E
  | none=>False
 | .makeInterface T x=>match jh S x,P.underlying T with
  | some _,some (.interface _)=>False
  | some s,some _=>K (.cr T s) S.bx S.E
  | _,_=>False
 | .makeFunc (.func f) first jL=>match tJ S first.toList,tJ S jL.toList with
  | some m,some l=>K (.fM f m l) S.bx S.E
  | _,_=>False
 | .makeFunc (.method n) first jL=>match tJ S first.toList,jL.toList with
  | some [.cr T v],[]=>K (.vm n (.cr T v)) S.bx S.E
  | _,_=>False
 | .makeSlice T l c=>match jh S l,jh S c,P.underlying T with
  | some (.raw (.int _ l)),some (.raw (.int _ c)),some (.slice e)=>CQ P e l c S.bx S.E K
  | _,_,_=>False
 | .slice T x lo hi mx=>match jh S x,vn S lo,vn S hi,vn S mx,P.underlying T with
  | some (.loc b off),some l,some h,some m,some (.array n e)=>match eJ P e with
   | some z=>jj l h m n n λl h m=>K (.bH b (if m=l then off else off+l*z) (h-l) (m-l)) S.bx S.E
   | none=>False
  | some (.bH b off len cap),some l,some h,some m,some (.slice e)=>match eJ P e with
   | some z=>jj l h m len cap λl h m=>K (.bH b (if m=l then off else off+l*z) (h-l) (m-l)) S.bx S.E
   | none=>False
  | some (.raw (.slice base len cap)),some l,some h,some m,some (.slice e)=>match eJ P e with
   | some z=>cU (len<=cap)<|jj l h m len cap λl h m=>∀ (base':Oa) (E':Mem),Mem.le S.E E'->
     (∀ cs,S.E (.slice base len cap) cs->E' (.slice base' (h-l) (m-l)) ((cs.drop (l*z)).take ((h-l)*z)))->base'.isNone=base.isNone->K (.raw (.slice base' (h-l) (m-l))) S.bx E'
   | none=>False
  | _,_,_,_,_=>False
 | .fieldAddr T x f=>match P.underlying T with
  | some (.struct fs)=>match fs[f]? with
   | some xU=>match eJ P xU.type,jh S x with
    | some n,some (.loc b off)=>if n=0 then False else K (.loc b (off+xU.offset)) S.bx S.E
    | some n,some (.rp v off)=>if n=0 then False else K (.rp v (off+xU.offset)) S.bx S.E
    | _,_=>False
   | none=>False
  | _=>False
 | .field T x f=>match P.underlying T with
  | some (.struct fs)=>match fs[f]?,jh S x with
   | some xU,some s=>match fN s with
    | some cs=>match iB P xU.type cs xU.offset with
     | some r=>K r S.bx S.E
     | none=>False
    | none=>False
   | _,_=>False
  | _=>False
 | .indexAddr T x i=>match jh S x,jh S i,P.underlying T with
  | some (.loc b off),some (.raw (.int _ n)),some (.array len e)=>match eJ P e with
   | some z=>cU (0<=n/\n<(len:Int)) (K (.loc b (off+n.toNat*z)) S.bx S.E)
   | none=>False
  | some (.rp v off),some (.raw (.int _ n)),some (.array len e)=>match eJ P e with
   | some z=>cU (0<=n/\n<(len:Int)) (K (.rp v (off+n.toNat*z)) S.bx S.E)
   | none=>False
  | some (.bH b off len _),some (.raw (.int _ n)),some (.slice e)=>match eJ P e with
   | some z=>cU (0<=n/\n<(len:Int)) (K (.loc b (off+n.toNat*z)) S.bx S.E)
   | none=>False
  | some (.raw (.slice base len cap)),some (.raw (.int _ n)),some (.slice e)=>match eJ P e with
   | some z=>cU (0<=n/\n<(len:Int)) ((∃ cs,S.E (.slice base len cap) cs/\cs≠[])/\K (.rp (.slice base len cap) (n.toNat*z)) S.bx S.E)
   | none=>False
  | _,_,_=>False
 | .index T x i=>match jh S x,jh S i,P.underlying T with
  | some s,some (.raw (.int _ n)),some (.array len e)=>match fN s,eJ P e with
   | some cs,some z=>cU (0<=n/\n<(len:Int)) (match iB P e cs (n.toNat*z) with
    | some r=>K r S.bx S.E
    | none=>False)
   | _,_=>False
  | some (.raw v),some (.raw i),_=>kf P (Instr.index T v i) λr=>K r S.bx S.E
  | _,_,_=>False
 | .extract x i=>match jh S x with
  | some (.bB l)=>match l[i]? with |some s=>K s S.bx S.E|none=>False
  | some (.raw (.tuple vs))=>match vs.toList[i]? with |some v=>K (.raw v) S.bx S.E|none=>False
  | _=>False
 | .typeAssert x T U ok=>match jh S x with
  | some s=>match s.val with
   | some v=>kf P (Instr.typeAssert v T U ok) λr=>K r S.bx S.E
   | none=>False
  | none=>False
 | .call c=>match tJ S c.args.toList with
  | some args=>match c.callee with
   | .value f=>match jh S f with
    | some (.fM g first jL)=>yj ak g (first++args++jL) S.bx S.E K
    | some (.raw (.func (.yield l) m b))=>ak LG (.raw (.func (.yield l) m b)::args) S.bx S.E K
    | _=>False
   | .invoke r name=>match jh S r with
    | some (.cr T v)=>match mR P T name with
     | some g=>yj ak g (v::args) S.bx S.E K
     | none=>False
    | _=>False
   | .builtin .len=>match args,(c.argTypes[0]?).bind P.underlying with
    | [.raw (.slice _ n _)],some (.slice _)=>K (.raw (.int .i64 n)) S.bx S.E
    | [.bH _ _ n _],some (.slice _)=>K (.raw (.int .i64 n)) S.bx S.E
    | [.raw (.string s)],some .string=>K (.raw (.int .i64 s.size)) S.bx S.E
    | [_],some (.array n _)=>K (.raw (.int .i64 n)) S.bx S.E
    | _,_=>False
   | .builtin .cap=>match args,(c.argTypes[0]?).bind P.underlying with
    | [.raw (.slice _ _ n)],some (.slice _)=>K (.raw (.int .i64 n)) S.bx S.E
    | [.bH _ _ _ n],some (.slice _)=>K (.raw (.int .i64 n)) S.bx S.E
    | _,_=>False
   | .builtin .append=>match args,c.argTypes.toList with
    | [s,x],[t,u]=>match P.underlying t,P.underlying u with
     | some (.slice e),some (.slice _)=>vG P e s x S.bx S.E K
     | some (.slice e),some (.int _)=>vH P e s x S.bx S.E K
     | _,_=>False
    | _,_=>False
   | .builtin .copy=>match args,c.argTypes.toList with
    | [s,x],[t,u]=>match P.underlying t,P.underlying u with
     | some (.slice e),some (.slice _)=>CP P e s x S.bx S.E K
     | _,_=>False
    | _,_=>False
   | .builtin .clear=>match args,c.argTypes.toList with
    | [s],[t]=>match P.underlying t with
     | some (.slice e)=>zl P e s S.bx S.E K
     | _=>False
    | _,_=>False
   | .builtin .min=>match JC args with
    | some vs=>kf P (Builtin.min_ #[] 0 vs.toArray) λr=>K r S.bx S.E
    | none=>False
   | .builtin .max=>match JC args with
    | some vs=>kf P (Builtin.max_ #[] 0 vs.toArray) λr=>K r S.bx S.E
    | none=>False
   | .builtin _=>False
  | none=>False
 | _=>False
def jT (op:Op) (S:St):Bool:=
 match op with
 | .alloc _| .box .. | .buildSlice .. | .makeSlice .. =>true
 | .call c=>match tJ S c.args.toList with
  | some args=>match c.callee with
   | .value f=>match jh S f with
    | some (.fM _ first jL)=>(SV.fY (first++args++jL)).isSome
    | _=>false
   | .invoke r _=>match jh S r with
    | some (.cr _ v)=>(SV.fY (v::args)).isSome
    | _=>false
   | _=>false
  | none=>false
 | _=>false
end Go.Sx
namespace Go.Sx
open Go.RowKit (Below)
variable {T:TypeId} {P:Program} {i:TypeInfo}
theorem aO {S:St} {a:Act} {ρ:Env} (hF:cV ρ S.fr a.tmps) {x:Operand} {s:SV} (h:jh S x=some s):s.den ρ=some (a.eval x):=by
 cases x with
 | tmp t=>
  simp only [jh] at h;split at h
  ·rename_i o ho;subst h;obtain ⟨v,h1,h2⟩:=hF.2 t s ho;rw [h2];simp [Act.eval,Array.getD_eq_getD_getElem?,h1]
  ·cases h
 | const v=>simp only [jh,Option.some.injEq] at h;subst h;rfl
 | global g=>simp only [jh,Option.some.injEq] at h;subst h;rfl
 | func f=>simp only [jh,Option.some.injEq] at h;subst h;rfl
theorem jU {S:St} {a:Act} {ρ:Env} (hF:cV ρ S.fr a.tmps):∀ {l:List Operand} {ss:List SV},tJ S l=some ss->SV.bF ρ ss=some (l.map a.eval)
 | [],_,h=>by simp only [tJ,Option.some.injEq] at h;subst h;simp [SV.bF]
 | x::l,_,h=>by
  simp only [tJ] at h;split at h
  ·rename_i s ss h1 h2;simp only [Option.some.injEq] at h;subst h;simp only [SV.bF,aO hF h1,jU hF h2,List.map_cons]
  ·cases h
def lS (ρ:Env):List (Nat×SV)->List (Nat×Value)->Prop
 | [],[]=>True
 | (i,s)::ss,(j,v)::vs=>i=j/\s.den ρ=some v/\lS ρ ss vs
 | _,_=>False
theorem qD {S:St} {a:Act} {ρ:Env} (hF:cV ρ S.fr a.tmps):∀ {l:List (Nat×Operand)} {ss:List (Nat×SV)},parts S l=some ss->lS ρ ss (l.map λ(i,x)=>(i,a.eval x))
 | [],_,h=>by simp only [parts,Option.some.injEq] at h;subst h;trivial
 | (i,x)::l,_,h=>by
  simp only [parts] at h;split at h
  ·rename_i s ss h1 h2;simp only [Option.some.injEq] at h;subst h;exact ⟨rfl,aO hF h1,qD hF h2⟩
  ·cases h
theorem yl (off:Nat):∀ (l:Lv) (k:Nat) (cells:Lv),off+k+l.length<=cells.length->
  (l.zipIdx k).foldl (λ(cs:Array Value) (x:Value×Nat)=>cs.setIfInBounds (off+x.2) x.1) cells.toArray=(cells.take (off+k)++l++cells.drop (off+k+l.length)).toArray
 | [],k,cells,_=>by simp
 | v::l,k,cells,h=>by
  simp only [List.length_cons] at h;simp only [List.zipIdx_cons,List.foldl_cons];rw [List.setIfInBounds_toArray,yl off l (k+1) _ (by simp;omega)];congr 1;have e1:(cells.set (off+k) v).take (off+(k+1))=cells.take (off+k)++[v]:=by rw [← Nat.add_assoc,List.take_succ_eq_append_getElem (by simp;omega)];simp [List.take_set_of_le]
  rw [e1,List.drop_set_of_lt (by omega)];simp [Nat.add_assoc,Nat.add_comm 1]
theorem nM {ρ:Env} {place:Nat->Option (Nat×Nat)}:∀ {ss:List (Nat×SV)} {ps:List (Nat×Value)} {cells cs:List SV} {vs:Lv},lS ρ ss ps->SV.bF ρ cells=some vs->
  pS place cells ss=some cs->∃ ws,SV.bF ρ cs=some ws/\Instr.fill place vs.toArray ps=some ws.toArray
 | [],[],cells,cs,vs,_,hv,h=>by simp only [pS,Option.some.injEq] at h;subst h;exact ⟨vs,hv,rfl⟩
 | (i,s)::ss,(j,v)::ps,cells,cs,vs,hp,hv,h=>by
  obtain ⟨rfl,hd,hp⟩:=hp;simp only [pS] at h
  cases Nd:place i with
  | none=>rw [Nd] at h;cases h
  | some x=>
   obtain ⟨off,size⟩:=x;rw [Nd] at h;simp only at h;split at h;case isFalse=>cases h
   rename_i hc;obtain ⟨h1,h2,h3⟩:=hc;have hsc:=iZ h1 hd;have hl:=bN hsc;have hvl:=bN hv;have UU:SV.bF ρ (lay cells off (cG s))=some (vs.take off++v.cells.toList++vs.drop (off+v.cells.toList.length)):=by unfold lay;rw [hl];exact dQ (dQ (ir hv off) hsc) (iL hv _)
   obtain ⟨ws,h4,h5⟩:=nM hp UU h;refine ⟨ws,h4,?_⟩;simp only [Instr.fill,Nd];have hsz:v.cells.size=(cG s).length:=by rw [← Array.length_toList,hl]
   rw [if_neg (by simp only [List.size_toArray];simp only [Array.length_toList] at hl;simp;omega)];rw [← h5];congr 1;have hf:=yl off v.cells.toList 0 vs (by simp only [Nat.add_zero];omega);simp only [Nat.add_zero] at hf;rw [← hf,← Array.foldl_toList];simp [Array.toList_zipIdx]
 | [],_::_,_,_,_,hp,_,_=>hp.elim
 | _::_,[],_,_,_,hp,_,_=>hp.elim
theorem jV {z:Value} (h:P.info? T=some i) (hz:i.zero=some z) (w:World):(zeroValue T).run P w= .ok z w:=by simp [zeroValue,jt h,hz]
end Go.Sx
namespace Go.Sx
open Go.RowKit (Below)
variable {f:FuncId} {P:Program} {w w0:World} {off b:Nat} {v x av:Value} {T:TypeId}
def kL (w0:World) (mu:Fm) (ρ:Env) (K:KT):Ending->World->Prop:=
 λe w'=>∃ v s bA E' ρ',e= .returned v/\ρ<+:ρ'/\s.den ρ'=some v/\Rel w0 mu bA E' ρ' w'/\K s bA E'
def qE (P : Program) (f : FuncId) : Prop := ∃ fn, P.funcs[f]? = some fn ∧ (fn.name == "runtime.NumGoroutine") = false ∧ fn.body.isNone = false
def xJ (Ω:Option Rc) (ρ:Env):Prop:=match Ω with
 | none=>True
 | some c=>c.ρ<+:ρ
theorem xJ.mono {Ω:Option Rc} {ρ ρ':Env} (h:xJ Ω ρ) (hp:ρ<+:ρ'):xJ Ω ρ':=by
 cases Ω with
 | none=>trivial
 | some c=>exact List.IsPrefix.trans h hp
def UW (Ω:Option Rc) (w0:World) (mu:Fm) (ρ:Env):Prop:=(mu.om=Ω/\xJ Ω ρ)/\mL w0 mu
theorem mL.at {w0 w:World} {mu:Fm} {Ji:List Nat} {E:Mem} {ds:List Deferred} (h:mL w0 mu) (hk:lA mu.mu w0 w) (hm:∀ g,g∈Ji->w0.heap.size<=g\/g∈mu.mu):mL w ⟨Ji,E,mu.om,ds⟩:=by
 unfold mL at h ⊢
 cases hc:mu.om with
 | none=>trivial
 | some c=>
  rw [hc] at h;obtain ⟨h3,h4,h5,h6⟩:=h;have hlt:c.l<w0.heap.size:=(Array.getElem?_eq_some_iff.1 h3).1;refine ⟨?_,h4,λhg=>?_,λp hp=>?_⟩
  ·rw [hk.block c.l hlt h5];exact h3
  ·rcases hm c.l hg with q|q
   ·omega
   ·exact h5 q
  ·obtain ⟨⟨a1,a2,a3⟩,a4⟩:=h6 p hp;have hlp:p.l<w0.heap.size:=(Array.getElem?_eq_some_iff.1 a1).1;refine ⟨⟨?_,a2,λhg=>?_⟩,a4⟩
   ·rw [hk.block p.l hlp a3];exact a1
   ·rcases hm p.l hg with q|q
    ·omega
    ·exact a3 q
theorem qE.run (h:qE P f) (args:Array Value) (w:World):(callFunc f args).run P w= .ok (.enter f args) w:=by obtain ⟨fn,h1,h2,h3⟩:=h;unfold callFunc;simp only [Sem.run_bind,run_program,Result.andThen_ok,h1,h2,h3,Bool.false_eq_true,if_false,Sem.run_pure]
def Reach (P:Program) (f:FuncId) (args:Array Value) (w:World) (R:Ending->World->Prop):Prop:=
 ((callFunc f args).run P w= .ok (.enter f args) w/\Calls P f args w R)\/∃ v w',(callFunc f args).run P w= .ok (.value v) w'/\R (.returned v) w'
theorem Reach.mono {args:Array Value} {R R':Ending->World->Prop} (h:Reach P f args w R) (k:∀ e w',R e w'->R' e w'):Reach P f args w R':=by
 rcases h with ⟨h1,h2⟩|⟨v,w',h1,h2⟩
 ·exact .inl ⟨h1,h2.mono k⟩
 ·exact .inr ⟨v,w',h1,k _ _ h2⟩
theorem qE.reach (h:qE P f) {args:Array Value} {R:Ending->World->Prop} (k:Calls P f args w R):Reach P f args w R:=.inl ⟨h.run args w,k⟩
def aj (P:Program) (f:FuncId) (args:List SV) (bx:List aR) (E:Mem) (K:KT):Prop:=
 ∀ w0 mu ρ w vs,Rel w0 mu bx E ρ w->SV.bF ρ args=some vs->Reach P f vs.toArray w (kL w0 mu ρ K)
def nN (Ω:Option Rc) (w0:World) (mu:Fm) (ρ:Env):Ending->World->Prop:=λe w'=>∃ c,Ω=some c/\∃ v bA E' ρ',e= .returned v/\ρ<+:ρ'/\Rel (w0.putObj c.l (.loop c.stop)) mu bA E' ρ' w'/\c.q bA E'
def pT (Ω:Option Rc) (P:Program) (f:FuncId) (args:List SV) (bx:List aR) (E:Mem) (K:KT):Prop:=
 qE P f/\∀ w0 mu ρ w vs,UW Ω w0 mu ρ->Rel w0 mu bx E ρ w->SV.bF ρ args=some vs->Calls P f vs.toArray w λe w'=>kL w0 mu ρ K e w'\/nN Ω w0 mu ρ e w'
theorem Rel.cast {mu TH:Fm} {bx:List aR} {E:Mem} {ρ:Env} (h1:TH.mu=mu.mu) (h2:TH.E0=mu.E0) (h:Rel w0 mu bx E ρ w):Rel w0 TH bx E ρ w:=
 ⟨h1 ▸ h.keep,h.len,h.box,by rw [h1];exact h.sep,h.hold,by rw [h1];exact h.jM,by rw [h1,h2];exact h.src⟩
theorem pT.out {args:List SV} {bx:List aR} {E:Mem} {K:KT} (h:pT none P f args bx E K):aj P f args bx E K:=by
 refine λw0 mu ρ w vs hR hd=>h.1.reach ?_;refine (h.2 w0 ⟨mu.mu,mu.E0,none,[]⟩ ρ w vs ⟨⟨rfl,trivial⟩,trivial⟩ (Rel.cast (mu:=mu) rfl rfl hR) hd).mono λe w' he=>?_;rcases he with he|⟨c,q,_⟩;case inr=>cases q
 obtain ⟨v,s,bA,E',ρ',rfl,h1,h2,h3,h4⟩:=he;exact ⟨v,s,bA,E',ρ',rfl,h1,h2,Rel.cast (mu:=⟨mu.mu,mu.E0,none,[]⟩) rfl rfl h3,h4⟩
def Ar (Ω:Option Rc) (P:Program) (args:List SV) (bx:List aR) (E:Mem) (K:KT):Prop:=
 ∃ l m b rest,args= .raw (.func (.yield l) m b)::rest/\∀ w0 mu ρ w vs,UW Ω w0 mu ρ->Rel w0 mu bx E ρ w->SV.bF ρ rest=some vs->
  ∃ fn tmps assign body,(Instr.yield l (m++vs.toArray)).run P w= .ok (.round l fn tmps assign body) w/\RoundIn Fence.wide 0 P l fn tmps assign body w (kL w0 mu ρ K)
def ja (Ω:Option Rc) (P:Program) (ak:cK):Prop:=∀ f args bx E K,ak f args bx E K->if f=LG then Ar Ω P args bx E K else aj P f args bx E K
theorem pU (T:TypeId) (v:Value) (w:World):(newVar T v).run P w= .ok ⟨w.heap.size,0,none⟩ (w.alloc (.cells v.cells T)):=by rfl
theorem mS {z:Value} {zs:List SV} (h:fN (.raw z)=some zs):SV.bF [] zs=some z.cells.toList/\zs=z.cells.toList.map .raw:=by
 unfold fN at h;split at h
 ·rename_i hh;cases hh
 ·rename_i cs hh;simp only [Option.some.injEq] at h;subst h
  cases hh;exact ⟨bU _,rfl⟩
 ·cases h
def vS (op:Op) (S:St) (dst:Option Tmp) (a:Act) (ρ:Env) (w0:World) (mu:Fm) (K:KT) (next:Act->World->Prop):Prop:=
 ∀ s v bx E ρ' w',ρ<+:ρ'->s.den ρ'=some v->Rel w0 mu bx E ρ' w'->(jT op S=true->S.bx<+:bx/\Mem.le S.E E)->K s bx E->next (a.put dst v) w'
theorem vT {s:Sem Value} {K:SV->Prop} (h:kf P s K):∃ v,(∀ w,s.run P w= .ok v w)/\K (.raw v):=by
 unfold kf at h;split at h
 ·rename_i v hv;exact ⟨v,uq s hv,h⟩
 ·exact h.elim
theorem Rel.read' {mu:Fm} {bx:List aR} {E:Mem} {ρ:Env} (h:Rel w0 mu bx E ρ w) {i:Nat} {b:aR} {a:Addr} (hb:bx[i]? =some b) (hρ:ρ[i]? =some (some a)):
  a.spot=none/\∃ vs,SV.bF ρ b.cells=some vs/\∀ k x,vs[k]? =some x->w.cell? (a.add k)=some x:=by
 obtain ⟨h1,vs,h2,h3⟩:=h.box i b _ hb hρ;refine ⟨h1,vs,h2,?_⟩;by_cases hc:b.cells=[]
 ·have:=bN h2;rw [hc] at this;intro k x hx;have :vs=[]:=List.eq_nil_of_length_eq_zero this;subst this;simp at hx
 ·obtain ⟨a',vs',e1,e2,e3,e4⟩:=h.read hb hc;rw [hρ] at e1;cases e1;rw [h2] at e3;cases e3;exact e4
theorem eK {ρ:Env} (h:gS ρ b off=some v):∃ a,ρ[b]? =some (some a)/\v= .pointer (some (a.add off)):=by
 unfold gS at h;split at h
 ·rename_i a ha;simp only [Option.some.injEq] at h;exact ⟨a,ha,h.symm⟩
 ·cases h
theorem iE (h:pF x off=some v):∃ a len cap,x= .slice (some a) len cap/\v= .pointer (some (a.add off))/\a.spot=none:=by
 unfold pF at h;split at h
 ·rename_i a len cap;split at h
  ·rename_i hs;simp only [Option.some.injEq] at h;exact ⟨a,len,cap,rfl,h.symm,hs⟩
  ·cases h
 ·cases h
theorem lT {mu:Fm} {bx:List aR} {E:Mem} {ρ:Env} (h:Rel w0 mu bx E ρ w) {y:aR} {r:SV}
  (hb:bx[b]? =some y) (hr:iB P T y.cells off=some r) (ha:gS ρ b off=some av):
  ∃ v,r.den ρ=some v/\(Instr.loadAt T av).run P w= .ok v w:=by
 obtain ⟨a,hρ,rfl⟩:=eK ha;obtain ⟨h1,vs,h2,h3⟩:=h.read' hb hρ;obtain ⟨v,h4,h5⟩:=ur (P:=P) h1 hr h2 h3;exact ⟨v,h4,by simp [Instr.loadAt,Instr.sureAddr,h5]⟩
theorem pV {mu:Fm} {bx:List aR} {E:Mem} {ρ:Env} (h:Rel w0 mu bx E ρ w) {r:SV}
  (hr:bt P E T x off r) (ha:pF x off=some av):
  ∃ v,r.den ρ=some v/\(Instr.loadAt T av).run P w= .ok v w:=by
 obtain ⟨a,len,cap,rfl,rfl,_⟩:=iE ha;obtain ⟨cs,hE,hl⟩:=hr;rcases h.hold _ _ hE with rfl|⟨a',len',cap',e,hs,hcell⟩
 ·-- no cells: only a value of no size can be read
  obtain ⟨d,hu⟩:=rA hl;by_cases hd:jS d=true
  ·obtain ⟨i,hi,hlen,rfl⟩:=tH hu hd hl;simp at hlen;refine ⟨.agg #[],by simp [SV.den,SV.bF],?_⟩;simp only [Instr.loadAt,Instr.sureAddr,Sem.run_bind,Sem.run_pure,Result.andThen_ok];unfold loadVar;simp only [Sem.run_bind,lP hu,hd,Result.andThen_ok,Sem.run_ite,if_true,bY hi,← hlen];simp [loadCells,loadCellsFrom]
  ·have:=og hu (by simpa using hd) hl;simp at this
 ·cases e;obtain ⟨v,h4,h5⟩:=ur (P:=P) (w:=w) hs hl (bU (ρ:=ρ) cs) (λk x hx=>by rw [add_eq hs];exact hcell k x hx);exact ⟨v,h4,by simp [Instr.loadAt,Instr.sureAddr,h5]⟩
end Go.Sx
namespace Go.Sx
open Go.RowKit (Below)
variable {w' w:World} {v:Value} {P:Program} {cap:Nat}
def fW (ro:Option Nat):Fence:={ Fence.wide with round:=ro }
theorem bV {ro:Option Nat} {o:Oper} {a:Act} {next:Act->World->Prop} {Q:Exit->Act->World->Prop} {s:Sem Value}
  (hx:execOp a.eval o=(do pure (Next.value (← s)))) (hr:s.run P w= .ok v w') (hn:next (a.put o.dst v) w'):o.uponIn (fW ro) 0 P a next Q ((execOp a.eval o).run P w):=by
 rw [hx];simp only [Sem.run_bind,hr,Result.andThen_ok,Sem.run_pure];exact hn
theorem gI {lo hi mx:Option Int} {len:Nat} {K:Nat->Nat->Nat->Prop} (h:jj lo hi mx len cap K):
  (hi=none->mx=none)/\(∀ i,mx=some i->0<=i/\i<=(cap:Int))/\(∀ i,hi=some i->0<=i/\i<=(toN mx cap:Int))/\(∀ i,lo=some i->0<=i/\i<=(toN hi len:Int))/\
  K (toN lo 0) (toN hi len) (toN mx cap):=by
 have key:BE mx cap (BE hi (toN mx cap) (BE lo (toN hi len) (K (toN lo 0) (toN hi len) (toN mx cap))))/\(hi=none->mx=none):=by
  unfold jj at h;split at h
  ·exact h.elim
  ·rename_i hne;refine ⟨h,?_⟩;intro e
   cases mx with
   | none=>rfl
   | some i=>exact (hne i e rfl).elim
 obtain ⟨key,h0⟩:=key;have el:∀ {o:Option Int} {t:Nat} {k:Prop},BE o t k->(∀ i,o=some i->0<=i/\i<=(t:Int))/\k:=by
  intro o t k hk
  cases o with
  | none=>exact ⟨λi e=>(by cases e),hk⟩
  | some i=>obtain ⟨h1,h2⟩:=dX hk;exact ⟨λj e=>(by cases e;exact h1),h2⟩
 obtain ⟨h1,key⟩:=el key;obtain ⟨h2,key⟩:=el key;obtain ⟨h3,key⟩:=el key;exact ⟨h0,h1,h2,h3,key⟩
theorem vV {S:St} {a:Act} {ρ:Env} (hF:cV ρ S.fr a.tmps) {x:Option Operand} {n:Option Int} (h:vn S x=some n):
  (x=none/\n=none)\/∃ y k i,x=some y/\n=some i/\a.eval y= .int k i:=by
 cases x with
 | none=>simp only [vn,Option.some.injEq] at h;exact .inl ⟨rfl,h.symm⟩
 | some y=>
  simp only [vn] at h;split at h
  ·rename_i k i hs;simp only [Option.some.injEq] at h;have:=aO hF hs;simp only [SV.den,Option.some.injEq] at this;exact .inr ⟨y,k,i,rfl,h.symm,this.symm⟩
  ·cases h
theorem lU (k:IntKind) (i:Int) (y:Nat) (c:BoundsCode) (h:0<=i/\i<=(y:Int)) (w:World):(Instr.sliceBound (.int k i) y c).run P w= .ok i.toNat w:=by unfold Instr.sliceBound;simp [asIntOf,h]
theorem eH {S:St} {a:Act} {ρ:Env} (hF:cV ρ S.fr a.tmps) {lo hi mx:Option Operand} {l h m:Option Int} (h1:vn S lo=some l) (h2:vn S hi=some h) (h3:vn S mx=some m)
    {len:Nat} {K:Nat->Nat->Nat->Prop} (hn:jj l h m len cap K) (b:Bool) (w:World):
    (Instr.sliceBounds b len cap (lo.map a.eval) (hi.map a.eval) (mx.map a.eval)).run P w= .ok (toN l 0,toN h len,toN m cap) w/\K (toN l 0) (toN h len) (toN m cap):=by
  obtain ⟨g0,g1,g2,g3,hK⟩:=gI hn;refine ⟨?_,hK⟩;unfold Instr.sliceBounds;rcases vV hF h3 with ⟨rfl,rfl⟩|⟨y3,k3,i3,rfl,rfl,e3⟩<;>rcases vV hF h2 with ⟨rfl,rfl⟩|⟨y2,k2,i2,rfl,rfl,e2⟩<;>
    rcases vV hF h1 with ⟨rfl,rfl⟩|⟨y1,k1,i1,rfl,rfl,e1⟩<;>
    first
    | (simp at g0;done)
    | (try have r3:=λc w=>lU (P:=P) k3 i3 cap c (g1 _ rfl) w
       try have r2:=λc w=>lU (P:=P) k2 i2 _ c (g2 _ rfl) w
       try have r1:=λc w=>lU (P:=P) k1 i1 _ c (g3 _ rfl) w
       clear g0 g1 g2 g3 hn h1 h2 h3 hK;simp only [toN] at *;simp [*];done)
end Go.Sx
namespace Go.Sx
open Go.RowKit (Below)
variable {x v:Value} {e T:TypeId} {off cap b tot:Nat} {p:Addr} {w w0:World} {cs:Lv}
section
variable {ro:Option Nat} {P:Program} {ak:cK} {S:St} {a:Act} {w w0:World} {mu:Fm} {ρ:Env} {K:KT} {next:Act->World->Prop} {Q:Exit->Act->World->Prop}
 {dst:Option Tmp} {type:TypeId} {pos:String} {after:Array Edge} {guard:Option (Nat×Bool)}
theorem iF {op:Op} {s:Sem Value} (hR:Rel w0 mu S.bx S.E ρ w) (hk:vS op S dst a ρ w0 mu K next)
  (hx:execOp a.eval ⟨dst,op,type,pos,after,guard⟩=(do pure (Next.value (← s)))) (h:kf P s λr=>K r S.bx S.E):
  Oper.uponIn (fW ro) 0 P ⟨dst,op,type,pos,after,guard⟩ a next Q ((execOp a.eval ⟨dst,op,type,pos,after,guard⟩).run P w):=by
 obtain ⟨v,h1,h2⟩:=vT h;exact bV hx (h1 w) (hk _ _ _ _ ρ w (List.prefix_refl _) rfl hR (λ_=>⟨List.prefix_refl _,Mem.le_refl _⟩) h2)
theorem tK {ρ:Env} {s t:SV} {r:Bool} {y:Value} (h:nL s t=some r) (hs:s.den ρ=some x) (ht:t.den ρ=some y):
  r=false/\((∃ b,x= .pointer (some b)/\y= .pointer none)\/(∃ b,x= .pointer none/\y= .pointer (some b))):=by
 unfold nL at h;split at h<;>first|(cases h;done)|simp only [Option.some.injEq] at h
 ·simp only [SV.den,Option.some.injEq] at hs ht;obtain ⟨a,_,rfl⟩:=eK hs;exact ⟨h.symm,.inl ⟨_,rfl,ht.symm⟩⟩
 ·simp only [SV.den,Option.some.injEq] at hs ht;obtain ⟨a,_,_,_,rfl,_⟩:=iE hs;exact ⟨h.symm,.inl ⟨_,rfl,ht.symm⟩⟩
 ·simp only [SV.den,Option.some.injEq] at hs ht;obtain ⟨a,_,rfl⟩:=eK ht;exact ⟨h.symm,.inr ⟨_,hs.symm,rfl⟩⟩
 ·simp only [SV.den,Option.some.injEq] at hs ht;obtain ⟨a,_,_,_,rfl,_⟩:=iE ht;exact ⟨h.symm,.inr ⟨_,hs.symm,rfl⟩⟩
theorem mT (he:P.underlying T=some (.pointer e)) (d:Nat) (b:Addr) (w:World):
  (Op.equalIn (d+1) T (.pointer (some b)) (.pointer none)).run P w= .ok false w/\(Op.equalIn (d+1) T (.pointer none) (.pointer (some b))).run P w= .ok false w:=by
 constructor<;>simp [Op.equalIn,run_underlying he]
theorem cN {len:Nat} (h:eu ρ b off len cap=some v):
  (∃ c,ρ[b]? =some (some c)/\v= .slice (some (c.add off)) len cap)\/(ρ[b]? =some none/\off=0/\len=0/\cap=0/\v= .slice none 0 0):=by
 unfold eu at h;split at h
 ·rename_i c hc;simp only [Option.some.injEq] at h;exact .inl ⟨c,hc,h.symm⟩
 ·rename_i hc;split at h
  ·rename_i hh;obtain ⟨rfl,rfl,rfl⟩:=hh;simp only [Option.some.injEq] at h;exact .inr ⟨hc,rfl,rfl,rfl,h.symm⟩
  ·cases h
 ·cases h
theorem Rel.spot {bx:List aR} {E:Mem} (h:Rel w0 mu bx E ρ w) {c:Addr} (hc:ρ[b]? =some (some c)):c.spot=none:=by
 have hb:b<bx.length:=by
  rw [← h.len];rcases Nat.lt_or_ge b ρ.length with h'|h'
  ·exact h'
  ·simp [List.getElem?_eq_none h'] at hc
 exact (h.box b _ _ (List.getElem?_eq_getElem hb) hc).1
theorem iQ {c:Addr} (h:c.spot=none) (m n:Nat):(c.add m).add n=c.add (m+n):=by rw [add_eq (a:=c.add m) (by rw [add_eq h]),add_eq h,add_eq h,Nat.add_assoc]
theorem Rel.D4 {bx:List aR} {E E':Mem} (h:Rel w0 mu bx E ρ w) (hh:∀ v cs,E' v cs->dV w v cs)
  (hs:∀ v cs,E' v cs->cs≠[]->E v cs\/∀ (i:Nat) b c,bx[i]? =some b->b.own=true->ρ[i]? =some (some c)->pP v≠some c.block)
  (hsrc:∀ v cs,E' v cs->cs≠[]->(∃ b,pP v=some b/\(w0.heap.size<=b\/b∈mu.mu))\/∃ v0 jQ,mu.E0 v0 jQ/\jQ≠[]/\pP v=pP v0):Rel w0 mu bx E' ρ w where
 keep:=h.keep
 len:=h.len
 box:=h.box
 sep i b c h1 h2 h3:=by obtain ⟨t1,t2,t3⟩:=h.sep i b c h1 h2 h3;exact ⟨t1,t2,λv cs hE hne=>(hs v cs hE hne).elim (λg=>t3 v cs g hne) λg=>g i b c h1 h2 h3⟩
 hold:=hh
 jM:=h.jM
 src:=hsrc
theorem Rel.CR {bx:List aR} {E F:Mem} (h:Rel w0 mu bx E ρ w) (hle:Mem.le F E):Rel w0 mu bx F ρ w:=
 h.D4 (λv cs g=>h.hold v cs (hle v cs g)) (λv cs g _=>.inl (hle v cs g)) (λv cs g hne=>h.src v cs (hle v cs g) hne)
theorem qX {op:Op} {s:SV} (hR:Rel w0 mu S.bx S.E ρ w) (hk:vS op S dst a ρ w0 mu K next) (hs:gH s=true) (hx:s.den ρ=some x)
  (hr:(execOp a.eval ⟨dst,op,type,pos,after,guard⟩).run P w= .ok (.value (.pointer (some ⟨w.heap.size,0,none⟩))) (w.alloc (.cells x.cells T)))
  (h:K (.loc S.bx.length 0) (S.bx++[⟨T,.ae (cG s),(cG s).length,true⟩]) S.E):
  Oper.uponIn (fW ro) 0 P ⟨dst,op,type,pos,after,guard⟩ a next Q ((execOp a.eval ⟨dst,op,type,pos,after,guard⟩).run P w):=by
 rw [hr];have hc:=iZ hs hx;have:=hR.alloc T (.ae (cG s)) _ [] (cG s).length hc (by simpa using bN hc);simp only [List.append_nil,Array.toArray_toList] at this;refine hk _ _ _ _ _ _ (List.prefix_append _ _) ?_ this (λ_=>⟨List.prefix_append _ _,Mem.le_refl _⟩) h;simp only [SV.den,gS,← hR.len,List.getElem?_append_right (Nat.le_refl _),Nat.sub_self,List.getElem?_cons_zero];rfl
end
theorem vW (k:Nat):(w.freeze p 1).heap[k]? =if p.block=k then (w.heap[k]?).map (λo=>match o with | .cells c elem (lo,hi)=>.cells c elem (if lo==hi then (p.off,p.off+1) else (min lo p.off,max hi (p.off+1)))|o=>o) else w.heap[k]?:=by unfold World.freeze;rw [if_neg (by decide)];simp only [Array.getElem?_modify];rfl
theorem vX {a:Addr}:(w.freeze p 1).cell? a=w.cell? a:=by
 unfold World.cell?;rw [vW];by_cases h:p.block=a.block
 ·rw [if_pos h]
  cases w.heap[a.block]? with
  | none=>rfl
  | some o=>cases o<;>rfl
 ·rw [if_neg h]
theorem JG (h:dV w v cs):dV (w.freeze p 1) v cs:=by
 rcases h with h|⟨a,l,c,h1,h2,h3⟩
 ·exact .inl h
 ·exact .inr ⟨a,l,c,h1,h2,λi x hx=>by rw [vX];exact h3 i x hx⟩
theorem Rel.Nf {mu:Fm} {bx:List aR} {E:Mem} {ρ:Env} (h:Rel w0 mu bx E ρ w) {r:Row} (hb:bx[b]? =some ⟨e,r,tot,true⟩) (hne:r.cells≠[]):
  ∃ (a:Addr) (C:Array Value),ρ[b]? =some (some a)/\w.heap[a.block]? =some (.cells C e (0,0))/\Rel w0 mu (bx.set b ⟨e,r,tot,false⟩) E ρ (w.freeze ⟨a.block,C.size,none⟩ 1):=by
 have hlt:b<bx.length:=(List.getElem?_eq_some_iff.1 hb).1;obtain ⟨oa,FB⟩:∃ oa,ρ[b]? =some oa:=⟨_,List.getElem?_eq_getElem (by rw [h.len];exact hlt)⟩;have JH:=h.box b _ oa hb FB
 cases oa with
 | none=>
  have q:r.cells=[]:=JH.1;exact absurd q hne
 | some a=>
  obtain ⟨hs,vs,hv,hown⟩:=JH;rw [if_pos rfl] at hown;obtain ⟨nA,bZ,kh,hlen⟩:=hown;refine ⟨a,_,FB,kh,?_⟩;obtain ⟨s1,s2,s3⟩:=h.sep b _ a hb rfl FB;have look:∀ (i:Nat) (y:aR),(bx.set b ⟨e,r,tot,false⟩)[i]? =some y->(i=b/\y=⟨e,r,tot,false⟩)\/(i≠b/\bx[i]? =some y):=by
   intro i y hy;rw [List.getElem?_set] at hy;split at hy
   ·rename_i q
    first|rw [if_pos hlt] at hy|skip
    exact .inl ⟨q.symm,(Option.some.inj hy).symm⟩
   ·rename_i q;exact .inr ⟨λz=>q z.symm,hy⟩
  have mQ:∀ (j:Nat) (b':aR),(bx.set b ⟨e,r,tot,false⟩)[j]? =some b'->b'.live=true->∃ b2,bx[j]? =some b2/\b2.live=true:=by
   intro j b' hb' hl;rcases look j b' hb' with ⟨rfl,rfl⟩|⟨_,q⟩
   ·exact ⟨_,hb,by simp [aR.live]⟩
   ·exact ⟨b',q,hl⟩
  refine ⟨⟨h.keep.os,h.keep.tape,h.keep.output,?_,λk hk hm=>?_⟩,by rw [List.length_set];exact h.len,λi y TI hy ho=>?_,λi y a' hy ho ha=>?_,λv cs hv=>JG (h.hold v cs hv),λi y a' hy hl ha=>?_,h.src⟩
  ·have :(w.freeze ⟨a.block,(vs++bZ).toArray.size,none⟩ 1).heap.size=w.heap.size:=by
    unfold World.freeze;rw [if_neg (by decide)];simp
   rw [this];exact h.keep.size
  ·rw [vW,if_neg (by intro z;have z:a.block=k:=z;subst z;rcases s1 with s1|s1;exact absurd hk (by omega);exact hm s1)];exact h.keep.block k hk hm
  ·rcases look i y hy with ⟨rfl,rfl⟩|⟨hi,q⟩
   ·rw [FB] at ho
    cases ho;refine ⟨hs,vs,hv,?_⟩;rw [if_neg (by simp)];intro i x hx;rw [vX];unfold World.cell?;simp only [kh];have hil:i<vs.length:=(List.getElem?_eq_some_iff.1 hx).1;simp only [nA,Nat.zero_add,Option.isSome_none,Bool.false_eq_true,if_false,List.getElem?_toArray];rw [List.getElem?_append_left hil];exact hx
   ·have old:=h.box i y TI q ho;unfold iA at old ⊢
    cases TI with
    | none=>exact old
    | some a'=>
     obtain ⟨o1,vs',o2,o3⟩:=old;refine ⟨o1,vs',o2,?_⟩;by_cases PW:y.own=true
     ·rw [if_pos PW] at o3 ⊢;obtain ⟨p1,j',p2,p3⟩:=o3;refine ⟨p1,j',?_,p3⟩;have hn:=s2 i y a' hi q (by simp [aR.live,PW]) ho;rw [vW,if_neg (λz=>hn z.symm)];exact p2
     ·rw [if_neg PW] at o3 ⊢;intro k x hx;rw [vX];exact o3 k x hx
  ·rcases look i y hy with ⟨rfl,rfl⟩|⟨hi,q⟩
   ·cases ho
   ·obtain ⟨t1,t2,t3⟩:=h.sep i y a' q ho ha;refine ⟨t1,λj b' a2 hj hb' hl' TJ=>?_,t3⟩;obtain ⟨b2,q2,l2⟩:=mQ j b' hb' hl';exact t2 j b2 a2 hj q2 l2 TJ
  ·obtain ⟨b2,q2,l2⟩:=mQ i y hy hl;exact h.jM i b2 a' q2 l2 ha
end Go.Sx
namespace Go.Sx
open Go.RowKit (Below)
variable {off cap b:Nat} {v:Value} {oa:Oa} {w w0:World} {cs:Lv} {f:FuncId}
theorem As {ρ:Env} {len:Nat} {base:Oa} (hb:ρ[b]? =some base) (h:eu ρ b off len cap=some v):v=iP base off len cap:=by
 unfold eu at h;rw [hb] at h
 cases base with
 | some c=>simp only [Option.some.injEq] at h;exact h.symm
 | none=>
  simp only at h;split at h
  ·rename_i hh;obtain ⟨rfl,rfl,rfl⟩:=hh;simp only [Option.some.injEq] at h;exact h.symm
  ·cases h
mutual
theorem lM {ρ:Env} {b:Nat} {base:Oa} (hb:ρ[b]? =some base):∀ (s:SV) {v:Value},s.den ρ=some v->(s.subst b base).den ρ=some v
 | .bH b' off len cap,v,h=>by
  simp only [SV.subst];split
  ·rename_i e;subst e;simp only [SV.den] at h;simp only [SV.den,As hb h]
  ·exact h
 | .agg l,v,h=>by simp only [SV.subst,SV.den,Option.map_eq_some_iff] at *;obtain ⟨vs,h1,h2⟩:=h;exact ⟨vs,jC hb l h1,h2⟩
 | .bB l,v,h=>by simp only [SV.subst,SV.den,Option.map_eq_some_iff] at *;obtain ⟨vs,h1,h2⟩:=h;exact ⟨vs,jC hb l h1,h2⟩
 | .fM f m l,v,h=>by
  simp only [SV.den] at h;split at h
  ·rename_i us vs h1 h2;simp only [SV.subst,SV.den,jC hb m h1,jC hb l h2];exact h
  ·cases h
 | .cr t x,v,h=>by simp only [SV.subst,SV.den,Option.map_eq_some_iff] at *;obtain ⟨vs,h1,h2⟩:=h;exact ⟨vs,lM hb x h1,h2⟩
 | .vm t x,v,h=>by simp only [SV.subst,SV.den,Option.map_eq_some_iff] at *;obtain ⟨vs,h1,h2⟩:=h;exact ⟨vs,lM hb x h1,h2⟩
 | .raw _,v,h=>h
 | .loc _ _,v,h=>h
 | .rp _ _,v,h=>h
theorem jC {ρ:Env} {b:Nat} {base:Oa} (hb:ρ[b]? =some base):∀ (l:List SV) {vs:Lv},SV.bF ρ l=some vs->SV.bF ρ (SV.lR b base l)=some vs
 | [],vs,h=>h
 | x::l,vs,h=>by
  simp only [SV.bF] at h;split at h
  ·rename_i v ws h1 h2;simp only [SV.lR,SV.bF,lM hb x h1,jC hb l h2];exact h
  ·cases h
end
theorem aR.vY {y:aR} (h:({ y with own:=false }:aR).live=true):y.live=true:=by
 have h':(!y.row.cells.isEmpty)=true:=by simpa [aR.live,aR.cells] using h
 simp only [aR.live,aR.cells,h',Bool.or_true]
theorem iA.share {ρ:Env} {b:aR} (h:iA w ρ oa b):iA w ρ oa { b with own:=false }:=by
 cases oa with
 | none=>exact h
 | some a=>
  obtain ⟨h1,vs,h2,h3⟩:=h;refine ⟨h1,vs,h2,?_⟩;simp only [Bool.false_eq_true,if_false];by_cases ho:b.own=true
  ·rw [if_pos ho] at h3;obtain ⟨h4,bZ,hj,_⟩:=h3;intro i x hx;have hi:i<vs.length:=by
    rcases Nat.lt_or_ge i vs.length with h'|h'
    ·exact h'
    ·simp [List.getElem?_eq_none h'] at hx
   simp only [World.cell?,hj,Option.isSome_none,h4,Nat.zero_add];simp [List.getElem?_append_left hi,hx]
  ·rw [if_neg ho] at h3;exact h3
theorem Rel.share {mu:Fm} {bx:List aR} {E:Mem} {ρ:Env} (h:Rel w0 mu bx E ρ w) {y:aR} (hb:bx[b]? =some y):Rel w0 mu (bx.set b { y with own:=false }) E ρ w:=by
 have hi:b<bx.length:=by
  rcases Nat.lt_or_ge b bx.length with h'|h'
  ·exact h'
  ·simp [List.getElem?_eq_none h'] at hb
 refine ⟨h.keep,by simpa using h.len,?_,?_,h.hold,?_,h.src⟩
 ·intro j b' oa h1 h2;by_cases hj:b=j
  ·subst hj;rw [List.getElem?_set_self hi] at h1;simp only [Option.some.injEq] at h1;subst h1;exact (h.box b y oa hb h2).share
  ·rw [List.getElem?_set_ne hj] at h1;exact h.box j b' oa h1 h2
 ·intro j b' a h1 ho h2;by_cases hj:b=j
  ·subst hj;rw [List.getElem?_set_self hi] at h1;simp only [Option.some.injEq] at h1;subst h1;simp at ho
  ·rw [List.getElem?_set_ne hj] at h1;obtain ⟨t1,t2,t3⟩:=h.sep j b' a h1 ho h2;refine ⟨t1,?_,t3⟩;intro k b3 a3 JA vE CN CO;by_cases hk:b=k
   ·subst hk;rw [List.getElem?_set_self hi] at vE;simp only [Option.some.injEq] at vE;subst vE;refine t2 b y a3 JA hb ?_ CO;exact aR.vY CN
   ·rw [List.getElem?_set_ne hk] at vE;exact t2 k b3 a3 JA vE CN CO
 ·intro j b' a h1 hl h2;by_cases hj:b=j
  ·subst hj;rw [List.getElem?_set_self hi] at h1;simp only [Option.some.injEq] at h1;subst h1;exact h.jM b y a hb (aR.vY hl) h2
  ·rw [List.getElem?_set_ne hj] at h1;exact h.jM j b' a h1 hl h2
theorem aR.vZ (b:Nat) (base:Oa) (y:aR):(y.subst b base).live=y.live:=by
 obtain ⟨e,r,t,o⟩:=y
 cases r with
 | ae l=>
  simp only [aR.subst,aR.live,aR.cells,Row.cells]
  cases l<;>rfl
 | vals l=>rfl
theorem aR.D5 (b:Nat) (base:Oa) (y:aR):(y.subst b base).own=y.own:=by
 obtain ⟨e,r,t,o⟩:=y
 cases r<;>rfl
theorem iA.subst {ρ:Env} {base:Oa} (hb:ρ[b]? =some base) {y:aR} (h:iA w ρ oa y):iA w ρ oa (y.subst b base):=by
 obtain ⟨e,r,t,o⟩:=y
 cases r with
 | vals l=>exact h
 | ae l=>
  cases oa with
  | none=>
   obtain ⟨h1,h2⟩:=h;simp only [aR.cells,Row.cells] at h1;subst h1;exact ⟨rfl,h2⟩
  | some a=>
   obtain ⟨h1,vs,h2,h3⟩:=h;exact ⟨h1,vs,jC hb l h2,h3⟩
theorem Rel.subst {mu:Fm} {bx:List aR} {E:Mem} {ρ:Env} (h:Rel w0 mu bx E ρ w) {base:Oa} (hb:ρ[b]? =some base):Rel w0 mu (bx.map (aR.subst b base)) E ρ w:=by
 have key:∀ (i:Nat) y,(bx.map (aR.subst b base))[i]? =some y->∃ z,bx[i]? =some z/\y=z.subst b base:=by
  intro i y hy;rw [List.getElem?_map] at hy
  cases hz:bx[i]? with
  | none=>rw [hz] at hy;cases hy
  | some z=>rw [hz] at hy;simp only [Option.map_some,Option.some.injEq] at hy;exact ⟨z,rfl,hy.symm⟩
 refine ⟨h.keep,by simpa using h.len,?_,?_,h.hold,?_,h.src⟩
 ·intro i y oa h1 h2;obtain ⟨z,hz,rfl⟩:=key i y h1;exact (h.box i z oa hz h2).subst hb
 ·intro i y a h1 ho h2;obtain ⟨z,hz,rfl⟩:=key i y h1;rw [aR.D5] at ho;obtain ⟨t1,t2,t3⟩:=h.sep i z a hz ho h2;refine ⟨t1,λj y' a' hji pG hl nJ=>?_,t3⟩;obtain ⟨z',UX,rfl⟩:=key j y' pG;rw [aR.vZ] at hl;exact t2 j z' a' hji UX hl nJ
 ·intro i y a h1 hl h2;obtain ⟨z,hz,rfl⟩:=key i y h1;rw [aR.vZ] at hl;exact h.jM i z a hz hl h2
theorem Row.CS {r:Row} (h:r.val=some cs) (ρ:Env):SV.bF ρ r.cells=some cs:=by
 cases r with
 | ae l=>exact SV.dR ρ l h
 | vals l=>simp only [Row.val,Option.some.injEq] at h;subst h;exact bU l
theorem lV {w0:World} {mu:Fm} {ρ:Env} {w:World} {K:List SV->List aR->Mem->Prop}:∀ (n:Nat) (ss:List SV) (bx:List aR) (E:Mem) (vs:Lv),
  BD n ss bx E K->Rel w0 mu bx E ρ w->SV.bF ρ ss=some vs->∃ ss' bA E',SV.bF ρ ss'=some vs/\Rel w0 mu bA E' ρ w/\K ss' bA E'
 | 0,_,_,_,_,h,_,_=>h.elim
 | n+1,ss,bx,E,vs,h,hR,hd=>by
  unfold BD at h;split at h
  ·exact ⟨ss,bx,E,hd,hR,h⟩
  ·rename_i b0 hb0;obtain ⟨b,hbd⟩:∃ b,deep bx 4 b0=b:=⟨_,rfl⟩;rw [hbd] at h;simp only at h;split at h;case h_2=>exact h.elim
   rename_i y hy;split at h;case h_2=>exact h.elim
   rename_i cs hcs;have hi:b<bx.length:=by
    rcases Nat.lt_or_ge b bx.length with h'|h'
    ·exact h'
    ·simp [List.getElem?_eq_none h'] at hy
   have hρ:∃ base,ρ[b]? =some base:=⟨_,List.getElem?_eq_getElem (by rw [hR.len];exact hi)⟩;obtain ⟨base,hρ⟩:=hρ;have gG:=hR.box b y base hy hρ;have BG:=hR.share hy;have hval:=Row.CS hcs;have lB:base=none->cs=[]:=by rintro rfl;have h1:=gG.1;have h2:=hval [];rw [show y.row.cells=[] from h1] at h2;simp only [SV.bF,Option.some.injEq] at h2;exact h2.symm
   let E':Mem:=λv c=>E v c\/∃ off m len cap,off+m<=cs.length/\v=iP base off len cap/\c=(cs.drop off).take m;have hrow:∀ off m len cap,off+m<=cs.length->dV w (iP base off len cap) ((cs.drop off).take m)/\
     ((cs.drop off).take m≠[]->∃ a,base=some a/\a.spot=none/\y.live=true):=by
    intro off m len cap hle
    cases base with
    | none=>
     have h0:cs=[]:=by have h1:=gG.1;have h2:=hval [];rw [show y.row.cells=[] from h1] at h2;simp only [SV.bF,Option.some.injEq] at h2;exact h2.symm
     subst h0;exact ⟨.inl (by simp),λh=>by simp at h⟩
    | some a=>
     obtain ⟨h1,vs',h2,h3⟩:=gG.share;have :vs'=cs:=by
      have:=hval ρ;rw [show ({ y with own:=false }:aR).cells=y.row.cells from rfl,this] at h2
      cases h2;rfl
     subst this;simp only [Bool.false_eq_true,if_false] at h3;constructor
     ·right;refine ⟨a.add off,len,cap,rfl,by rw [add_eq h1],λi x hx=>?_⟩;rw [add_eq h1];simp only;have hi:i<m:=by
       rcases Nat.lt_or_ge i m with q|q
       ·exact q
       ·rw [List.getElem?_eq_none (by simp;omega)] at hx;cases hx
      rw [List.getElem?_take_of_lt hi,List.getElem?_drop] at hx;rw [Nat.add_assoc];exact h3 _ _ hx
     ·intro hne;refine ⟨a,rfl,h1,?_⟩;simp only [aR.live,Bool.or_eq_true];right
      cases hc:y.cells with
      | nil=>
       have h2:=hval [];rw [show y.row.cells=[] from hc] at h2;simp only [SV.bF,Option.some.injEq] at h2;subst h2;simp at hne
      | cons=>rfl
   have iT:Rel w0 mu (bx.set b { y with own:=false }) E' ρ w:=BG.D4 (λv c g=>by
     rcases g with g|⟨off,m,len,cap,hle,rfl,rfl⟩
     ·exact hR.hold v c g
     ·exact (hrow off m len cap hle).1) (λv c g hne=>by
     rcases g with g|⟨off,m,len,cap,hle,rfl,rfl⟩
     ·exact .inl g
     ·right;obtain ⟨a,rfl,h1,hl⟩:=(hrow off m len cap hle).2 hne;intro j b' c' g1 g2 g3;have hj:b≠j:=by
       rintro rfl;rw [List.getElem?_set_self hi] at g1;simp only [Option.some.injEq] at g1;subst g1;simp at g2
      rw [List.getElem?_set_ne hj] at g1;have:=(hR.sep j b' c' g1 g2 g3).2.1 b y a hj hy hl hρ;simp only [iP,Option.map_some,pP,add_eq h1];intro e;simp only [Option.some.injEq] at e;exact this e) (λv c g hne=>by
     rcases g with g|⟨off,m,len,cap,hle,rfl,rfl⟩
     ·exact hR.src _ _ g hne
     ·obtain ⟨a,rfl,h1,hl⟩:=(hrow off m len cap hle).2 hne;exact .inl ⟨a.block,by simp only [iP,Option.map_some,pP,add_eq h1],hR.jM b y a hy hl hρ⟩)
   exact lV n _ _ _ vs (h base E' (λ_ _ g=>.inl g) ⟨lB,λoff m len cap hle=>.inr ⟨off,m,len,cap,hle,rfl,rfl⟩⟩) (iT.subst hρ) (jC hρ ss hd)
section
variable {P:Program}
def UY (w:World) (E E':Mem):Prop:=∀ v cs,E' v cs->cs≠[]->(∃ b,pP v=some b/\w.heap.size<=b)\/∃ v0 jQ,E v0 jQ/\jQ≠[]/\pP v=pP v0
def gy (P:Program) (f:FuncId) (args:List SV) (E:Mem) (K:SV->Mem->Prop):Prop:=
 qE P f/\∃ vs,SV.fY args=some vs/\∀ w,Nb E w->Calls P f vs.toArray w λe w'=>
  ∃ v s E',e= .returned v/\s.val=some v/\lA [] w w'/\Mem.le E E'/\Nb E' w'/\UY w E E'/\K s E'
def jm (P:Program) (jN:FuncId->List SV->Mem->(SV->Mem->Prop)->Prop):Prop:=∀ f args E K,jN f args E K->gy P f args E K
theorem gy.call {args:List SV} {bx:List aR} {E:Mem} {K:KT} (h:gy P f args E λs E'=>K s bx E'):aj P f args bx E K:=by
 obtain ⟨TK,vs,hv,h⟩:=h;intro w0 mu ρ w ws hR hd;refine TK.reach ?_;have :ws=vs:=by have:=SV.dR ρ args hv;rw [hd] at this;cases this;rfl
 subst this;refine (h w hR.hold).mono λe w' he=>?_;obtain ⟨v,s,E',rfl,h1,h2,h3,h4,h5,h6⟩:=he;refine ⟨v,s,bx,E',ρ,rfl,List.prefix_refl _,SV.gx ρ s h1,?_,h6⟩;refine (hR.grow h2).D4 h4 (λv cs g hne=>?_) (λv cs g hne=>?_)
 ·rcases h5 v cs g hne with ⟨b,e1,e2⟩|⟨v0,jQ,g0,pK,e⟩
  ·right;intro i bb c b1 b2 b3 e3;have:=(hR.box i bb _ b1 b3).lt (by simp [aR.live,b2]);rw [e1] at e3;cases e3;omega
  ·right;intro i bb c b1 b2 b3;rw [e];exact (hR.sep i bb c b1 b2 b3).2.2 v0 jQ g0 pK
 ·rcases h5 v cs g hne with ⟨b,e1,e2⟩|⟨v0,jQ,g0,pK,e⟩
  ·exact .inl ⟨b,e1,.inl (Nat.le_trans hR.keep.size e2)⟩
  ·rw [e];exact hR.src v0 jQ g0 pK
theorem gy.intro {f:FuncId} {args:List SV} {E:Mem} {K:SV->Mem->Prop} {vs:Lv} (hv:SV.fY args=some vs) (h:pT none P f args [] E (aW E K)):gy P f args E K:=by
 obtain ⟨TK,h⟩:=h;refine ⟨TK,vs,hv,λw hE=>?_⟩;have hR:Rel w ⟨[],E,none,[]⟩ [] E [] w:=⟨lA.refl _ _,rfl,by intro i b oa h;simp at h,by intro i b a h;simp at h,hE,by intro i b a h;simp at h,λv cs g hne=>.inr ⟨v,cs,g,hne,rfl⟩⟩;refine (h w ⟨[],E,none,[]⟩ [] w vs ⟨⟨rfl,trivial⟩,trivial⟩ hR (SV.dR [] args hv)).mono λe w' he=>?_;rcases he with he|⟨_,q,_⟩;case inr=>cases q
 obtain ⟨v,s,bA,E',ρ',rfl,h1,h2,h3,h4⟩:=he;unfold aW at h4;obtain ⟨ss,FY,E2,h5,h6,h7,h9⟩:=lV 16 [s] bA E' [v] h4 h3 (by simp only [SV.bF,h2]);split at h9;case h_2=>exact h9.elim
 rename_i r;split at h9;case h_2=>exact h9.elim
 rename_i x h8;have hx:x=v:=by simp only [SV.bF,SV.gx ρ' r h8,Option.some.injEq,List.cons.injEq,and_true] at h5;exact h5
 subst hx;refine ⟨x,r,E2,rfl,h8,h6.keep,h7,h6.hold,λv cs g hne=>?_,h9⟩;rcases h6.src v cs g hne with ⟨b,e1,e2⟩|e
 ·rcases e2 with e2|e2
  ·exact .inl ⟨b,e1,e2⟩
  ·cases e2
 ·exact .inr e
end
end Go.Sx
namespace Go.Sx
open Go.RowKit (Below)
variable {α:Type} {g z cap m n off tot b:Nat} {news vs:Lv} {w' w:World} {xv sv:Value} {u t ty e T:TypeId} {i:TypeInfo}
theorem eC {l:List α} {i:Nat} {x:α} (h:l[i]? =some x):i<l.length:=by
 rcases Nat.lt_or_ge i l.length with h'|h'
 ·exact h'
 ·simp [List.getElem?_eq_none h'] at h
section
variable {w0 w:World} {mu:Fm} {bx:List aR} {E:Mem} {ρ:Env}
theorem Rel.kill (h:Rel w0 mu bx E ρ w) (b:Nat) (y:aR):Rel w0 mu (bx.set b (dead y)) E ρ w:=by
 have hd:(dead y).live=false:=rfl;refine ⟨h.keep,by simpa using h.len,?_,?_,h.hold,?_,h.src⟩
 ·intro j b' oa h1 h2;by_cases hj:b=j
  ·subst hj;have hb:b<bx.length:=by simpa using eC h1
   rw [List.getElem?_set_self hb] at h1;simp only [Option.some.injEq] at h1;subst h1;have gG:=h.box b _ oa (List.getElem?_eq_getElem hb) h2
   cases oa with
   | none=>exact ⟨rfl,rfl⟩
   | some a=>exact ⟨gG.1,[],rfl,by simp [dead]⟩
  ·rw [List.getElem?_set_ne hj] at h1;exact h.box j b' oa h1 h2
 ·intro j b' a h1 ho h2;by_cases hj:b=j
  ·subst hj;have hb:b<bx.length:=by simpa using eC h1
   rw [List.getElem?_set_self hb] at h1;simp only [Option.some.injEq] at h1;subst h1
   cases ho
  ·rw [List.getElem?_set_ne hj] at h1;obtain ⟨t1,t2,t3⟩:=h.sep j b' a h1 ho h2;refine ⟨t1,?_,t3⟩;intro k b3 a3 JA vE CN CO;by_cases hk:b=k
   ·subst hk;have hb:b<bx.length:=by simpa using eC vE
    rw [List.getElem?_set_self hb] at vE;simp only [Option.some.injEq] at vE;subst vE
    cases CN
   ·rw [List.getElem?_set_ne hk] at vE;exact t2 k b3 a3 JA vE CN CO
 ·intro j b' a h1 hl h2;by_cases hj:b=j
  ·subst hj;have hb:b<bx.length:=by simpa using eC h1
   rw [List.getElem?_set_self hb] at h1;simp only [Option.some.injEq] at h1;subst h1
   cases hl
  ·rw [List.getElem?_set_ne hj] at h1;exact h.jM j b' a h1 hl h2
theorem cO {l:List α} {x y:α} {i:Nat} (h:(l++[x])[i]? =some y):(i<l.length/\l[i]? =some y)\/(i=l.length/\y=x):=by
 by_cases hi:i<l.length
 ·rw [List.getElem?_append_left hi] at h;exact .inl ⟨hi,h⟩
 ·have hlt:=eC h;simp only [List.length_append,List.length_singleton] at hlt;have :i=l.length:=by omega
  subst this;rw [List.getElem?_append_right (Nat.le_refl _),Nat.sub_self] at h;simp only [List.getElem?_cons_zero,Option.some.injEq] at h;exact .inr ⟨rfl,h.symm⟩
theorem Rel.zm (h:Rel w0 mu bx E ρ w) (y:aR) (oa:Oa) (hb:∀ ρ',ρ<+:ρ'->iA w ρ' oa y)
  (hs:∀ a,oa=some a->(w0.heap.size<=a.block\/a.block∈mu.mu)/\
   (∀ (j:Nat) b' a',bx[j]? =some b'->b'.live=true->ρ[j]? =some (some a')->a'.block≠a.block)/\(∀ v cs,E v cs->cs≠[]->pP v≠some a.block)):
  Rel w0 mu (bx++[y]) E (ρ++[oa]) w:=by
 have hp:ρ<+:ρ++[oa]:=List.prefix_append _ _;have hl:=h.len;refine ⟨h.keep,by simp [hl],?_,?_,h.hold,?_,h.src⟩
 ·intro i b o h1 h2;rcases cO h1 with ⟨hi,h1⟩|⟨rfl,rfl⟩
  ·rcases cO h2 with ⟨_,h2⟩|⟨rfl,rfl⟩
   ·exact (h.box i b o h1 h2).mono hp
   ·omega
  ·rcases cO h2 with ⟨h2,_⟩|⟨_,rfl⟩
   ·omega
   ·exact hb _ hp
 ·intro i b a h1 ho h2;rcases cO h1 with ⟨hi,h1⟩|⟨rfl,rfl⟩
  ·rcases cO h2 with ⟨_,h2⟩|⟨rfl,_⟩
   ·obtain ⟨t1,t2,t3⟩:=h.sep i b a h1 ho h2;refine ⟨t1,?_,t3⟩;intro j b' a' hji pG hlv nJ;rcases cO pG with ⟨_,pG⟩|⟨rfl,rfl⟩
    ·rcases cO nJ with ⟨_,nJ⟩|⟨rfl,_⟩
     ·exact t2 j b' a' hji pG hlv nJ
     ·omega
    ·rcases cO nJ with ⟨nJ,_⟩|⟨_,nJ⟩
     ·omega
     ·exact Ne.symm ((hs a' nJ.symm).2.1 i b a (by rwa [List.getElem?_append_left hi] at h1) (by simp [aR.live,ho]) h2)
   ·omega
  ·rcases cO h2 with ⟨h2,_⟩|⟨_,h2⟩
   ·omega
   ·obtain ⟨t1,t2,t3⟩:=hs a h2.symm;refine ⟨t1,?_,t3⟩;intro j b' a' hji pG hlv nJ;rcases cO pG with ⟨hj,pG⟩|⟨rfl,rfl⟩
    ·rcases cO nJ with ⟨_,nJ⟩|⟨rfl,_⟩
     ·exact t2 j b' a' pG hlv nJ
     ·omega
    ·exact absurd rfl hji
 ·intro i b a h1 hlv h2;rcases cO h1 with ⟨hi,h1⟩|⟨rfl,rfl⟩
  ·rcases cO h2 with ⟨_,h2⟩|⟨rfl,_⟩
   ·exact h.jM i b a h1 hlv h2
   ·omega
  ·rcases cO h2 with ⟨h2,_⟩|⟨_,h2⟩
   ·omega
   ·exact (hs a h2.symm).1
theorem Rel.write (h:Rel w0 mu bx E ρ w) (hg:w0.heap.size<=g\/g∈mu.mu)
  (hb:∀ (j:Nat) b' a',bx[j]? =some b'->b'.live=true->ρ[j]? =some (some a')->a'.block≠g) (hE:∀ v cs,E v cs->cs≠[]->pP v≠some g) (cs:Array Value):Rel w0 mu bx E ρ (w.setRow g cs):=by
 refine ⟨h.keep.setRow hg _,h.len,?_,h.sep,?_,h.jM,h.src⟩
 ·intro j b' oa h1 h2;refine (h.box j b' oa h1 h2).js λa ha mQ=>?_;subst ha;exact setRow_other w g _ _ (hb j b' a h1 mQ h2)
 ·intro v cs hv;exact (h.hold v cs hv).js λbb hne US=>setRow_other w g bb _ (by rintro rfl;exact hE v cs hv hne US)
end
section
variable {P:Program} {w0 w:World} {mu:Fm} {bx:List aR} {E:Mem} {ρ:Env}
theorem jB {a:Addr} {len:Nat} (hl:news.length=m*z) (h:∀ j u,news[j]? =some u->w'.cell? (a.add j)=some u):
  (Builtin.firstCells z m (.slice (some a) len cap)).run P w'= .ok news.toArray w':=run_firstCells_some w' z m a len cap news hl h
theorem tL (h:w'.heap=w.heap) (a:Addr):w'.cell? a=w.cell? a:=by unfold World.cell?;rw [h]
structure Src (P:Program) (w:World) (ρ:Env) (z:Nat) (xv:Value) (m:Nat) (row:Row) (news:Lv):Prop where
 den:SV.bF ρ row.cells=some news
 len:news.length=m*z
 one:∀ u∈news,u.oneCell'=true
 lenOf:∀ w,(Builtin.lenOf xv).run P w= .ok m w
 cells:∀ k,k<=m->∀ w',w'.heap=w.heap->(Builtin.firstCells z k xv).run P w'= .ok (news.take (k*z)).toArray w'
theorem Src.At {a:Addr} {row:Row} (hd:SV.bF ρ row.cells=some news) (hl:news.length=m*z) (h1:∀ u∈news,u.oneCell'=true)
  (hc:∀ j u,news[j]? =some u->w.cell? (a.add j)=some u):Src P w ρ z (.slice (some a) m cap) m row news:=
 ⟨hd,hl,h1,λw=>by simp [Builtin.lenOf],λk hk w' hw=>by
  refine jB ?_ ?_
  ·rw [List.length_take,hl,Nat.min_eq_left (Nat.mul_le_mul_right _ hk)]
  ·intro j u hu;rw [tL hw];have hj:j<k*z:=by
    have:=eC hu;rw [List.length_take] at this;omega
   rw [List.getElem?_take_of_lt hj] at hu;exact hc j u hu⟩
theorem Src.CT {row:Row} (hd:SV.bF ρ row.cells=some []) (hm:m*z=0):Src P w ρ z (.slice none m cap) m row []:=
 ⟨hd,by simp [hm],by simp,λw=>by simp [Builtin.lenOf],λk hk w' hw=>by simp [Builtin.firstCells]⟩
theorem rB {x:SV} {K:Nat->Row->Prop} (h:FW z x bx E K) (hR:Rel w0 mu bx E ρ w) (hx:x.den ρ=some xv):
  ∃ m row news,K m row/\Src P w ρ z xv m row news:=by
 unfold FW at h;split at h
 ·rename_i base m cap;simp only [SV.den,Option.some.injEq] at hx;subst hx;obtain ⟨cs,hE,hle,h1,h⟩:=h;refine ⟨m,_,cs.take (m*z),h,?_⟩;have hrow:dV w (.slice base m cap) cs:=by
   rcases hE with rfl|hE
   ·exact .inl rfl
   ·exact hR.hold _ _ hE
  have hd:SV.bF ρ (Row.cells (.vals (cs.take (m*z))))=some (cs.take (m*z)):=bU _;have hlen:(cs.take (m*z)).length=m*z:=by rw [List.length_take];omega
  have hone:∀ u∈cs.take (m*z),u.oneCell'=true:=λu hu=>h1 u (List.mem_of_mem_take hu)
  cases base with
  | none=>
   have lB:cs=[]:=by
    rcases hrow with hrow|⟨a,_,_,e,_⟩
    ·exact hrow
    ·cases e
   subst lB;simp only [List.take_nil] at hd ⊢;exact Src.CT hd (by simp only [List.length_nil] at hle;omega)
  | some a=>
   refine Src.At hd hlen hone ?_;intro j u hu;rcases hrow with rfl|⟨a',_,_,e,hs,hc⟩
   ·simp at hu
   ·cases e;have hj:=eC hu;rw [List.length_take] at hj;rw [List.getElem?_take_of_lt (by omega)] at hu;rw [add_eq hs];exact hc j u hu
 ·rename_i b off m cap;split at h;case h_2=>exact h.elim
  rename_i y hy;have hi:=eC hy;have ach:b<ρ.length:=by rw [hR.len];exact hi
  -- the box's cells
  have key:∀ cells row,y.cells=cells->off+m*z<=cells.length->row.cells=(cells.drop off).take (m*z)->(∀ vs,SV.bF ρ cells=some vs->∀ u∈vs,u.oneCell'=true)->∃ news,Src P w ρ z xv m row news:=by
   intro cells row Qq hle hrow hone;simp only [SV.den] at hx;rcases cN hx with ⟨c,hc,rfl⟩|⟨hn,rfl,rfl,rfl,rfl⟩
   ·obtain ⟨h1,vs,h2,h3⟩:=hR.read' hy hc;rw [Qq] at h2;have hvl:=bN h2;have hd:=ir (iL h2 off) (m*z);refine ⟨(vs.drop off).take (m*z),Src.At (by rw [hrow];exact hd) (by simp only [List.length_take,List.length_drop];omega) (λu hu=>hone vs h2 u (List.mem_of_mem_drop (List.mem_of_mem_take hu))) ?_⟩;intro j u hu;have hj:=eC hu;simp only [List.length_take,List.length_drop] at hj;rw [List.getElem?_take_of_lt (by omega),List.getElem?_drop] at hu;rw [iQ h1];exact h3 _ _ hu
   ·refine ⟨[],Src.CT ?_ (by simp)⟩;rw [hrow];simp [SV.bF]
  split at h
  ·rename_i cells Qq;split at h;case isFalse=>exact h.elim
   rename_i hc;obtain ⟨news,hs⟩:=key cells (.ae ((cells.drop off).take (m*z))) (by simp [aR.cells,Qq,Row.cells]) hc.1 rfl (λvs hd=>uu hc.2 hd);exact ⟨m,_,news,h,hs⟩
  ·rename_i vs Qq;obtain ⟨h1,h2,h⟩:=h;obtain ⟨news,hs⟩:=key (vs.map .raw) (.vals ((vs.drop off).take (m*z))) (by simp [aR.cells,Qq,Row.cells]) (by simpa using h1) (by simp [Row.cells,List.map_take,List.map_drop]) (λus hd=>by
    rw [bU] at hd;cases hd;exact h2)
   exact ⟨m,_,news,h,hs⟩
 ·exact h.elim
theorem pW {r:Row} (h:SV.bF ρ r.cells=some vs):SV.bF ρ (sB n r).cells=some (vs.take n):=by
 have e:(sB n r).cells=r.cells.take n:=by cases r<;>simp [sB,Row.cells,List.map_take]
 rw [e];exact ir h n
theorem oq {a b:Row} {K:Row->Prop} {us:Lv} (h:zk a b K) (ha:SV.bF ρ a.cells=some us) (hb:SV.bF ρ b.cells=some vs):∃ r,K r/\SV.bF ρ r.cells=some (us++vs):=by
 unfold zk at h;split at h
 ·exact ⟨_,h,dQ ha hb⟩
 ·refine ⟨_,h,?_⟩;have:=dQ ha hb;simpa [Row.cells,List.map_append] using this
 ·split at h;case h_2=>exact h.elim
  rename_i hl;refine ⟨_,h,?_⟩;have h1:=SV.dR ρ _ hl;simp only [Row.cells] at ha hb ⊢;rw [h1] at ha;cases ha;have:=dQ (bU (ρ:=ρ) us) hb;simpa [List.map_append] using this
 ·split at h;case h_2=>exact h.elim
  rename_i hl;refine ⟨_,h,?_⟩;have h1:=SV.dR ρ _ hl;simp only [Row.cells] at ha hb ⊢;rw [h1] at hb;cases hb;have:=dQ ha (bU (ρ:=ρ) vs);simpa [List.map_append] using this
theorem mU {f:TypeId} {zv:Value} (ht:P.underlying t=some (.slice e)) (hu:P.underlying u=some (.slice f)) (hi:P.info? e=some i) (hz:i.zero=some zv)
  {base:Oa} {row:Row} {olds:Lv} (hx:Src P w ρ i.size xv m row news)
  (ho:∀ w',w'.heap=w.heap->(Builtin.firstCells i.size n (.slice base n cap)).run P w'= .ok olds.toArray w') (hb:(n+m)*max i.bytes 1<=140737488355328):
  (n+m<=cap->(base=none->(Builtin.append_ #[t,u] ty #[.slice base n cap,xv]).run P w= .ok (.slice none (n+m) cap) w)/\
   (∀ g cur e',base=some ⟨g,0,none⟩->w.heap[g]? =some (.cells cur e' (0,0))->n*i.size+news.length<=cur.size->
    (Builtin.append_ #[t,u] ty #[.slice base n cap,xv]).run P w= .ok (.slice (some ⟨g,0,none⟩) (n+m) cap) (w.setRow g (cur.toList.take (n*i.size)++news++cur.toList.drop (n*i.size+news.length)).toArray)))/\
  (cap<n+m->∃ C,n+m<=C/\(Builtin.append_ #[t,u] ty #[.slice base n cap,xv]).run P w= .ok (.slice (some ⟨w.heap.size,0,none⟩) (n+m) C)
   (w.drew.alloc (.cells ((olds++news)++(Builtin.zeroCells zv.cells (C-(n+m))).toList).toArray e))):=by
 have xV:∀ (a b:Lv) (c:Array Value),a.toArray++(b.toArray++c)=(a++(b++c.toList)).toArray:=λa b c=>by apply Array.ext';simp
 have h1:n+m<=(n+m)*max i.bytes 1:=Nat.le_mul_of_pos_right _ (by omega);have h2:(n+m)*i.bytes<=(n+m)*max i.bytes 1:=Nat.mul_le_mul_left _ (by omega);have hnews:∀ w',w'.heap=w.heap->(Builtin.firstCells i.size m xv).run P w'= .ok news.toArray w':=λw' hw=>by
  have:=hx.cells m (Nat.le_refl _) w' hw
  rwa [List.take_of_length_le (by rw [hx.len];exact Nat.le_refl _)] at this
 constructor
 ·intro hroom;constructor
  ·rintro rfl;simp [Builtin.append_,run_underlying ht,run_underlying hu,sizeOf,typeInfo,hi,hx.lenOf,hroom,hnews w rfl]
  ·rintro g cur e' rfl hg hfit;have hst:=run_storeCells_at (P:=P) g (n*i.size) e' news 0 cur w hg (by simpa using hfit) hx.one;simp only [Nat.add_zero] at hst;simp [Builtin.append_,run_underlying ht,run_underlying hu,sizeOf,typeInfo,hi,hx.lenOf,hroom,hnews w rfl,Addr.add_lit,hst]
 ·intro hg;have hn:¬ (n+m<=cap):=by omega
  have UZ:¬ (9223372036854775807<((n:Int)+(m:Int))):=by omega
  have hfit:=growslice_fits (bytes:=i.bytes) hg (by omega);have U3:¬ (281474976710656<Builtin.nextslicecap (n+m) cap*i.bytes):=by omega
  refine ⟨grownCap w (n+m) cap e,grownCap_ge w _ _ e,?_⟩;simp [Builtin.append_,run_underlying ht,run_underlying hu,sizeOf,typeInfo,zeroValue,hi,hz,hx.lenOf,hn,UZ,U3,Question.forced,ho w.drew rfl,hnews w.drew rfl,newRow,grownCap,xV]
theorem xW {f:TypeId} (ht:P.underlying t=some (.slice e)) (hu:P.underlying u=some (.slice f)) {s:SV} {K:KT} {zv:Value} (hi:P.info? e=some i) (hz:i.zero=some zv)
  (hzs:zv.cells.size=i.size) (_:0<i.size) {new:Row} {sm:Bool} (h:oo sm e i s m new bx E K) (hsrc:Src P w ρ i.size xv m new news) (hR:Rel w0 mu bx E ρ w) (hs:s.den ρ=some sv):
  ∃ v w' s' bA ρ',(Builtin.append_ #[t,u] ty #[sv,xv]).run P w= .ok v w'/\ρ<+:ρ'/\s'.den ρ'=some v/\Rel w0 mu bA E ρ' w'/\K s' bA E:=by
 unfold oo at h;have CU:Rel w0 mu bx E ρ w.drew:=hR.drew _;split at h
 ·-- nil
  rename_i base n cap;simp only [SV.den,Option.some.injEq] at hs;subst hs
  cases TL:base.isNone with
  | false=>
   rw [TL] at h;simp only [cond] at h;obtain ⟨n',old,olds,h,Qr⟩:=rB (P:=P) h hR (xv:=.slice base n cap) rfl;obtain ⟨hgt,h⟩:=dX h;obtain ⟨hb,h⟩:=dX h;have LJ:n'=n:=by have:=Qr.lenOf w;simpa [Builtin.lenOf] using this.symm
   subst LJ;obtain ⟨row,h,hrow⟩:=oq h Qr.den hsrc.den;have hrun:=mU (ty:=ty) (base:=base) (n:=n') (cap:=cap) (olds:=olds) ht hu hi hz hsrc (λw' hw=>by
    have:=Qr.cells n' (Nat.le_refl _) w' hw
    rwa [List.take_of_length_le (by rw [Qr.len];exact Nat.le_refl _)] at this) hb
   obtain ⟨C,hC,hr⟩:=hrun.2 hgt;have iT:=CU.alloc e row _ (Builtin.zeroCells zv.cells (C-(n'+m))).toList (C*i.size) hrow (by simp only [List.length_append,Qr.len,hsrc.len,Array.length_toList,size_zeroCells,hzs,← Nat.add_mul];congr 1;omega)
   refine ⟨_,_,_,_,_,hr,List.prefix_append _ _,?_,iT,h C _ hC (Nat.le_refl _)⟩;simp only [SV.den,eu,← hR.len,List.getElem?_append_right (Nat.le_refl _),Nat.sub_self,List.getElem?_cons_zero];rfl
  | true=>
  rw [TL] at h;simp only [cond] at h;obtain rfl:base=none:=by cases base with |none=>rfl|some x=>cases TL
  split at h;case isFalse=>exact h.elim
  rename_i hn;obtain ⟨rfl,rfl⟩:=hn;obtain ⟨hb,h⟩:=dX h;have hrun:=mU (ty:=ty) (base:=none) (n:=0) (cap:=0) (olds:=[]) ht hu hi hz hsrc (λw' hw=>by simp [Builtin.firstCells]) (by simpa using hb);simp only [Nat.zero_add,List.nil_append] at hrun;by_cases hroom:m<=0
  ·obtain rfl:m=0:=by omega
   have lB:news=[]:=by have:=hsrc.len;simpa using this
   subst lB;have PX:new.cells=[]:=by have:=bN hsrc.den;exact List.eq_nil_of_length_eq_zero this.symm
   refine ⟨_,w,_,_,ρ++[none],by simpa using (hrun.1 (Nat.le_refl _)).1,List.prefix_append _ _,?_,hR.zm ⟨e,new,0,true⟩ none (λρ' _=>⟨PX,rfl⟩) (λa ha=>by cases ha),h 0 0 (Nat.le_refl _) (by simp)⟩;simp [SV.den,eu,← hR.len]
  ·obtain ⟨C,hC,hr⟩:=hrun.2 (by omega);have iT:=CU.alloc e new news (Builtin.zeroCells zv.cells (C-m)).toList (C*i.size) hsrc.den (by
    simp only [List.length_append,hsrc.len,Array.length_toList,size_zeroCells,hzs,← Nat.add_mul];congr 1;omega)
   refine ⟨_,_,_,_,_,hr,List.prefix_append _ _,?_,iT,h C _ hC (Nat.le_refl _)⟩;simp only [SV.den,eu,← hR.len,List.getElem?_append_right (Nat.le_refl _),Nat.sub_self,List.getElem?_cons_zero];rfl
 ·rename_i b off n cap;split at h;case isFalse=>exact h.elim
  rename_i U4;subst U4;split at h;case h_2=>exact h.elim
  rename_i e' r tot qR;split at h;case isFalse=>exact h.elim
  rename_i he;subst he;obtain ⟨hlen,Ng,hnc,h⟩:=h;obtain ⟨hb,h⟩:=dX h;have hi':=eC qR;simp only [SV.den] at hs
  -- what the old row holds
  have CV:=hR.kill b ⟨e',r,tot,true⟩;rcases cN hs with ⟨c,hc,rfl⟩|⟨hn,_,rfl,rfl,rfl⟩
  ·obtain ⟨hsp,olds,hold,h3⟩:=hR.box b _ _ qR hc;simp only [if_true] at h3;obtain ⟨nA,bZ,kh,htot⟩:=h3;have LK:c=⟨c.block,0,none⟩:=by cases c;simp only at hsp nA;subst hsp;subst nA;rfl
   have hc0:c.add 0=c:=by rw [add_eq hsp];simp only [Nat.add_zero];rw [← hsp]
   rw [hc0];have Qs:olds.length=r.cells.length:=bN hold;obtain ⟨row,h,hrow⟩:=oq h (pW (n:=n*i.size) hold) hsrc.den;obtain ⟨t1,t2,t3⟩:=hR.sep b _ c qR rfl hc;have hrun:=mU (ty:=ty) (base:=some c) (n:=n) (cap:=cap) (olds:=olds.take (n*i.size)) ht hu hi hz hsrc (λw' hw=>by refine jB (by rw [List.length_take];omega) ?_;intro j u hu;have hj:=eC hu;rw [List.length_take] at hj;rw [List.getElem?_take_of_lt (by omega)] at hu;rw [tL hw,add_eq hsp,cell_of_row w c.block (c.off+j) _ _ _ kh,nA,Nat.zero_add];simp [List.getElem?_append_left (show j<olds.length by omega),hu]) hb
   by_cases hroom:n+m<=cap
   ·-- in place
    have hfit:n*i.size+news.length<=(olds++bZ).toArray.size:=by rw [List.size_toArray,htot,hsrc.len,← Nat.add_mul];exact Nat.le_trans (Nat.mul_le_mul_right _ hroom) Ng
    have hr:=(hrun.1 hroom).2 c.block _ _ (by rw [← LK]) kh hfit;have hw:=CV.write (g:=c.block) t1 (λj b' a' pG hl nJ=>by
     by_cases hj:b=j
     ·subst hj;rw [List.getElem?_set_self hi'] at pG;simp only [Option.some.injEq] at pG;subst pG;cases hl
     ·rw [List.getElem?_set_ne hj] at pG;exact t2 j b' a' (Ne.symm hj) pG hl nJ) t3 ((olds++bZ).toArray.toList.take (n*i.size)++news++(olds++bZ).toArray.toList.drop (n*i.size+news.length)).toArray
    have zh:=hw.zm ⟨e',row,tot,true⟩ (some c) (λρ' hp=>⟨hsp,_,SV.iK hp _ hrow,by
     simp only [if_true];refine ⟨nA,(olds++bZ).drop (n*i.size+news.length),?_,?_⟩
     ·rw [setRow_heap w c.block _ _ _ (0,0) kh];simp only [List.append_assoc];rw [List.take_append_of_le_length (by omega)]
     ·simp only [List.size_toArray] at hfit;simp only [List.length_append,List.length_take,List.length_drop] at htot hfit ⊢;omega⟩) (λa ha=>by
     cases ha;refine ⟨t1,?_,t3⟩;intro j b' a' pG hl nJ;by_cases hj:b=j
     ·subst hj;rw [List.getElem?_set_self hi'] at pG;simp only [Option.some.injEq] at pG;subst pG;cases hl
     ·rw [List.getElem?_set_ne hj] at pG;exact t2 j b' a' (Ne.symm hj) pG hl nJ)
    refine ⟨_,_,_,_,_,hr,List.prefix_append _ _,?_,zh,oh (h cap tot hroom Ng) (Nat.le_refl _)⟩;simp only [SV.den,eu,← hR.len,List.getElem?_append_right (Nat.le_refl _),Nat.sub_self,List.getElem?_cons_zero];rw [hc0,← LK]
   ·obtain ⟨C,hC,hr⟩:=hrun.2 (by omega);have iT:=(Rel.drew CV (w.drawn+1)).alloc e' row _ (Builtin.zeroCells zv.cells (C-(n+m))).toList (C*i.size) hrow (by
     simp only [List.length_append,List.length_take,hsrc.len,Array.length_toList,size_zeroCells,hzs];rw [Nat.min_eq_left (by omega),← Nat.add_mul,← Nat.add_mul];congr 1;omega)
    refine ⟨_,_,_,_,_,hr,List.prefix_append _ _,?_,iT,oh (h C _ hC (Nat.le_refl _)) (by omega)⟩;simp only [SV.den,eu,← hR.len,List.getElem?_append_right (Nat.le_refl _),Nat.sub_self,List.getElem?_cons_zero];rfl
  ·-- a nil slice in a box
   have gG:=hR.box b _ _ qR hn;have FZ:r.cells=[]:=gG.1;have Qt:tot=0:=gG.2;subst Qt;have hold:SV.bF ρ r.cells=some []:=by rw [FZ];rfl
   obtain ⟨row,h,hrow⟩:=oq h (pW (n:=0*i.size) hold) hsrc.den;simp only [List.take_nil,List.nil_append] at hrow;have hrun:=mU (ty:=ty) (base:=none) (n:=0) (cap:=0) (olds:=[]) ht hu hi hz hsrc (λw' hw=>by simp [Builtin.firstCells]) (by simpa using hb);simp only [Nat.zero_add,List.nil_append] at hrun h;by_cases hroom:m<=0
   ·obtain rfl:m=0:=by omega
    have lB:news=[]:=by have:=hsrc.len;simpa using this
    subst lB;have PX:row.cells=[]:=by have:=bN hrow;exact List.eq_nil_of_length_eq_zero this.symm
    refine ⟨_,w,_,_,ρ++[none],by simpa using (hrun.1 (Nat.le_refl _)).1,List.prefix_append _ _,?_,CV.zm ⟨e',row,0,true⟩ none (λρ' _=>⟨PX,rfl⟩) (λa ha=>by cases ha),oh (h 0 0 (Nat.le_refl _) (by simp)) (Nat.le_refl _)⟩;simp [SV.den,eu,← hR.len]
   ·obtain ⟨C,hC,hr⟩:=hrun.2 (by omega);have iT:=(Rel.drew CV (w.drawn+1)).alloc e' row news (Builtin.zeroCells zv.cells (C-m)).toList (C*i.size) hrow (by
     simp only [List.length_append,hsrc.len,Array.length_toList,size_zeroCells,hzs,← Nat.add_mul];congr 1;omega)
    refine ⟨_,_,_,_,_,hr,List.prefix_append _ _,?_,iT,oh (h C _ hC (Nat.le_refl _)) (by omega)⟩;simp only [SV.den,eu,← hR.len,List.getElem?_append_right (Nat.le_refl _),Nat.sub_self,List.getElem?_cons_zero];rfl
 ·exact h.elim
theorem xX {f:TypeId} (ht:P.underlying t=some (.slice e)) (hu:P.underlying u=some (.slice f)) {s x:SV} {K:KT} (h:vG P e s x bx E K) (hR:Rel w0 mu bx E ρ w) (hs:s.den ρ=some sv) (hx:x.den ρ=some xv):
  ∃ v w' s' bA E' ρ',(Builtin.append_ #[t,u] ty #[sv,xv]).run P w= .ok v w'/\ρ<+:ρ'/\s'.den ρ'=some v/\Rel w0 mu bA E' ρ' w'/\K s' bA E':=by
 unfold vG at h;split at h;case h_2=>exact h.elim
 rename_i i hi;split at h;case h_2=>exact h.elim
 rename_i zv hz;split at h;case isFalse=>exact h.elim
 rename_i hc;obtain ⟨hzs,hpos⟩:=hc;have h0:=rB (P:=P) h hR hx;clear h;obtain ⟨m,new,news,h,hsrc⟩:=h0;have fin:∀ {row:Row} {FY:List aR} {E2:Mem},oo (sC s x) e i s m row FY E2 K->Src P w ρ i.size xv m row news->Rel w0 mu FY E2 ρ w->
   ∃ v w' s' bA E' ρ',(Builtin.append_ #[t,u] ty #[sv,xv]).run P w= .ok v w'/\ρ<+:ρ'/\s'.den ρ'=some v/\Rel w0 mu bA E' ρ' w'/\K s' bA E':=by
  intro row FY E2 h1 h2 h3;obtain ⟨v,w',s',bA,ρ',q⟩:=xW (ty:=ty) ht hu hi hz hzs hpos h1 h2 h3 hs;exact ⟨v,w',s',bA,E2,ρ',q⟩
 cases hr:FX s bx with
 | false=>rw [hr] at h;exact fin h hsrc hR
 | true=>
  rw [hr] at h;simp only [cond] at h;split at h
  ·rename_i l;split at h
   ·exact fin h hsrc hR
   ·obtain ⟨l',FY,E2,h1,h2,h3⟩:=lV 8 l bx E news h hR hsrc.den;exact fin h3 { hsrc with den:=h1 } h2
  ·exact fin h hsrc hR
theorem sD {f:TypeId} (ht:P.underlying t=some (.slice e)) (_hu:P.underlying u=some (.slice f)) (hi:P.info? e=some i) (hR:Rel w0 mu bx E ρ w) {e':TypeId} {r row:Row} {new:Row}
  (qR:bx[b]? =some ⟨e',r,tot,true⟩) (hs:eu ρ b off n cap=some sv) (hsrc:Src P w ρ i.size xv m new news) (hle:off+n*i.size<=r.cells.length)
  (hrow:∀ vs,SV.bF ρ r.cells=some vs->SV.bF ρ row.cells=some (vs.take off++news.take (min m n*i.size)++vs.drop (off+(news.take (min m n*i.size)).length))):
  ∃ w',(Builtin.copy_ #[t,u] ty #[sv,xv]).run P w= .ok (.int .i64 (min m n:Nat)) w'/\Rel w0 mu (bx.set b ⟨e',row,tot,true⟩) E ρ w':=by
 have hnews:∀ k,k<=m->(Builtin.firstCells i.size k xv).run P w= .ok (news.take (k*i.size)).toArray w:=λk hk=>hsrc.cells k hk w rfl;have hmin:(Builtin.firstCells i.size (min m n) xv).run P w= .ok (news.take (min m n*i.size)).toArray w:=hnews _ (Nat.min_le_left _ _);rcases cN hs with ⟨c,hc,rfl⟩|⟨hn,rfl,rfl,rfl,rfl⟩
 ·obtain ⟨hsp,olds,hold,h3⟩:=hR.box b _ _ qR hc;simp only [if_true] at h3;obtain ⟨nA,bZ,kh,htot⟩:=h3;have LK:c=⟨c.block,0,none⟩:=by cases c;simp only at hsp nA;subst hsp;subst nA;rfl
  have Qs:olds.length=r.cells.length:=bN hold;have Nh:(news.take (min m n*i.size)).length=min m n*i.size:=by rw [List.length_take,hsrc.len,Nat.min_eq_left (Nat.mul_le_mul_right _ (Nat.min_le_left _ _))]
  have hmul:min m n*i.size<=n*i.size:=Nat.mul_le_mul_right _ (Nat.min_le_right _ _);have hst:=run_storeCells_at (P:=P) c.block off e' (news.take (min m n*i.size)) 0 _ w kh (by simp only [List.size_toArray,List.length_append];omega) (λv hv=>hsrc.one v (List.mem_of_mem_take hv))
  simp only [Nat.add_zero] at hst;have zh:c.add off=⟨c.block,off,none⟩:=by rw [add_eq hsp,nA,Nat.zero_add]
  have iz:=hR.setRow (r:=row) (vs:=olds.take off++news.take (min m n*i.size)++olds.drop (off+(news.take (min m n*i.size)).length)) (bZ:=bZ) qR rfl (by rw [← LK];exact hc) (hrow olds hold) (by simp only [List.length_append,List.length_drop] at htot ⊢;rw [List.length_take];omega)
  refine ⟨_,?_,iz⟩;rw [zh];have hr:(Builtin.copy_ #[t,u] ty #[.slice (some ⟨c.block,off,none⟩) n cap,xv]).run P w= .ok (.int .i64 (min m n:Nat)) (w.setRow c.block ((olds++bZ).toArray.toList.take off++news.take (min m n*i.size)++(olds++bZ).toArray.toList.drop (off+(news.take (min m n*i.size)).length)).toArray):=by have e1:Nat.min m n=min m n:=rfl;simp [Builtin.copy_,run_underlying ht,sizeOf,typeInfo,hi,hsrc.lenOf,e1,hmin,hst,goInt]
  rw [hr];congr 2;simp only [List.append_assoc];rw [List.take_append_of_le_length (by omega),List.drop_append_of_le_length (by omega)]
 ·have gG:=hR.box b _ _ qR hn;have FZ:r.cells=[]:=gG.1;have Qt:tot=0:=gG.2;subst Qt;have hd:=hrow [] (by rw [FZ];rfl);have hrc:row.cells=[]:=by
   have:=bN hd;refine List.eq_nil_of_length_eq_zero ?_;rw [← this];simp
  have e1:Nat.min m 0=0:=Nat.min_zero m;have e2:min m 0=0:=Nat.min_zero m;rw [e2] at hmin ⊢;refine ⟨w,?_,?_⟩
  ·simp [Builtin.copy_,run_underlying ht,sizeOf,typeInfo,hi,hsrc.lenOf,hmin,goInt]
  ·-- a nil row, named anew
   have hi':=eC qR;have hk:=hR.kill b ⟨e',r,0,true⟩;refine ⟨hR.keep,by simpa using hR.len,?_,?_,hR.hold,?_,hR.src⟩
   ·intro j b' oa h1 h2;by_cases hj:b=j
    ·subst hj;rw [List.getElem?_set_self hi'] at h1;simp only [Option.some.injEq] at h1;subst h1;rw [hn] at h2;cases h2;exact ⟨hrc,rfl⟩
    ·rw [List.getElem?_set_ne hj] at h1;exact hR.box j b' oa h1 h2
   ·intro j b' a h1 ho h2;have hj:b≠j:=by rintro rfl;rw [hn] at h2;cases h2
    rw [List.getElem?_set_ne hj] at h1;obtain ⟨t1,t2,t3⟩:=hR.sep j b' a h1 ho h2;refine ⟨t1,?_,t3⟩;intro k b3 a3 JA vE CN CO;have hk:b≠k:=by rintro rfl;rw [hn] at CO;cases CO
    rw [List.getElem?_set_ne hk] at vE;exact t2 k b3 a3 JA vE CN CO
   ·intro j b' a h1 hl h2;have hj:b≠j:=by rintro rfl;rw [hn] at h2;cases h2
    rw [List.getElem?_set_ne hj] at h1;exact hR.jM j b' a h1 hl h2
theorem BH {r src:Row} (h:SV.bF ρ src.cells=some vs):SV.bF ρ (BF r src).cells=some vs:=by
 unfold BF;split
 ·rename_i l;split
  ·rename_i us iX;have:=SV.dR ρ l iX;simp only [Row.cells] at h ⊢;rw [this] at h;cases h;exact bU _
  ·exact h
 ·exact h
theorem D6 {f:TypeId} (ht:P.underlying t=some (.slice e)) (_hu:P.underlying u=some (.slice f)) (hi:P.info? e=some i) (hR:Rel w0 mu bx E ρ w) {e':TypeId}
  (qR:bx[b]? =some ⟨e',.vals vs,tot,true⟩) (hs:eu ρ b off n cap=some sv) (hlen:∀ w,(Builtin.lenOf xv).run P w= .ok m w) (hmin:(Builtin.firstCells i.size (min m n) xv).run P w= .ok news.toArray w)
  (Nh:news.length=min m n*i.size) (hone:∀ u∈news,u.oneCell'=true) (aci:off<=vs.length) (hle:off+min m n*i.size<=vs.length\/off+min m n*i.size<=tot):
  ∃ w',(Builtin.copy_ #[t,u] ty #[sv,xv]).run P w= .ok (.int .i64 (min m n:Nat)) w'/\Rel w0 mu (bx.set b ⟨e',.vals (bj vs off news),tot,true⟩) E ρ w':=by
 have e1:Nat.min m n=min m n:=rfl;rcases cN hs with ⟨c,hc,rfl⟩|⟨hn,rfl,rfl,rfl,rfl⟩
 ·obtain ⟨hsp,olds,hold,h3⟩:=hR.box b _ _ qR hc;simp only [if_true] at h3;obtain ⟨nA,bZ,kh,htot⟩:=h3;have LK:c=⟨c.block,0,none⟩:=by cases c;simp only at hsp nA;subst hsp;subst nA;rfl
  have holds:olds=vs:=by have:=bU (ρ:=ρ) vs;have h9:SV.bF ρ (vs.map .raw)=some olds:=hold;rw [this] at h9;cases h9;rfl
  subst holds;simp only [List.length_append] at htot;have hst:=run_storeCells_at (P:=P) c.block off e' news 0 _ w kh (by simp only [List.size_toArray,List.length_append];omega) hone
  simp only [Nat.add_zero] at hst;have zh:c.add off=⟨c.block,off,none⟩:=by rw [add_eq hsp,nA,Nat.zero_add]
  have iz:=hR.setRow (r:=.vals (bj olds off news)) (vs:=bj olds off news) (bZ:=bZ.drop (off+news.length-olds.length)) qR rfl (by rw [← LK];exact hc) (bU _) (by simp only [bj,List.length_append,List.length_drop,List.length_take];omega)
  refine ⟨_,?_,iz⟩;rw [zh];have hr:(Builtin.copy_ #[t,u] ty #[.slice (some ⟨c.block,off,none⟩) n cap,xv]).run P w= .ok (.int .i64 (min m n:Nat)) (w.setRow c.block ((olds++bZ).toArray.toList.take off++news++(olds++bZ).toArray.toList.drop (off+news.length)).toArray):=by simp [Builtin.copy_,run_underlying ht,sizeOf,typeInfo,hi,hlen,e1,hmin,hst,goInt]
  rw [hr];congr 2;simp only [bj,List.append_assoc];rw [List.take_append_of_le_length (by omega),List.drop_append]
 ·have gG:=hR.box b _ _ qR hn;have FZ:vs=[]:=by simpa [aR.cells,Row.cells] using gG.1
  have Qt:tot=0:=gG.2;subst Qt;subst FZ;have e2:min m 0=0:=Nat.min_zero m;rw [e2] at hmin Nh ⊢;have LJ:news=[]:=List.eq_nil_of_length_eq_zero (by simpa using Nh);subst LJ;refine ⟨w,?_,?_⟩
  ·simp [Builtin.copy_,run_underlying ht,sizeOf,typeInfo,hi,hlen,hmin,goInt]
  ·have e3:bj [] 0 []=([]:Lv):=rfl;rw [e3,show bx.set b ⟨e',.vals [],0,true⟩=bx from by
    apply List.ext_getElem?;intro k;by_cases hk:b=k
    ·subst hk;rw [List.getElem?_set_self (eC qR),qR]
    ·rw [List.getElem?_set_ne hk]]
   exact hR
theorem Au {f:TypeId} (ht:P.underlying t=some (.slice e)) (hu:P.underlying u=some (.slice f)) {s x:SV} {K:KT} (h:CP P e s x bx E K) (hR:Rel w0 mu bx E ρ w) (hs:s.den ρ=some sv) (hx:x.den ρ=some xv):
  ∃ v w' s' bA,(Builtin.copy_ #[t,u] ty #[sv,xv]).run P w= .ok v w'/\s'.den ρ=some v/\Rel w0 mu bA E ρ w'/\K s' bA E:=by
 unfold CP at h;split at h;case h_2=>exact h.elim
 rename_i i hi;split at h
 ·rename_i b off n e' vs tot y hd hy;unfold JE at hd;split at hd;case h_2=>cases hd
  rename_i b0 acj n0 cap;split at hd;case h_2=>cases hd
  rename_i qR
  cases hd;obtain ⟨b',off',m,e2,us,xY,o2⟩:=y;unfold JE at hy;split at hy;case h_2=>cases hy
  rename_i b1 ack m1 sE;split at hy;case h_2=>cases hy
  rename_i Qu
  cases hy;obtain ⟨q1,q2,q3,q4,h⟩:=h;simp only [SV.den] at hs hx;have Nh:((us.drop off').take (min m n*i.size)).length=min m n*i.size:=by rw [List.length_take,List.length_drop];omega
  have hone:∀ u∈(us.drop off').take (min m n*i.size),u.oneCell'=true:=λu hu=>q4 u (List.mem_of_mem_drop (List.mem_of_mem_take hu));have hfc:(Builtin.firstCells i.size (min m n) xv).run P w= .ok ((us.drop off').take (min m n*i.size)).toArray w/\∀ w,(Builtin.lenOf xv).run P w= .ok m w:=by
   rcases cN hx with ⟨c,hc,rfl⟩|⟨hn,rfl,rfl,rfl,rfl⟩
   ·obtain ⟨h1,ws,h2,h3⟩:=hR.read' Qu hc;have TG:ws=us:=by
     have:=bU (ρ:=ρ) us;have h9:SV.bF ρ (us.map .raw)=some ws:=h2;rw [this] at h9;cases h9;rfl
    subst TG;refine ⟨jB Nh ?_,λw=>by simp [Builtin.lenOf]⟩;intro j u hu;have hj:=eC hu;rw [Nh] at hj;rw [List.getElem?_take_of_lt hj,List.getElem?_drop] at hu;rw [iQ h1];exact h3 _ _ hu
   ·have gG:=hR.box b' _ _ Qu hn;have FZ:us=[]:=by
     simpa [aR.cells,Row.cells] using gG.1
    subst FZ;refine ⟨by simp [Builtin.firstCells],λw=>by simp [Builtin.lenOf]⟩
  obtain ⟨w',h1,h2⟩:=D6 (ty:=ty) ht hu hi hR qR hs hfc.2 hfc.1 Nh hone q2 q3;exact ⟨_,w',.raw _,_,h1,rfl,h2,h⟩
 rename_i hno;clear hno;have h0:=rB (P:=P) h hR hx;clear h;obtain ⟨m,new,news,h,hsrc⟩:=h0;split at h;case h_2=>exact h.elim
 rename_i b off n cap;split at h;case h_2=>exact h.elim
 rename_i e' r tot qR;simp only [SV.den] at hs;have ju:=pW (n:=min m n*i.size) (BH (r:=r) hsrc.den);split at h
 ·rename_i cells l hl;split at h;case isFalse=>exact h.elim
  rename_i hle;rw [hl] at ju;have Ni:=bN ju;obtain ⟨w',h1,h2⟩:=sD (ty:=ty) (row:=.ae (lay cells off l)) ht hu hi hR qR hs hsrc hle (λvs hv=>by have:=dQ (dQ (ir hv off) ju) (iL hv (off+l.length));rw [Ni];exact this)
  exact ⟨_,w',.raw _,_,h1,rfl,h2,h⟩
 ·rename_i vs l hl;obtain ⟨hle,h⟩:=h;rw [hl] at ju;have Ni:l=news.take (min m n*i.size):=by
   have:=bU (ρ:=ρ) l;simp only [Row.cells] at ju;rw [this] at ju;cases ju;rfl
  obtain ⟨w',h1,h2⟩:=sD (ty:=ty) (row:=.vals (bj vs off l)) ht hu hi hR qR hs hsrc (by simpa [Row.cells] using hle) (λus hv=>by
   have :us=vs:=by have:=bU (ρ:=ρ) vs;simp only [Row.cells] at hv;rw [this] at hv;cases hv;rfl
   subst this;rw [← Ni];exact bU _)
  exact ⟨_,w',.raw _,_,h1,rfl,h2,h⟩
 ·rename_i cells l hl;split at h;case h_2=>exact h.elim
  rename_i vs hvs;obtain ⟨hle,h⟩:=h;rw [hl] at ju;have hvl:=pQ hvs;have Ni:l=news.take (min m n*i.size):=by have:=bU (ρ:=ρ) l;simp only [Row.cells] at ju;rw [this] at ju;cases ju;rfl
  obtain ⟨w',h1,h2⟩:=sD (ty:=ty) (row:=.vals (bj vs off l)) ht hu hi hR qR hs hsrc (by simp only [Row.cells];omega) (λus hv=>by
   have :us=vs:=by have:=SV.dR ρ _ hvs;simp only [Row.cells] at hv;rw [this] at hv;cases hv;rfl
   subst this;rw [← Ni];exact bU _)
  exact ⟨_,w',.raw _,_,h1,rfl,h2,h⟩
 ·rename_i vs l hl;split at h;case h_2=>exact h.elim
  rename_i l' hvs;obtain ⟨hle,h⟩:=h;rw [hl] at ju;have Ni:l'=news.take (min m n*i.size):=by have:=SV.dR ρ _ hvs;simp only [Row.cells] at ju;rw [this] at ju;cases ju;rfl
  obtain ⟨w',h1,h2⟩:=sD (ty:=ty) (row:=.vals (bj vs off l')) ht hu hi hR qR hs hsrc (by simpa [Row.cells] using hle) (λus hv=>by
   have :us=vs:=by have:=bU (ρ:=ρ) vs;simp only [Row.cells] at hv;rw [this] at hv;cases hv;rfl
   subst this;rw [← Ni];exact bU _)
  exact ⟨_,w',.raw _,_,h1,rfl,h2,h⟩
theorem jW {z:Array Value} {sz:Nat} (hsz:z.size=sz):(madeCells z (n*sz)).toList=bW z.toList n:=by
 subst hsz;unfold madeCells bW;apply List.ext_getElem?;intro k;have hpos:k<n*z.size->0<z.size:=λhk=>by
  rcases Nat.eq_zero_or_pos z.size with h0|h0
  ·rw [h0] at hk;simp at hk
  ·exact h0
 have e:∀ (n k:Nat),k<n*z.size->((List.replicate n z.toList).flatten)[k]? =z.toList[k % z.size]?:=by
  intro n
  induction n with
  | zero=>intro k hk;simp at hk
  | succ n ih=>
   intro k hk;rw [List.replicate_succ,List.flatten_cons];rcases Nat.lt_or_ge k z.size with h1|h1
   ·rw [List.getElem?_append_left (by simpa using h1),Nat.mod_eq_of_lt h1]
   ·rw [List.getElem?_append_right (by simpa using h1)];simp only [Array.length_toList];rw [ih (k-z.size) (by rw [Nat.succ_mul] at hk;omega),Nat.mod_eq_sub_mod h1]
 rcases Nat.lt_or_ge k (n*z.size) with hk|hk
 ·rw [e n k hk];have hm:=Nat.mod_lt k (hpos hk);simp [hk,hm]
 ·rw [List.getElem?_eq_none (by simpa using hk),List.getElem?_eq_none (by simpa using hk)]
theorem vo (z:Array Value) (n:Nat):(Builtin.zeroCells z n).toList=bW z.toList n:=jW (sz:=z.size) rfl
theorem BI (z:Lv) (n:Nat):(bW z n).length=n*z.length:=by unfold bW;simp
theorem zn (ht:P.underlying t=some (.slice e)) {s:SV} {K:KT} (h:zl P e s bx E K) (hR:Rel w0 mu bx E ρ w) (hs:s.den ρ=some sv):
  ∃ v w' s' bA,(Builtin.clear_ #[t] ty #[sv]).run P w= .ok v w'/\s'.den ρ=some v/\Rel w0 mu bA E ρ w'/\K s' bA E:=by
 unfold zl at h;split at h;case h_2=>exact h.elim
 rename_i i hi;split at h;case h_2=>exact h.elim
 rename_i zv hz;split at h;case isFalse=>exact h.elim
 rename_i hc;obtain ⟨hzs,hone⟩:=hc;split at h;case h_2=>exact h.elim
 rename_i b off n cap;split at h;case h_2=>exact h.elim
 rename_i e' vs tot qR;obtain ⟨hlo,hle,h⟩:=h;simp only [SV.den] at hs;have TM:(bW zv.cells.toList n).length=n*i.size:=by rw [BI,Array.length_toList,hzs]
 have F0:∀ u∈bW zv.cells.toList n,u.oneCell'=true:=λu hu=>by unfold bW at hu;obtain ⟨l,hl,hu⟩:=List.mem_flatten.1 hu;obtain ⟨_,rfl⟩:=List.mem_replicate.1 hl;exact List.all_eq_true.1 hone u hu
 have hsame:n=0->bx.set b ⟨e',.vals (bj vs off (bW zv.cells.toList n)),tot,true⟩=bx:=λe0=>by
  subst e0;have e1:bj vs off (bW zv.cells.toList 0)=vs:=by unfold bj bW;simp
  rw [e1];apply List.ext_getElem?;intro k;by_cases hk:b=k
  ·subst hk;rw [List.getElem?_set_self (eC qR),qR]
  ·rw [List.getElem?_set_ne hk]
 rcases cN hs with ⟨c,hc,rfl⟩|⟨hn,rfl,rfl,rfl,rfl⟩
 ·by_cases TN:n=0
  ·refine ⟨.tuple #[],w,.bB [],_,?_,rfl,?_,h⟩
   ·subst TN;simp [Builtin.clear_,run_underlying ht]
   ·rw [hsame TN];exact hR
  obtain ⟨hsp,olds,hold,h3⟩:=hR.box b _ _ qR hc;simp only [if_true] at h3;obtain ⟨nA,bZ,kh,htot⟩:=h3;have LK:c=⟨c.block,0,none⟩:=by cases c;simp only at hsp nA;subst hsp;subst nA;rfl
  have holds:olds=vs:=by have:=bU (ρ:=ρ) vs;have h9:SV.bF ρ (vs.map .raw)=some olds:=hold;rw [this] at h9;cases h9;rfl
  subst holds;simp only [List.length_append] at htot;have hst:=run_storeCells_at (P:=P) c.block off e' (bW zv.cells.toList n) 0 _ w kh (by simp only [List.size_toArray,List.length_append];omega) F0
  simp only [Nat.add_zero] at hst;have zh:c.add off=⟨c.block,off,none⟩:=by rw [add_eq hsp,nA,Nat.zero_add]
  have iz:=hR.setRow (r:=.vals (bj olds off (bW zv.cells.toList n))) (vs:=bj olds off (bW zv.cells.toList n)) (bZ:=bZ.drop (off+(bW zv.cells.toList n).length-olds.length)) qR rfl (by rw [← LK];exact hc) (bU _) (by simp only [bj,List.length_append,List.length_drop,List.length_take];omega)
  refine ⟨.tuple #[],_,.bB [],_,?_,rfl,iz,h⟩;rw [zh];have hr:(Builtin.clear_ #[t] ty #[.slice (some ⟨c.block,off,none⟩) n cap]).run P w= .ok (.tuple #[]) (w.setRow c.block ((olds++bZ).toArray.toList.take off++bW zv.cells.toList n++(olds++bZ).toArray.toList.drop (off+(bW zv.cells.toList n).length)).toArray):=by obtain ⟨m,rfl⟩:∃ m,n=m+1:=⟨n-1,by omega⟩;simp [Builtin.clear_,run_underlying ht,jV hi hz,vo,hst]
  rw [hr];congr 2;simp only [bj,List.append_assoc];rw [List.take_append_of_le_length (by omega),List.drop_append]
 ·refine ⟨.tuple #[],w,.bB [],_,?_,rfl,?_,h⟩
  ·simp [Builtin.clear_,run_underlying ht]
  ·rw [hsame rfl];exact hR
theorem Av (ht:P.underlying t=some (.slice e)) {kl kc:IntKind} {l c:Int} {K:KT} (h:CQ P e l c bx E K) (hR:Rel w0 mu bx E ρ w):
  ∃ v w' s' bA ρ',(Instr.makeSlice t (.int kl l) (.int kc c)).run P w= .ok v w'/\ρ<+:ρ'/\s'.den ρ'=some v/\Rel w0 mu bA E ρ' w'/\bx<+:bA/\K s' bA E:=by
 unfold CQ at h;split at h;case h_2=>exact h.elim
 rename_i i hi;split at h;case h_2=>exact h.elim
 rename_i zv hz;split at h;case isFalse=>exact h.elim
 rename_i hc;obtain ⟨hzs,hone⟩:=hc;obtain ⟨⟨h0,hlc⟩,h⟩:=dX h;obtain ⟨hb,h⟩:=dX h;have PX:(c.toNat:Int)=c:=Int.toNat_of_nonneg (by omega);have hb':c.toNat*max i.bytes 1<=140737488355328:=by
  have :((c.toNat*max i.bytes 1:Nat):Int)<=140737488355328:=by rw [Int.natCast_mul,PX];exact hb
  omega
 have h1:c.toNat<=c.toNat*max i.bytes 1:=Nat.le_mul_of_pos_right _ (by omega);have h2:c.toNat*i.bytes<=c.toNat*max i.bytes 1:=Nat.mul_le_mul_left _ (by omega);have hrun:=run_make (P:=P) w t e i zv ht hi hz kl kc l c h0 hlc (by
  have :((i.bytes*c.toNat:Nat):Int)<=281474976710656:=by rw [Nat.mul_comm];omega
  rwa [Int.natCast_mul,PX] at this) (by omega)
 have Nj:madeCells zv.cells (c.toNat*i.size)=(bW zv.cells.toList c.toNat++[]).toArray:=by apply Array.ext';rw [jW hzs];simp
 rw [Nj] at hrun;have iT:=hR.alloc e (.vals (bW zv.cells.toList c.toNat)) (bW zv.cells.toList c.toNat) [] (c.toNat*i.size) (bU _) (by rw [List.append_nil,← jW hzs];simp [madeCells])
 refine ⟨_,_,_,_,_,hrun,List.prefix_append _ _,?_,iT,List.prefix_append _ _,h⟩;simp only [SV.den,eu,← hR.len,List.getElem?_append_right (Nat.le_refl _),Nat.sub_self,List.getElem?_cons_zero];rfl
theorem pX (z:Array Value) (n:Nat):(Builtin.zeroCells z n).toList=bW z.toList n:=jW (sz:=z.size) rfl
theorem xZ {kn:IntKind} (ht:P.underlying t=some (.slice e)) (hu:P.underlying u=some (.int kn)) {s x:SV} {K:KT} (h:vH P e s x bx E K) (hR:Rel w0 mu bx E ρ w) (hs:s.den ρ=some sv) (hx:x.den ρ=some xv):
  ∃ v w' s' bA ρ',(Builtin.append_ #[t,u] ty #[sv,xv]).run P w= .ok v w'/\ρ<+:ρ'/\s'.den ρ'=some v/\Rel w0 mu bA E ρ' w'/\K s' bA E:=by
 unfold vH at h;split at h;case h_2=>exact h.elim
 rename_i i hi;split at h;case h_2=>exact h.elim
 rename_i kq k;simp only [SV.den,Option.some.injEq] at hx;subst hx;split at h;case h_2=>exact h.elim
 rename_i zv hz;split at h;case isFalse=>exact h.elim
 rename_i hzs;obtain ⟨hzs,hpos⟩:=hzs;split at h;case h_2=>exact h.elim
 rename_i b off n cap;split at h;case isFalse=>exact h.elim
 rename_i U4;subst U4;split at h;case h_2=>exact h.elim
 rename_i e' vs tot qR;obtain ⟨hlen,h⟩:=h;obtain ⟨hk,h⟩:=dX h;obtain ⟨Ng,h⟩:=dX h;obtain ⟨hb,h⟩:=dX h;obtain ⟨m,rfl⟩:∃ m:Nat,k=m:=⟨k.toNat,by omega⟩;simp only [Int.toNat_natCast] at h;have hm:0<m:=by omega
 have hg:cap<n+m:=by omega
 have TL:(n+m)*max i.bytes 1<=140737488355328:=by rw [← Int.natCast_add,← Int.natCast_mul] at hb;omega
 have h1:n+m<=(n+m)*max i.bytes 1:=Nat.le_mul_of_pos_right _ (by omega);have h2:(n+m)*i.bytes<=(n+m)*max i.bytes 1:=Nat.mul_le_mul_left _ (by omega);have h3:m*i.bytes<=(n+m)*i.bytes:=Nat.mul_le_mul_right _ (by omega);have hfit:=growslice_fits (bytes:=i.bytes) hg (by omega);have CU:Rel w0 mu bx E ρ w.drew:=hR.drew _;simp only [SV.den] at hs;have key:∀ (base:Oa),(Builtin.firstCells i.size n (.slice base n cap)).run P w.drew= .ok (vs.take (n*i.size)).toArray w.drew->sv= .slice base n cap->
   ∃ v w' s' bA ρ',(Builtin.append_ #[t,u] ty #[sv,.int kq m]).run P w= .ok v w'/\ρ<+:ρ'/\s'.den ρ'=some v/\Rel w0 mu bA E ρ' w'/\K s' bA E:=by
  rintro base hold rfl;have hrun:=Lib.run_append_grow_zeros w t u ty e i zv kq kn ht hu hi hz base n cap (vs.take (n*i.size)) hold m hm hpos hg (by omega) (by omega) (by omega);have hC:=grownCap_ge w (n+m) cap e;have iT:=CU.alloc e (.vals (vs.take (n*i.size)++bW zv.cells.toList m)) (vs.take (n*i.size)++bW zv.cells.toList m) (bW zv.cells.toList (grownCap w (n+m) cap e-(n+m))) (grownCap w (n+m) cap e*i.size) (bU _) (by
   have F0:∀ q,(bW zv.cells.toList q).length=q*i.size:=λq=>by rw [← pX,Array.length_toList,size_zeroCells,hzs]
   simp only [List.length_append,List.length_take,F0];rw [Nat.min_eq_left hlen,← Nat.add_mul,← Nat.add_mul];congr 1;omega)
  have xV:((vs.take (n*i.size)).toArray++Builtin.zeroCells zv.cells m++Builtin.zeroCells zv.cells (grownCap w (n+m) cap e-(n+m)))=(vs.take (n*i.size)++bW zv.cells.toList m++bW zv.cells.toList (grownCap w (n+m) cap e-(n+m))).toArray:=by apply Array.ext';simp [pX]
  rw [xV] at hrun;refine ⟨_,_,_,_,_,hrun,List.prefix_append _ _,?_,iT,h _ _ hC (Nat.le_refl _)⟩;simp only [SV.den,eu,← hR.len,List.getElem?_append_right (Nat.le_refl _),Nat.sub_self,List.getElem?_cons_zero];rfl
 rcases cN hs with ⟨c,hc,rfl⟩|⟨hn,_,rfl,rfl,rfl⟩
 ·obtain ⟨hsp,olds,hold,h3⟩:=hR.box b _ _ qR hc;simp only [if_true] at h3;obtain ⟨nA,bZ,kh,htot⟩:=h3;have ho:olds=vs:=by
   have:=bU (ρ:=ρ) vs;simp only [aR.cells,Row.cells] at hold;rw [this] at hold;cases hold;rfl
  subst ho;refine key _ (jB (by rw [List.length_take];omega) ?_) rfl;intro j u hu;have hj:=eC hu;rw [List.length_take] at hj;rw [List.getElem?_take_of_lt (by omega)] at hu;have hc0:c.add 0=c:=by rw [add_eq hsp];simp only [Nat.add_zero];rw [← hsp]
  rw [hc0,tL (w':=w.drew) (w:=w) rfl,add_eq hsp,cell_of_row w c.block (c.off+j) _ _ _ kh,nA,Nat.zero_add];simp [List.getElem?_append_left (show j<olds.length by omega),hu]
 ·exact key none (by simp [Builtin.firstCells]) rfl
theorem Aw (he:P.underlying T=some (.slice e)) {base:Oa} {c l' c':Nat} (d:Nat) (w:World):
  (Op.equalIn (d+1) T (.slice base n c) (.slice none l' c')).run P w= .ok base.isNone w:=by
 cases base<;>simp [Op.equalIn,run_underlying he]
theorem kF (ht:P.underlying T=some (.slice e)) {s t:SV} {K:Bool->Prop} (h:qC s t K) {tv:Value} (hs:s.den ρ=some sv) (htv:t.den ρ=some tv):
  ∃ r:Bool,K r/\(∀ x y w,(eqGuard .eql T x y sv tv).run P w= .ok () w)/\(∀ x y w,(eqGuard .neq T x y sv tv).run P w= .ok () w)/\(∀ w,(binOp .eql T sv tv).run P w= .ok (.bool r) w)/\∀ w,(binOp .neq T sv tv).run P w= .ok (.bool !r) w:=by
 unfold qC at h;split at h;case h_2=>exact h.elim
 rename_i l' c';simp only [SV.den,Option.some.injEq] at htv;subst htv;have key:∀ base n c,sv= .slice base n c->(∀ x y w,(eqGuard .eql T x y sv (.slice none l' c')).run P w= .ok () w)/\(∀ x y w,(eqGuard .neq T x y sv (.slice none l' c')).run P w= .ok () w)/\(∀ w,(binOp .eql T sv (.slice none l' c')).run P w= .ok (.bool base.isNone) w)/\∀ w,(binOp .neq T sv (.slice none l' c')).run P w= .ok (.bool !base.isNone) w:=by
  rintro base n c rfl;have heq:∀ w,(Op.equal T (.slice base n c) (.slice none l' c')).run P w= .ok base.isNone w:=λw=>Aw ht 9999 w;refine ⟨λx y w=>rfl,λx y w=>rfl,λw=>?_,λw=>?_⟩
  ·have hb:binOp .eql T (.slice base n c) (.slice none l' c')=(do pure (.bool (← Op.equal T (.slice base n c) (.slice none l' c')))):=rfl
   simp only [hb,Sem.run_bind,heq,Result.andThen_ok,Sem.run_pure]
  ·have hb:binOp .neq T (.slice base n c) (.slice none l' c')=(do pure (.bool (!(← Op.equal T (.slice base n c) (.slice none l' c'))))):=rfl
   simp only [hb,Sem.run_bind,heq,Result.andThen_ok,Sem.run_pure]
 split at h
 ·rename_i b off n c;simp only [SV.den] at hs;rcases cN hs with ⟨d,hd,rfl⟩|⟨hn,rfl,rfl,rfl,rfl⟩
  ·exact ⟨false,h false (by simp),key _ _ _ rfl⟩
  ·exact ⟨true,h true (by simp),key _ _ _ rfl⟩
 ·rename_i base n c;simp only [SV.den,Option.some.injEq] at hs;subst hs;exact ⟨base.isNone,h,key _ _ _ rfl⟩
 ·exact h.elim
theorem wc:∀ (n:Nat) (T:TypeId) (s t:SV) (b:Bool) (x y:Value),xT P n T s t=some b->s.den ρ=some x->t.den ρ=some y->∀ (d:Nat) (w:World),(Op.equalIn (n+d) T x y).run P w= .ok b w
 | 0,_,_,_,_,_,_,h,_,_,_,_=>by cases h
 | n+1,T,s,t,b,x,y,h,hx,hy,d,w=>by
  have hd:n+1+d=n+d+1:=by omega
  rw [hd];unfold xT at h;split at h
  ·rename_i k hu;split at h
   ·rename_i k1 a k2 c;split at h
    ·rename_i hk;subst hk;simp only [SV.den,Option.some.injEq] at h hx hy;subst h;subst hx;subst hy;exact run_equalIn_int w (n+d) T _ _ a c hu
    ·cases h
   ·cases h
  ·rename_i hu;split at h
   ·rename_i a c;simp only [SV.den,Option.some.injEq] at h hx hy;subst h;subst hx;subst hy;exact run_equalIn_bool w (n+d) T a c hu
   ·cases h
  ·rename_i fs hu;split at h
   ·rename_i cs ds hcs hds;split at h
    ·rename_i Qv;obtain ⟨xs,rfl,h1⟩:=gV hcs hx;obtain ⟨ys,rfl,h2⟩:=gV hds hy;have hf:P.fieldsOf T=fs:=by simp [Program.fieldsOf,hu]
     rw [run_equalIn_struct w (n+d) T _ _ (by rw [hf];exact hu) Qv,hf];have go:∀ (l:List Field) (b:Bool),D3 P (xT P n) cs ds l=some b->(Op.eqFields (n+d) xs.toArray ys.toArray l).run P w= .ok b w:=by
      intro l
      induction l with
      | nil=>intro b h;simp only [D3,Option.some.injEq] at h;subst h;rfl
      | cons f l ih=>
       intro b h;simp only [D3] at h;simp only [Op.eqFields];split at h
       ·rename_i hn;rw [if_pos hn];split at h;case h_2=>cases h
        rename_i p q hp hq;split at h;case h_2=>cases h
        rename_i b1 b2 e1 e2;simp only [Option.some.injEq] at h;subst h;obtain ⟨v1,g1,g2⟩:=kK (P:=P) (w:=w) hp h1;obtain ⟨v2,g3,g4⟩:=kK (P:=P) (w:=w) hq h2;have:=wc n f.type p q b1 v1 v2 e1 g1 g3 d w;simp only [Sem.run_bind,g2,g4,Result.andThen_ok,this,Sem.run_ite]
        cases b1
        ·simp
        ·simp [ih b2 e2]
       ·rename_i hn;rw [if_neg hn];exact ih b h
     exact go fs.toList b h
    ·cases h
   ·cases h
  ·cases h
theorem jX {fs:Array Field} (hu:P.underlying T=some (.struct fs)) (hg:P.eqGuardType P.depth T=false) {s t:SV} {b:Bool} {tv:Value} (h:xT P 12 T s t=some b) (hs:s.den ρ=some sv) (ht:t.den ρ=some tv):
  (∀ x y w,(eqGuard .eql T x y sv tv).run P w= .ok () w)/\(∀ x y w,(eqGuard .neq T x y sv tv).run P w= .ok () w)/\(∀ w,(binOp .eql T sv tv).run P w= .ok (.bool b) w)/\∀ w,(binOp .neq T sv tv).run P w= .ok (.bool !b) w:=by
 have heq:∀ w,(Op.equal T sv tv).run P w= .ok b w:=λw=>wc 12 T s t b sv tv h hs ht 9988 w;have hc:∃ xs ys,sv= .agg xs/\tv= .agg ys:=by
  unfold xT at h;rw [hu] at h;simp only at h;split at h
  ·rename_i cs ds hcs hds;obtain ⟨xs,e1,_⟩:=gV hcs hs;obtain ⟨ys,e2,_⟩:=gV hds ht;exact ⟨_,_,e1,e2⟩
  ·cases h
 obtain ⟨xs,ys,rfl,rfl⟩:=hc;refine ⟨λx y w=>by simp [eqGuard,hg],λx y w=>by simp [eqGuard,hg],λw=>?_,λw=>?_⟩
 ·have hb:binOp .eql T (.agg xs) (.agg ys)=(do pure (.bool (← Op.equal T (.agg xs) (.agg ys)))):=rfl
  simp only [hb,Sem.run_bind,heq,Result.andThen_ok,Sem.run_pure]
 ·have hb:binOp .neq T (.agg xs) (.agg ys)=(do pure (.bool (!(← Op.equal T (.agg xs) (.agg ys))))):=rfl
  simp only [hb,Sem.run_bind,heq,Result.andThen_ok,Sem.run_pure]
end
end Go.Sx
namespace Go.Sx
open Go.RowKit (Below)
variable {f:FuncId} {P:Program} {vs:Lv}
def fj:List aR->List Nat->List aR->List aR
 | bx,j::σ,b::bs=>fj (bx.set j b) σ bs
 | bx,_,_=>bx
def merge (σ:List Nat) (bx jD:List aR):List aR:=
 fj bx σ ((jD.take σ.length).map (aR.cD σ bx.length))++(jD.drop σ.length).map (aR.cD σ bx.length)
theorem iM:∀ (σ:List Nat) (bx bs:List aR),(fj bx σ bs).length=bx.length
 | [],bx,bs=>by cases bs<;>rfl
 | j::σ,bx,[]=>rfl
 | j::σ,bx,b::bs=>by simp only [fj,iM σ,List.length_set]
theorem ot:∀ (σ:List Nat) (bx bs:List aR) (k:Nat),k ∉ σ->(fj bx σ bs)[k]? =bx[k]?
 | [],bx,bs,k,_=>by cases bs<;>rfl
 | j::σ,bx,[],k,_=>rfl
 | j::σ,bx,b::bs,k,h=>by simp only [List.mem_cons,not_or] at h;simp only [fj];rw [ot σ _ bs k h.2,List.getElem?_set_ne (Ne.symm h.1)]
theorem tM:∀ (σ:List Nat) (bx bs:List aR) (i k:Nat) (b:aR),σ.Nodup->σ[i]? =some k->k<bx.length->bs[i]? =some b->(fj bx σ bs)[k]? =some b
 | [],_,_,i,k,_,_,h,_,_=>by simp at h
 | j::σ,bx,[],i,k,b,_,_,_,h=>by simp at h
 | j::σ,bx,c::bs,0,k,b,hn,h,hl,hb=>by simp only [List.getElem?_cons_zero,Option.some.injEq] at h hb;subst h;subst hb;simp only [fj];rw [ot σ _ bs j (List.nodup_cons.1 hn).1,List.getElem?_set_self hl]
 | j::σ,bx,c::bs,i+1,k,b,hn,h,hl,hb=>by simp only [List.getElem?_cons_succ] at h hb;simp only [fj];exact tM σ _ bs i k b (List.nodup_cons.1 hn).2 h (by simpa using hl) hb
mutual
theorem we (σ:List Nat) (n:Nat):∀ (s:SV) {v:Value},s.val=some v->s.cD σ n=s
 | .raw v,_,_=>by simp only [SV.cD]
 | .loc b off,_,e=>by simp [SV.val] at e
 | .bH b off len cap,_,e=>by simp [SV.val] at e
 | .rp v off,_,e=>by simp [SV.val] at e
 | .fM f m l,_,e=>by simp [SV.val] at e
 | .vm n x,_,e=>by simp [SV.val] at e
 | .agg l,_,e=>by simp only [SV.val,Option.map_eq_some_iff] at e;obtain ⟨vs,h1,_⟩:=e;simp only [SV.cD,fZ σ n l h1]
 | .bB l,_,e=>by simp only [SV.val,Option.map_eq_some_iff] at e;obtain ⟨vs,h1,_⟩:=e;simp only [SV.cD,fZ σ n l h1]
 | .cr t x,_,e=>by simp only [SV.val,Option.map_eq_some_iff] at e;obtain ⟨vs,h1,_⟩:=e;simp only [SV.cD,we σ n x h1]
theorem fZ (σ:List Nat) (n:Nat):∀ (l:List SV) {vs:Lv},SV.fY l=some vs->SV.dL σ n l=l
 | [],_,_=>rfl
 | x::l,vs,e=>by
  simp only [SV.fY] at e;split at e
  ·rename_i v ws h1 h2;simp only [SV.dL,we σ n x h1,fZ σ n l h2]
  ·cases e
end
structure Part (σ:List Nat) (bx pH:List aR):Prop where
 nodup:σ.Nodup
 len:pH.length=σ.length
 box:∀ (i:Nat) (b:aR),pH[i]? =some b->b.own=true/\∃ j:Nat,σ[i]? =some j/\bx[j]? =some (b.cD σ bx.length)
theorem frame {args args':List SV} {bx pH:List aR} {E:Mem} {K K':KT} {σ:List Nat} (hp:Part σ bx pH)
  (hargs:args=SV.dL σ bx.length args') (h:aj P f args' pH E K')
  (hK:∀ s jD E',K' s jD E'->K (s.cD σ bx.length) (merge σ bx jD) E'):aj P f args bx E K:=by
 subst hargs;intro w0 mu ρ w vs hR hd;have hn:=hR.len
 -- what the callee is handed
 have U5:∀ (i j:Nat),σ[i]? =some j->∃ b,pH[i]? =some b/\b.own=true/\bx[j]? =some (b.cD σ bx.length):=by
  intro i j hj;have hi:i<pH.length:=by rw [hp.len];exact eC hj
  obtain ⟨h1,j',h2,h3⟩:=hp.box i _ (List.getElem?_eq_getElem hi);rw [hj] at h2;cases h2;exact ⟨_,List.getElem?_eq_getElem hi,h1,h3⟩
 let FC:Env:=σ.map λj=>(ρ[j]?).getD none;have D7:∀ (i j:Nat),σ[i]? =some j->FC[i]? =ρ[j]?:=by
  intro i j hj;obtain ⟨b,_,_,hb⟩:=U5 i j hj;have PY:j<ρ.length:=by rw [hn];exact eC hb
  simp only [FC,List.getElem?_map,hj,Option.map_some,List.getElem?_eq_getElem PY,Option.getD_some]
 have Ax:FC.length=σ.length:=by simp [FC]
 have JI:∀ i,ρ[dW σ bx.length i]? =FC[i]?:=by
  intro i;unfold dW
  cases hi:σ[i]? with
  | some j=>exact (D7 i j hi).symm
  | none=>
   have h1:σ.length<=i:=by
    rcases Nat.lt_or_ge i σ.length with q|q
    ·rw [List.getElem?_eq_getElem q] at hi;cases hi
    ·exact q
   simp only;rw [List.getElem?_eq_none (by omega),List.getElem?_eq_none (by omega)]
 rw [lQ JI] at hd
 let Ji:List Nat:=FC.filterMap λo=>o.map Addr.block;have Qw:∀ (i:Nat) a,FC[i]? =some (some a)->a.block∈Ji:=by intro i a ha;refine List.mem_filterMap.2 ⟨some a,List.mem_of_getElem? ha,rfl⟩
 have LM:∀ g,g∈Ji->∃ (i j:Nat) (a:Addr) (b:aR),σ[i]? =some j/\FC[i]? =some (some a)/\ρ[j]? =some (some a)/\a.block=g/\pH[i]? =some b/\b.own=true/\bx[j]? =some (b.cD σ bx.length):=by
  intro g hg;obtain ⟨o,ho,e⟩:=List.mem_filterMap.1 hg
  cases o with
  | none=>cases e
  | some a=>
   simp only [Option.map_some,Option.some.injEq] at e;obtain ⟨i,hi,hio⟩:=List.getElem_of_mem ho;have Qx:FC[i]? =some (some a):=by rw [List.getElem?_eq_getElem hi,hio]
   have hi':i<σ.length:=by rw [← Ax];exact hi
   obtain ⟨b,h1,h2,h3⟩:=U5 i _ (List.getElem?_eq_getElem hi');exact ⟨i,_,a,b,List.getElem?_eq_getElem hi',Qx,by rw [← D7 i _ (List.getElem?_eq_getElem hi')];exact Qx,e,h1,h2,h3⟩
 -- of a box's own: whatever the whole says
 have BJ:∀ (i j:Nat) (a:Addr) (b:aR),σ[i]? =some j->ρ[j]? =some (some a)->b.own=true->bx[j]? =some (b.cD σ bx.length)->
   (w0.heap.size<=a.block\/a.block∈mu.mu)/\(∀ (k:Nat) b' a',k≠j->bx[k]? =some b'->b'.live=true->ρ[k]? =some (some a')->a'.block≠a.block)/\(∀ v cs,E v cs->cs≠[]->pP v≠some a.block):=
  λi j a b _ ha ho hb=>hR.sep j _ a hb (by simpa [aR.cD] using ho) ha
 have hRs:Rel w ⟨Ji,E,none,[]⟩ pH E FC w:=by
  refine ⟨lA.refl _ _,by rw [Ax,hp.len],?_,?_,hR.hold,?_,λv cs g hne=>.inr ⟨v,cs,g,hne,rfl⟩⟩
  ·intro i b oa h1 h2;obtain ⟨ho,j,hj,hb⟩:=hp.box i b h1;rw [D7 i j hj] at h2;exact (iA.cD JI).1 (hR.box j _ oa hb h2)
  ·intro i b a h1 ho h2;obtain ⟨_,j,hj,hb⟩:=hp.box i b h1;have h2':=h2;rw [D7 i j hj] at h2;obtain ⟨t1,t2,t3⟩:=BJ i j a b hj h2 ho hb;refine ⟨.inr (Qw i a h2'),?_,t3⟩;intro k b' a' Qy vE hl CO;obtain ⟨_,j',hj',hb'⟩:=hp.box k b' vE;rw [D7 k j' hj'] at CO;refine t2 j' _ a' ?_ hb' (by rw [aR.sA];exact hl) CO;rintro rfl;exact Qy ((List.getElem?_inj (eC hj) hp.nodup).1 (by rw [hj,hj'])).symm
  ·intro i b a h1 hl h2;exact .inr (Qw i a h2)
 refine (h w ⟨Ji,E,none,[]⟩ FC w vs hRs hd).mono λe w' he=>?_;obtain ⟨v,s,jD,E',F1,rfl,hpre,wg,iT,hK'⟩:=he;have hl':=iT.len;have hle:σ.length<=F1.length:=by rw [← Ax];exact hpre.length_le
 have hpg:∀ (i:Nat) o,FC[i]? =some o->F1[i]? =some o:=λi o ho=>gv hpre ho
 let ρ':Env:=ρ++F1.drop σ.length;have Nk:ρ<+:ρ':=List.prefix_append _ _;have CW:∀ i,ρ'[dW σ bx.length i]? =F1[i]?:=by
  intro i;unfold dW
  cases hi:σ[i]? with
  | some j=>
   simp only;obtain ⟨b,_,_,hb⟩:=U5 i j hi;have PY:j<ρ.length:=by rw [hn];exact eC hb
   have h1:=D7 i j hi;rw [List.getElem?_append_left PY];have h2:ρ[j]? =some ρ[j]:=List.getElem?_eq_getElem PY;rw [h2] at h1 ⊢;exact (hpg i _ h1).symm
  | none=>
   have h1:σ.length<=i:=by
    rcases Nat.lt_or_ge i σ.length with q|q
    ·rw [List.getElem?_eq_getElem q] at hi;cases hi
    ·exact q
   simp only;rw [List.getElem?_append_right (by omega),List.getElem?_drop,hn];congr 1;omega
 -- where a box of the whole comes from
 have Qz:(merge σ bx jD).length=bx.length+(jD.length-σ.length):=by simp only [merge,List.length_append,iM,List.length_map,List.length_drop]
 have qY:∀ (k:Nat) y,(merge σ bx jD)[k]? =some y->
   (k<bx.length/\k ∉ σ/\bx[k]? =some y/\ρ'[k]? =ρ[k]?)\/∃ i b,k=dW σ bx.length i/\jD[i]? =some b/\y=b.cD σ bx.length/\ρ'[k]? =F1[i]?:=by
  intro k y hy;by_cases hk:k<bx.length
  ·have vE:(merge σ bx jD)[k]? =(fj bx σ ((jD.take σ.length).map (aR.cD σ bx.length)))[k]?:=List.getElem?_append_left (by rw [iM];exact hk);rw [vE] at hy;by_cases hm:k∈σ
   ·obtain ⟨i,hi,D8⟩:=List.getElem_of_mem hm;have QA:σ[i]? =some k:=by rw [List.getElem?_eq_getElem hi,D8]
    have LN:i<jD.length:=by rw [← hl'];omega
    have hb:((jD.take σ.length).map (aR.cD σ bx.length))[i]? =some (jD[i].cD σ bx.length):=by rw [List.getElem?_map,List.getElem?_take_of_lt hi,List.getElem?_eq_getElem LN];rfl
    rw [tM σ bx _ i k _ hp.nodup QA hk hb] at hy
    cases hy;have QB:k=dW σ bx.length i:=by simp [dW,QA]
    refine .inr ⟨i,_,QB,List.getElem?_eq_getElem LN,rfl,?_⟩;rw [QB];exact CW i
   ·rw [ot σ bx _ k hm] at hy;refine .inl ⟨hk,hm,hy,?_⟩;exact List.getElem?_append_left (by rw [hn];exact hk)
  ·have vE:(merge σ bx jD)[k]? =((jD.drop σ.length).map (aR.cD σ bx.length))[k-bx.length]?:=by
    have:=List.getElem?_append_right (l₁:=fj bx σ ((jD.take σ.length).map (aR.cD σ bx.length))) (l₂:=(jD.drop σ.length).map (aR.cD σ bx.length)) (i:=k) (by rw [iM];omega);rw [iM] at this;exact this
   rw [vE,List.getElem?_map,List.getElem?_drop] at hy
   cases hb:jD[σ.length+(k-bx.length)]? with
   | none=>rw [hb] at hy;cases hy
   | some b=>
    rw [hb] at hy;simp only [Option.map_some,Option.some.injEq] at hy;have QB:k=dW σ bx.length (σ.length+(k-bx.length)):=by unfold dW;rw [List.getElem?_eq_none (by omega)];simp only;omega
    refine .inr ⟨_,b,QB,hb,hy.symm,?_⟩;exact (congrArg (ρ'[·]?) QB).trans (CW _)
 -- blocks that the callee may have written
 have hold:∀ (k:Nat) y a,bx[k]? =some y->k ∉ σ->y.live=true->ρ[k]? =some (some a)->a.block<w.heap.size/\a.block ∉ Ji:=by intro k y a hk hm hl ha;refine ⟨(hR.box k y _ hk ha).lt hl,λhg=>?_⟩;obtain ⟨i,j,a2,b,h1,h2,h3,h4,h5,h6,h7⟩:=LM _ hg;refine (BJ i j a2 b h1 h3 h6 h7).2.1 k y a ?_ hk hl ha h4.symm;rintro rfl;exact hm (List.mem_of_getElem? h1)
 have F2:∀ g,g∈Ji->w0.heap.size<=g\/g∈mu.mu:=by intro g hg;obtain ⟨i,j,a2,b,h1,h2,h3,h4,h5,h6,h7⟩:=LM _ hg;rw [← h4];exact (BJ i j a2 b h1 h3 h6 h7).1
 have wi:∀ g,(w.heap.size<=g\/g∈Ji)->w0.heap.size<=g\/g∈mu.mu:=by
  rintro g (hg|hg)
  ·exact .inl (Nat.le_trans hR.keep.size hg)
  ·exact F2 g hg
 refine ⟨v,s.cD σ bx.length,merge σ bx jD,E',ρ',rfl,Nk,by rw [vF CW];exact wg,?_,hK s jD E' hK'⟩;refine ⟨?_,?_,?_,?_,iT.hold,?_,?_⟩
 ·have hk:=iT.keep;refine ⟨hk.os.trans hR.keep.os,hk.tape.trans hR.keep.tape,hk.output.trans hR.keep.output,Nat.le_trans hR.keep.size hk.size,λk h1 h2=>?_⟩;rw [hk.block k (Nat.lt_of_lt_of_le h1 hR.keep.size) (λhg=>by
   rcases F2 k hg with q|q
   ·omega
   ·exact h2 q)]
  exact hR.keep.block k h1 h2
 ·rw [Qz];simp only [ρ',List.length_append,List.length_drop,hn,hl']
 ·intro k y oa h1 h2;rcases qY k y h1 with ⟨hk,hm,hy,wm⟩|⟨i,b,rfl,hb,rfl,wm⟩
  ·rw [wm] at h2;refine ((hR.box k y oa hy h2).mono Nk).js λa ha mQ=>?_;subst ha;obtain ⟨q1,q2⟩:=hold k y a hy hm mQ h2;exact iT.keep.block _ q1 q2
  ·rw [wm] at h2;exact (iA.cD CW).2 (iT.box i b oa hb h2)
 ·intro k y a h1 ho h2;rcases qY k y h1 with ⟨hk,hm,hy,wm⟩|⟨i,b,rfl,hb,rfl,wm⟩
  ·rw [wm] at h2;obtain ⟨t1,t2,t3⟩:=hR.sep k y a hy ho h2;obtain ⟨q1,q2⟩:=hold k y a hy hm (by simp [aR.live,ho]) h2;refine ⟨t1,?_,?_⟩
   ·intro j b' a' U6 pG hl nJ;rcases qY j b' pG with ⟨_,hm',hy',BK⟩|⟨i',c,rfl,hc,rfl,BK⟩
    ·rw [BK] at nJ;exact t2 j b' a' U6 hy' hl nJ
    ·rw [BK] at nJ;rw [aR.sA] at hl;rcases iT.jM i' c a' hc hl nJ with q|q
     ·omega
     ·rintro e;rw [e] at q;exact q2 q
   ·intro v cs hE hne hb;rcases iT.src v cs hE hne with ⟨g,e1,e2⟩|⟨v0,jQ,e1,e2,e3⟩
    ·rw [hb] at e1;cases e1;rcases e2 with q|q
     ·omega
     ·exact q2 q
    ·rw [hb] at e3;exact t3 v0 jQ e1 e2 e3.symm
  ·rw [wm] at h2;have FV:b.own=true:=by simpa [aR.cD] using ho
   obtain ⟨t1,t2,t3⟩:=iT.sep i b a hb FV h2;refine ⟨wi _ t1,?_,t3⟩;intro j b' a' U6 pG hl nJ;rcases qY j b' pG with ⟨_,hm',hy',BK⟩|⟨i',c,rfl,hc,rfl,BK⟩
   ·rw [BK] at nJ;obtain ⟨q1,q2⟩:=hold j b' a' hy' hm' hl nJ;rcases t1 with q|q
    ·omega
    ·rintro e;rw [e] at q2;exact q2 q
   ·rw [BK] at nJ;rw [aR.sA] at hl;exact t2 i' c a' (λe=>U6 (by rw [e])) hc hl nJ
 ·intro k y a h1 hl h2;rcases qY k y h1 with ⟨hk,hm,hy,wm⟩|⟨i,b,rfl,hb,rfl,wm⟩
  ·rw [wm] at h2;exact hR.jM k y a hy hl h2
  ·rw [wm] at h2;rw [aR.sA] at hl;exact wi _ (iT.jM i b a hb hl h2)
 ·intro v cs hE hne;rcases iT.src v cs hE hne with ⟨g,e1,e2⟩|⟨v0,jQ,e1,e2,e3⟩
  ·exact .inl ⟨g,e1,wi g e2⟩
  ·rw [e3];exact hR.src v0 jQ e1 e2
theorem BL {args:List SV} {bx:List aR} {E:Mem} {K K':KT} (hv:SV.fY args=some vs) (h:aj P f args [] E K')
  (hK:∀ s jD E',K' s jD E'->K (s.cD [] bx.length) (bx++jD.map (aR.cD [] bx.length)) E'):aj P f args bx E K:=
 frame (σ:=[]) ⟨List.nodup_nil,rfl,λi b h=>by simp at h⟩ (fZ [] _ args hv).symm h (λs jD E' h=>by simpa [merge,fj] using hK s jD E' h)
end Go.Sx
