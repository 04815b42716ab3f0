/- The symbolic evaluator: a part of it; generic over programs. Conditions: none. -/
import Derived.Test.YtlpcifknlncljaaDoorSyA
import Derived.Laws.CopyRow
import Derived.Laws.CopyOwn
import Derived.Laws.Tables
import Derived.Maps.AppendAt
import Derived.Laws.MakeOwn
import Derived.Laws.StructEq
import Derived.Lib.AppendZerosOnto
import Derived.Maps.RangeRun
namespace Go.Sx
open Go.RowKit (Below)
mutual
def SV.val:SV->Option Value
 | .raw v=>some v
 | .agg l=>(SV.valL l).map fun vs=>.agg vs.toArray
 | .tup l=>(SV.valL l).map fun vs=>.tuple vs.toArray
 | .ifc t v=>(SV.val v).map fun x=>.iface t x
 | _=>none
def SV.valL:List SV->Option (List Value)
 | []=>some []
 | x::l=>match SV.val x,SV.valL l with
  | some v,some vs=>some (v::vs)
  | _,_=>none
end
mutual
theorem SV.den_of_val (ρ:Env):∀ (s:SV) {v:Value},s.val=some v->s.den ρ=some v
 | .raw v,_,e=>by simpa [SV.den,SV.val] using e
 | .loc b off,_,e=>by simp [SV.val] at e
 | .slc b off len cap,_,e=>by simp [SV.val] at e
 | .rp v off,_,e=>by simp [SV.val] at e
 | .agg l,_,e=>by
  simp only [SV.den,SV.val,Option.map_eq_some_iff] at *
  obtain ⟨vs,h1,h2⟩:=e;exact ⟨vs,SV.denL_of_val ρ l h1,h2⟩
 | .tup l,_,e=>by
  simp only [SV.den,SV.val,Option.map_eq_some_iff] at *
  obtain ⟨vs,h1,h2⟩:=e;exact ⟨vs,SV.denL_of_val ρ l h1,h2⟩
 | .clo f m l,_,e=>by simp [SV.val] at e
 | .mth n x,_,e=>by simp [SV.val] at e
 | .mp it b,_,e=>by simp [SV.val] at e
 | .ifc t x,_,e=>by
  simp only [SV.den,SV.val,Option.map_eq_some_iff] at *
  obtain ⟨vs,h1,h2⟩:=e;exact ⟨vs,SV.den_of_val ρ x h1,h2⟩
theorem SV.denL_of_val (ρ:Env):∀ (l:List SV) {vs:List Value},SV.valL l=some vs->SV.denL ρ l=some vs
 | [],_,e=>by simpa [SV.denL,SV.valL] using e
 | x::l,vs,e=>by
  simp only [SV.valL] at e
  split at e
  ·rename_i v ws h1 h2
   simp only [SV.denL,SV.den_of_val ρ x h1,SV.denL_of_val ρ l h2];exact e
  ·cases e
end
def pureVal (P:Program):Sem Value->Option Value
 | .pure v=>some v
 | .program k=>pureVal P (k P)
 | _=>none
theorem pureVal_run {P:Program}:∀ (s:Sem Value) {v:Value},pureVal P s=some v->∀ w,s.run P w= .ok v w
 | .pure x,v,h,w=>by simp only [pureVal,Option.some.injEq] at h;subst h;rfl
 | .program k,v,h,w=>by simp only [pureVal] at h;simp only [Sem.run];exact pureVal_run (k P) h w
 | .load ..,_,h,_=>by simp [pureVal] at h
 | .store ..,_,h,_=>by simp [pureVal] at h
 | .new ..,_,h,_=>by simp [pureVal] at h
 | .shape ..,_,h,_=>by simp [pureVal] at h
 | .freeze ..,_,h,_=>by simp [pureVal] at h
 | .frozen ..,_,h,_=>by simp [pureVal] at h
 | .getObj ..,_,h,_=>by simp [pureVal] at h
 | .setObj ..,_,h,_=>by simp [pureVal] at h
 | .choose ..,_,h,_=>by simp [pureVal] at h
 | .sys ..,_,h,_=>by simp [pureVal] at h
 | .mark ..,_,h,_=>by simp [pureVal] at h
 | .halt ..,_,h,_=>by simp [pureVal] at h
def asCells:SV->Option (List SV)
 | .agg l=>some l
 | .raw (.agg cs)=>some (cs.toList.map .raw)
 | _=>none
def svCells (s:SV):List SV:=match asCells s with |some l=>l|none=>[s]
def SV.one:SV->Bool
 | .raw (.agg _)| .raw (.tuple _)| .agg _| .tup _=>false
 | _=>true
theorem asCells_den {ρ:Env} {s:SV} {l:List SV} {v:Value} (h:asCells s=some l) (hv:s.den ρ=some v):∃ vs:List Value,v= .agg vs.toArray/\SV.denL ρ l=some vs:=by
 unfold asCells at h
 split at h
 ·rename_i l'
  simp only [Option.some.injEq] at h;subst h
  simp only [SV.den,Option.map_eq_some_iff] at hv
  obtain ⟨vs,h1,h2⟩:=hv
  exact ⟨vs,h2.symm,h1⟩
 ·rename_i cs
  simp only [Option.some.injEq] at h;subst h
  simp only [SV.den,Option.some.injEq] at hv;subst hv
  exact ⟨cs.toList,by simp,denL_raw _⟩
 ·cases h
theorem locDen_spot {ρ:Env} {b off:Nat} {v:Value} {c:Addr} (h:locDen ρ b off=some v) (hc:ρ[b]? =some (some c)):c.spot=none:=by
 unfold locDen at h
 rw [hc] at h
 simp only at h
 split at h
 ·assumption
 ·cases h
theorem slcDen_spot {ρ:Env} {b off len cap:Nat} {v:Value} {c:Addr} (h:slcDen ρ b off len cap=some v) (hc:ρ[b]? =some (some c)):c.spot=none:=by
 unfold slcDen at h
 rw [hc] at h
 simp only at h
 split at h
 ·assumption
 ·cases h
theorem one_den {ρ:Env} {s:SV} {v:Value} (h:s.one=true) (hv:s.den ρ=some v):v.oneCell'=true:=by
 cases s with
 | raw x=>simp only [SV.den,Option.some.injEq] at hv;subst hv;cases x<;>simp_all [SV.one,Value.oneCell']
 | loc b off=>simp only [SV.den,locDen] at hv;split at hv<;>simp_all;obtain ⟨_,rfl⟩:=hv;rfl
 | slc b off len cap=>
  simp only [SV.den,slcDen] at hv
  split at hv
  ·simp at hv;obtain ⟨_,rfl⟩:=hv;rfl
  ·split at hv
   ·simp at hv;subst hv;rfl
   ·cases hv
  ·cases hv
 | rp x off=>
  simp only [SV.den,rpDen] at hv
  split at hv
  ·split at hv
   ·simp only [Option.some.injEq] at hv;subst hv;rfl
   ·cases hv
  ·cases hv
 | agg l=>simp [SV.one] at h
 | tup l=>simp [SV.one] at h
 | clo f m l=>
  simp only [SV.den] at hv
  split at hv
  ·simp only [Option.some.injEq] at hv;subst hv;rfl
  ·cases hv
 | ifc t x=>simp only [SV.den,Option.map_eq_some_iff] at hv;obtain ⟨_,_,rfl⟩:=hv;rfl
 | mth t x=>simp only [SV.den,Option.map_eq_some_iff] at hv;obtain ⟨_,_,rfl⟩:=hv;rfl
 | mp it b=>
  simp only [SV.den,mpDen] at hv
  split at hv
  ·split at hv
   ·simp only [Option.some.injEq] at hv;subst hv;cases it<;>rfl
   ·cases hv
  ·cases hv
def oneOrAgg (s:SV):Bool:=(asCells s).isSome||s.one
theorem svCells_den {ρ:Env} {s:SV} {v:Value} (h1:oneOrAgg s=true) (hv:s.den ρ=some v):SV.denL ρ (svCells s)=some v.cells.toList:=by
 unfold svCells
 cases h:asCells s with
 | some l=>
  obtain ⟨vs,rfl,h2⟩:=asCells_den h hv
  simpa [Value.cells] using h2
 | none=>
  simp only [oneOrAgg,h,Option.isSome_none,Bool.false_or] at h1
  have:=one_den h1 hv
  have hc:v.cells= #[v]:=by cases v<;>simp_all [Value.oneCell',Value.cells]
  simp [SV.denL,hv,hc]
def loadW (P:Program) (T:TypeId) (cells:List SV) (off:Nat):Option SV:=
 match P.underlying T with
 | some (.struct _)|some (.array ..)=>
  match P.info? T with
  | some i=>if ((cells.drop off).take i.size).length=i.size then some (.agg ((cells.drop off).take i.size)) else none
  | none=>none
 | some _=>cells[off]?
 | none=>none
def isAggD:TypeDesc->Bool
 | .struct _| .array .. =>true
 | _=>false
theorem run_isAgg' {P:Program} {T:TypeId} {d:TypeDesc} (h:P.underlying T=some d) (w:World):(isAgg T).run P w= .ok (isAggD d) w:=by
 unfold isAgg
 simp only [Sem.run_bind,run_underlying h,Result.andThen_ok]
 cases d<;>rfl
theorem loadW_agg {P:Program} {T:TypeId} {cells:List SV} {off:Nat} {s:SV} {d:TypeDesc} (hu:P.underlying T=some d) (hd:isAggD d=true) (h:loadW P T cells off=some s):
  ∃ i,P.info? T=some i/\((cells.drop off).take i.size).length=i.size/\s= .agg ((cells.drop off).take i.size):=by
 unfold loadW at h
 rw [hu] at h
 cases d<;>simp only [isAggD,Bool.false_eq_true] at hd<;>
 ·simp only at h
  split at h
  ·rename_i i hi
   split at h
   ·rename_i hl
    simp only [Option.some.injEq] at h
    exact ⟨i,hi,hl,h.symm⟩
   ·cases h
  ·cases h
theorem loadW_single {P:Program} {T:TypeId} {cells:List SV} {off:Nat} {s:SV} {d:TypeDesc} (hu:P.underlying T=some d) (hd:isAggD d=false) (h:loadW P T cells off=some s):
  cells[off]? =some s:=by
 unfold loadW at h
 rw [hu] at h
 cases d<;>simp_all [isAggD]
theorem loadW_type {P:Program} {T:TypeId} {cells:List SV} {off:Nat} {s:SV} (h:loadW P T cells off=some s):∃ d,P.underlying T=some d:=by
 unfold loadW at h
 cases hu:P.underlying T with
 | none=>rw [hu] at h;cases h
 | some d=>exact ⟨d,rfl⟩
theorem run_typeInfo' {P:Program} {T:TypeId} {i:TypeInfo} (h:P.info? T=some i) (w:World):(typeInfo T).run P w= .ok i w:=by
 simp [typeInfo,h]
theorem run_sizeOf' {P:Program} {T:TypeId} {i:TypeInfo} (h:P.info? T=some i) (w:World):(sizeOf T).run P w= .ok i.size w:=by
 simp [sizeOf,run_typeInfo' h]
theorem run_loadVar {P:Program} {T:TypeId} {cells:List SV} {off:Nat} {s:SV} {ρ:Env} {vs:List Value} {w:World} {a:Addr} (ha:a.spot=none)
  (h:loadW P T cells off=some s) (hv:SV.denL ρ cells=some vs) (hc:∀ k x,vs[k]? =some x->w.cell? (a.add k)=some x):
  ∃ v,s.den ρ=some v/\(loadVar T (a.add off)).run P w= .ok v w:=by
 obtain ⟨d,hu⟩:=loadW_type h
 by_cases hd:isAggD d=true
 ·obtain ⟨i,hi,hl,rfl⟩:=loadW_agg hu hd h
  have hden:=denL_take (denL_drop hv off) i.size
  have hl2:=denL_length hden
  rw [hl] at hl2
  refine ⟨.agg ((vs.drop off).take i.size).toArray,by simp only [SV.den,hden,Option.map_some],?_⟩
  have hr:=run_loadCells_list (P:=P) w (a.add off) ((vs.drop off).take i.size) (fun j x hx=>by
   rw [add_eq (by rw [add_eq ha]) j,add_eq ha]
   have hj:j<i.size:=by
    rcases Nat.lt_or_ge j ((vs.drop off).take i.size).length with h'|h'
    ·omega
    ·rw [List.getElem?_eq_none h'] at hx;cases hx
   rw [List.getElem?_take_of_lt hj,List.getElem?_drop] at hx
   have:=hc _ _ hx
   rwa [add_eq ha,← Nat.add_assoc] at this)
  rw [hl2] at hr
  unfold loadVar
  simp only [Sem.run_bind,run_isAgg' hu,hd,Result.andThen_ok,Sem.run_ite,if_true,run_sizeOf' hi,hr,Sem.run_pure]
 ·have hd':isAggD d=false:=by simpa using hd
  have hs:=loadW_single hu hd' h
  obtain ⟨v,h1,h2⟩:=denL_get hv hs
  refine ⟨v,h2,?_⟩
  unfold loadVar
  simp only [Sem.run_bind,run_isAgg' hu,hd',Result.andThen_ok,Sem.run_ite,run_load,hc _ _ h1]
  rfl
theorem run_part {P:Program} {T:TypeId} {cells:List SV} {off:Nat} {s:SV} {ρ:Env} {vs:List Value} {w:World}
  (h:loadW P T cells off=some s) (hv:SV.denL ρ cells=some vs):
  ∃ v,s.den ρ=some v/\(part T vs.toArray off).run P w= .ok v w:=by
 obtain ⟨d,hu⟩:=loadW_type h
 by_cases hd:isAggD d=true
 ·obtain ⟨i,hi,hl,rfl⟩:=loadW_agg hu hd h
  have hden:=denL_take (denL_drop hv off) i.size
  refine ⟨.agg ((vs.drop off).take i.size).toArray,by simp only [SV.den,hden,Option.map_some],?_⟩
  unfold part
  simp only [Sem.run_bind,run_isAgg' hu,hd,Result.andThen_ok,Sem.run_ite,if_true,run_sizeOf' hi,Sem.run_pure]
  congr 2
  simp [List.extract_toArray,List.extract_eq_take_drop]
 ·have hd':isAggD d=false:=by simpa using hd
  have hs:=loadW_single hu hd' h
  obtain ⟨v,h1,h2⟩:=denL_get hv hs
  refine ⟨v,h2,?_⟩
  unfold part
  have :vs.toArray[off]? =some v:=by simpa using h1
  simp only [Sem.run_bind,run_isAgg' hu,hd',Result.andThen_ok,Sem.run_ite,this]
  rfl
def lay (cells:List SV) (off:Nat) (pc:List SV):List SV:=cells.take off++pc++cells.drop (off+pc.length)
theorem Rel.own {w0:World} {mu:Fm} {bx:List Box} {E:Mem} {ρ:Env} {w:World} (h:Rel w0 mu bx E ρ w) {i:Nat} {b:Box} (hb:bx[i]? =some b) (ho:b.own=true) (hc:b.cells≠[]) (hsp:∀ a,ρ[i]? =some (some a)->a.spot=none):
  ∃ g vs junk,ρ[i]? =some (some ⟨g,0,none⟩)/\SV.denL ρ b.cells=some vs/\w.heap[g]? =some (.cells (vs++junk).toArray b.elem (0,0))/\(vs++junk).length=b.total:=by
 have hi:i<ρ.length:=by
  rw [h.len]
  rcases Nat.lt_or_ge i bx.length with h'|h'
  ·exact h'
  ·simp [List.getElem?_eq_none h'] at hb
 have hbox:=h.box i b _ hb (List.getElem?_eq_getElem hi)
 cases hρ:ρ[i] with
 | none=>rw [hρ] at hbox;exact absurd hbox.1 hc
 | some a=>
  rw [hρ] at hbox
  obtain ⟨h1,vs,h2,h3⟩:=hbox.isRow (hsp a (by rw [List.getElem?_eq_getElem hi,hρ]))
  rw [if_pos ho] at h3
  obtain ⟨h4,junk,hj,hk⟩:=h3
  refine ⟨a.block,vs,junk,?_,h2,hj,hk⟩
  rw [List.getElem?_eq_getElem hi,hρ]
  cases a;simp at h1 h4;subst h1;subst h4;rfl
theorem Keep.setRow {mu:List Nat} {w0 w:World} (h:Keep mu w0 w) {g:Nat} (hg:w0.heap.size<=g\/g∈mu) (cs:Array Value):Keep mu w0 (w.setRow g cs):=
 ⟨h.os,h.tape,h.output,by simpa using h.size,fun k hk hm=>by
  rw [setRow_other w g k cs (by rintro rfl;rcases hg with hg|hg;omega;exact hm hg)]
  exact h.block k hk hm⟩
theorem Rel.setRow {w0:World} {mu:Fm} {bx:List Box} {E:Mem} {ρ:Env} {w:World} (h:Rel w0 mu bx E ρ w) {i:Nat} {b:Box} (hb:bx[i]? =some b) (ho:b.own=true) {g:Nat}
  (hρ:ρ[i]? =some (some ⟨g,0,none⟩)) {r:Row} {vs junk:List Value} (hv:SV.denL ρ r.cells=some vs) (hl:(vs++junk).length=b.total):
  Rel w0 mu (bx.set i { b with row:=r }) E ρ (w.setRow g (vs++junk).toArray):=by
 obtain ⟨s1,s2,s3⟩:=h.sep i b _ hb ho hρ
 have hi:i<bx.length:=by
  rcases Nat.lt_or_ge i bx.length with h'|h'
  ·exact h'
  ·simp [List.getElem?_eq_none h'] at hb
 refine ⟨h.keep.setRow s1 _,by simpa using h.len,?_,?_,?_,?_,h.src⟩
 ·intro j b' oa h1 h2
  by_cases hj:i=j
  ·subst hj
   rw [List.getElem?_set_self hi] at h1
   simp only [Option.some.injEq] at h1;subst h1
   rw [hρ] at h2;simp only [Option.some.injEq] at h2;subst h2
   refine .inl ⟨rfl,vs,hv,?_⟩
   simp only [ho,if_true]
   have hbox:=h.box i b _ hb hρ
   obtain ⟨_,vs0,_,h3⟩:=hbox.isRow rfl
   rw [if_pos ho] at h3
   obtain ⟨_,junk0,hj0,_⟩:=h3
   exact ⟨trivial,junk,setRow_heap w g _ _ b.elem (0,0) hj0,hl⟩
  ·rw [List.getElem?_set_ne hj] at h1
   refine (h.box j b' oa h1 h2).of_block fun a ha hlive=>?_
   subst ha
   exact setRow_other w g _ _ (s2 j b' a (Ne.symm hj) h1 hlive h2)
 ·intro j b' a h1 ho' h2
  have key:∃ b2,bx[j]? =some b2/\b2.own=true:=by
   by_cases hj:i=j
   ·subst hj;exact ⟨b,hb,ho⟩
   ·rw [List.getElem?_set_ne hj] at h1;exact ⟨b',h1,ho'⟩
  obtain ⟨b2,hb2,ho2⟩:=key
  obtain ⟨t1,t2,t3⟩:=h.sep j b2 a hb2 ho2 h2
  refine ⟨t1,?_,t3⟩
  intro k b3 a3 hkj hk1 hl3 hk2
  by_cases hk:i=k
  ·subst hk
   exact t2 i b _ hkj hb (by simp [Box.live,ho]) hk2
  ·rw [List.getElem?_set_ne hk] at hk1
   exact t2 k b3 a3 hkj hk1 hl3 hk2
 ·intro v cs hE
  exact (h.hold v cs hE).of_block fun bb hne hbb=>setRow_other w g bb _ (by
   rintro rfl
   exact s3 v cs hE hne hbb)
 ·intro j b' a h1 hl h2
  by_cases hj:i=j
  ·subst hj;exact h.bsrc i b a hb (by simp [Box.live,ho]) h2
  ·rw [List.getElem?_set_ne hj] at h1
   exact h.bsrc j b' a h1 hl h2
theorem run_storeVar {P:Program} {T:TypeId} {i:TypeInfo} (hi:P.info? T=some i) {g off:Nat} {t:TypeId} {cur:Array Value} {w:World} {v:Value}
  (hg:w.heap[g]? =some (.cells cur t (0,0))) (hs:v.cells.size=i.size) (hb:off+v.cells.toList.length<=cur.size) (h1:∀ x∈v.cells.toList,x.oneCell'=true):
  (storeVar T ⟨g,off,none⟩ v).run P w= .ok () (w.setRow g (cur.toList.take off++v.cells.toList++cur.toList.drop (off+v.cells.toList.length)).toArray):=by
 unfold storeVar
 have:=run_storeCells_at (P:=P) g off t v.cells.toList 0 cur w hg (by simpa using hb) h1
 simp only [Nat.add_zero] at this
 simp only [Sem.run_bind,run_sizeOf' hi,Result.andThen_ok,hs,ne_eq,not_true_eq_false,if_false,this]
def layV (vs:List Value) (off:Nat) (ws:List Value):List Value:=vs.take off++ws++vs.drop (off+ws.length)
def storeW (P:Program) (T:TypeId) (bx:List Box) (b off:Nat) (s:SV) (K:List Box->Prop):Prop:=
 match bx[b]?,P.info? T with
 | some ⟨e,.lst cells,tot,true⟩,some i=>
  if oneOrAgg s&&(svCells s).all SV.one&&(svCells s).length==i.size&&decide (off+(svCells s).length<=cells.length)&&decide (0<(svCells s).length)
  then K (bx.set b ⟨e,.lst (lay cells off (svCells s)),tot,true⟩) else False
 | some ⟨e,.vals vs,tot,true⟩,some i=>
  if oneOrAgg s&&(svCells s).all SV.one&&(svCells s).length==i.size&&decide (0<(svCells s).length)
  then match SV.valL (svCells s) with
   | some ws=>off+i.size<=vs.length/\K (bx.set b ⟨e,.vals (layV vs off ws),tot,true⟩)
   | none=>False
  else False
 | _,_=>False
theorem all_one_den {ρ:Env}:∀ {l:List SV} {vs:List Value},l.all SV.one=true->SV.denL ρ l=some vs->∀ x∈vs,x.oneCell'=true:=by
 intro l vs h hv x hx
 obtain ⟨k,hk,rfl⟩:=List.getElem_of_mem hx
 obtain ⟨s,hs,hd⟩:=denL_get' hv (List.getElem?_eq_getElem hk)
 have:=List.mem_of_getElem? hs
 exact one_den (List.all_eq_true.1 h s this) hd
theorem store_own {P:Program} {T:TypeId} {i:TypeInfo} {w0:World} {mu:Fm} {bx:List Box} {E:Mem} {ρ:Env} {w:World} (h:Rel w0 mu bx E ρ w) {b off:Nat} {x:Box} {s:SV} {v av:Value} {r:Row}
  (hi:P.info? T=some i) (hx:bx[b]? =some x) (ho:x.own=true) (hoa:oneOrAgg s=true) (hall:(svCells s).all SV.one=true) (hlen:(svCells s).length=i.size) (hle:off+(svCells s).length<=x.cells.length) (hpos:0<(svCells s).length)
  (hr:∀ vs,SV.denL ρ x.cells=some vs->SV.denL ρ r.cells=some (vs.take off++v.cells.toList++vs.drop (off+v.cells.toList.length))) (hv:s.den ρ=some v) (ha:locDen ρ b off=some av):
  ∃ w',(Instr.storeAt T av v).run P w= .ok () w'/\Rel w0 mu (bx.set b { x with row:=r }) E ρ w':=by
 have hne:x.cells≠[]:=fun e=>by
  have h0:x.cells.length=0:=by rw [e];rfl
  omega
 obtain ⟨g,vs,junk,hρ,hden,hg,htot⟩:=h.own hx ho hne fun c hc=>locDen_spot ha hc
 have hvc:=svCells_den hoa hv
 have hvl:=denL_length hvc
 have hdl:=denL_length hden
 unfold locDen at ha
 rw [hρ] at ha
 simp only [if_true,Option.some.injEq] at ha
 subst ha
 have hadd:(⟨g,0,none⟩:Addr).add off=⟨g,off,none⟩:=by rw [add_eq rfl];simp
 have hrun:=run_storeVar (P:=P) hi (g:=g) (off:=off) (v:=v) hg (by rw [← Array.length_toList,hvl,hlen]) (by rw [hvl,List.size_toArray,List.length_append,hdl];omega) (all_one_den hall hvc)
 refine ⟨w.setRow g ((vs.take off++v.cells.toList++vs.drop (off+v.cells.toList.length))++junk).toArray,?_,?_⟩
 ·unfold Instr.storeAt
  simp only [Instr.sureAddr,Sem.run_bind,Sem.run_pure,Result.andThen_ok,hadd,hrun]
  congr 2
  simp only [List.take_append_of_le_length (show off<=vs.length by omega),List.append_assoc]
  rw [List.drop_append_of_le_length (by omega)]
 ·refine h.setRow hx ho hρ ?_ ?_
  ·exact hr _ hden
  ·simp only [List.length_append,List.length_take,List.length_drop] at htot ⊢
   omega
theorem valL_length:∀ {l:List SV} {vs:List Value},SV.valL l=some vs->vs.length=l.length
 | [],_,h=>by simp only [SV.valL,Option.some.injEq] at h;subst h;rfl
 | x::l,_,h=>by
  simp only [SV.valL] at h
  split at h
  ·rename_i v ws h1 h2
   simp only [Option.some.injEq] at h;subst h
   simp [valL_length h2]
  ·cases h
theorem store_sound {P:Program} {T:TypeId} {w0:World} {mu:Fm} {bx:List Box} {K:List Box->Prop} {E:Mem} {ρ:Env} {w:World} (h:Rel w0 mu bx E ρ w) {b off:Nat} {s:SV} {v av:Value}
  (hs:storeW P T bx b off s K) (hv:s.den ρ=some v) (ha:locDen ρ b off=some av):
  ∃ w' bx',(Instr.storeAt T av v).run P w= .ok () w'/\Rel w0 mu bx' E ρ w'/\K bx':=by
 unfold storeW at hs
 split at hs
 ·rename_i e cells tot i hx hi
  split at hs
  case isFalse=>exact hs.elim
  rename_i hcond
  simp only [Bool.and_eq_true,beq_iff_eq,decide_eq_true_eq] at hcond
  obtain ⟨⟨⟨⟨hoa,hall⟩,hlen⟩,hle⟩,hpos⟩:=hcond
  have hvc:=svCells_den hoa hv
  have hvl:=denL_length hvc
  obtain ⟨w',h1,h2⟩:=store_own (r:=.lst (lay cells off (svCells s))) h hi hx rfl hoa hall hlen hle hpos (fun vs hden=>by
   have:=denL_append (denL_append (denL_take hden off) hvc) (denL_drop hden (off+(svCells s).length))
   rw [hvl];exact this) hv ha
  exact ⟨w',_,h1,h2,hs⟩
 ·rename_i e vs tot i hx hi
  split at hs
  case isFalse=>exact hs.elim
  rename_i hcond
  simp only [Bool.and_eq_true,beq_iff_eq,decide_eq_true_eq] at hcond
  obtain ⟨⟨⟨hoa,hall⟩,hlen⟩,hpos⟩:=hcond
  split at hs
  case h_2=>exact hs.elim
  rename_i ws hws
  obtain ⟨hle,hs⟩:=hs
  have hwl:=valL_length hws
  have hvc:=svCells_den hoa hv
  rw [SV.denL_of_val ρ _ hws] at hvc
  simp only [Option.some.injEq] at hvc
  obtain ⟨w',h1,h2⟩:=store_own (r:=.vals (layV vs off ws)) h hi hx rfl hoa hall hlen (by simp only [Box.cells,Row.cells,List.length_map];omega) hpos (fun us hden=>by
   have :us=vs:=by
    have:=denL_raw (ρ:=ρ) vs
    simp only [Box.cells,Row.cells] at hden
    rw [this] at hden;cases hden;rfl
   subst this
   rw [← hvc]
   exact denL_raw _) hv ha
  exact ⟨w',_,h1,h2,hs⟩
 ·exact hs.elim
end Go.Sx
namespace Go.Sx
open Go.RowKit (Below)
def renF (σ:List Nat) (n:Nat) (i:Nat):Nat:=
 match σ[i]? with
 | some j=>j
 | none=>n+(i-σ.length)
mutual
def SV.ren (σ:List Nat) (n:Nat):SV->SV
 | .raw v=>.raw v
 | .loc b off=>.loc (renF σ n b) off
 | .slc b off len cap=>.slc (renF σ n b) off len cap
 | .rp v off=>.rp v off
 | .agg l=>.agg (SV.renL σ n l)
 | .tup l=>.tup (SV.renL σ n l)
 | .clo f m l=>.clo f (SV.renL σ n m) (SV.renL σ n l)
 | .ifc t v=>.ifc t (SV.ren σ n v)
 | .mth t v=>.mth t (SV.ren σ n v)
 | .mp it b=>.mp it (renF σ n b)
def SV.renL (σ:List Nat) (n:Nat):List SV->List SV
 | []=>[]
 | x::l=>SV.ren σ n x::SV.renL σ n l
end
def Row.ren (σ:List Nat) (n:Nat):Row->Row
 | .lst l=>.lst (SV.renL σ n l)
 | .vals l=>.vals l
def Box.ren (σ:List Nat) (n:Nat) (b:Box):Box:={ b with row:=b.row.ren σ n }
mutual
theorem ren_den {ρ ρ':Env} {σ:List Nat} {n:Nat} (h:∀ i,ρ[renF σ n i]? =ρ'[i]?):∀ (s:SV),(s.ren σ n).den ρ=s.den ρ'
 | .raw v=>by simp only [SV.ren,SV.den]
 | .loc b off=>by simp only [SV.ren,SV.den,locDen,h]
 | .slc b off len cap=>by simp only [SV.ren,SV.den,slcDen,h]
 | .rp v off=>by simp only [SV.ren,SV.den]
 | .agg l=>by simp only [SV.ren,SV.den,renL_den h l]
 | .tup l=>by simp only [SV.ren,SV.den,renL_den h l]
 | .clo f m l=>by simp only [SV.ren,SV.den,renL_den h m,renL_den h l]
 | .ifc t x=>by simp only [SV.ren,SV.den,ren_den h x]
 | .mth t x=>by simp only [SV.ren,SV.den,ren_den h x]
 | .mp it b=>by simp only [SV.ren,SV.den,mpDen,h]
theorem renL_den {ρ ρ':Env} {σ:List Nat} {n:Nat} (h:∀ i,ρ[renF σ n i]? =ρ'[i]?):∀ (l:List SV),SV.denL ρ (SV.renL σ n l)=SV.denL ρ' l
 | []=>by simp only [SV.renL,SV.denL]
 | x::l=>by simp only [SV.renL,SV.denL,ren_den h x,renL_den h l]
end
theorem renL_raw (σ:List Nat) (n:Nat):∀ (l:List Value),SV.renL σ n (l.map .raw)=l.map .raw
 | []=>rfl
 | x::l=>by simp only [List.map_cons,SV.renL,SV.ren,renL_raw σ n l]
theorem Row.ren_cells (σ:List Nat) (n:Nat) (r:Row):(r.ren σ n).cells=SV.renL σ n r.cells:=by
 cases r with
 | lst l=>rfl
 | vals l=>exact (renL_raw σ n l).symm
theorem renL_length (σ:List Nat) (n:Nat):∀ (l:List SV),(SV.renL σ n l).length=l.length
 | []=>rfl
 | x::l=>by simp only [SV.renL,List.length_cons,renL_length σ n l]
theorem renL_isEmpty (σ:List Nat) (n:Nat) (l:List SV):(SV.renL σ n l).isEmpty=l.isEmpty:=by cases l<;>rfl
theorem Box.ren_live (σ:List Nat) (n:Nat) (b:Box):(b.ren σ n).live=b.live:=by
 unfold Box.live Box.ren Box.cells
 simp only [Row.ren_cells,renL_isEmpty]
theorem BoxAt.ren {w:World} {ρ ρ':Env} {σ:List Nat} {n:Nat} (h:∀ i,ρ[renF σ n i]? =ρ'[i]?) {oa:Option Addr} {b:Box}:BoxAt w ρ oa (b.ren σ n)↔BoxAt w ρ' oa b:=by
 cases oa with
 | none=>
  simp only [BoxAt,Box.cells,Box.ren,Row.ren_cells]
  constructor
  ·rintro ⟨h1,h2⟩;exact ⟨List.eq_nil_of_length_eq_zero (by rw [← renL_length σ n,h1];rfl),h2⟩
  ·rintro ⟨h1,h2⟩;exact ⟨by rw [h1];rfl,h2⟩
 | some a=>
  simp only [BoxAt,RowAtB,MapAtB,Box.live,Box.cells,Box.ren,Row.ren_cells,renL_den h,renL_isEmpty]
  have hnil:(SV.renL σ n b.row.cells=[])↔(b.row.cells=[]):=by
   rw [← List.isEmpty_iff,← List.isEmpty_iff,renL_isEmpty]
  rw [hnil]
  exact Iff.rfl
mutual
def SV.firstSlc:SV->Option Nat
 | .slc b _ _ _=>some b
 | .agg l| .tup l=>SV.firstSlcL l
 | .clo _ m l=>match SV.firstSlcL m with
  | some b=>some b
  | none=>SV.firstSlcL l
 | .ifc _ v=>SV.firstSlc v
 | .mth _ v=>SV.firstSlc v
 | _=>none
def SV.firstSlcL:List SV->Option Nat
 | []=>none
 | x::l=>match SV.firstSlc x with
  | some b=>some b
  | none=>SV.firstSlcL l
end
def slcAs (base:Option Addr) (off len cap:Nat):Value:=.slice (base.map (·.add off)) len cap
mutual
def SV.subst (b:Nat) (base:Option Addr):SV->SV
 | .slc b' off len cap=>if b'=b then .raw (slcAs base off len cap) else .slc b' off len cap
 | .agg l=>.agg (SV.substL b base l)
 | .tup l=>.tup (SV.substL b base l)
 | .clo f m l=>.clo f (SV.substL b base m) (SV.substL b base l)
 | .ifc t v=>.ifc t (SV.subst b base v)
 | .mth t v=>.mth t (SV.subst b base v)
 | s=>s
def SV.substL (b:Nat) (base:Option Addr):List SV->List SV
 | []=>[]
 | x::l=>SV.subst b base x::SV.substL b base l
end
def Row.val:Row->Option (List Value)
 | .lst l=>SV.valL l
 | .vals l=>some l
def Row.firstSlc:Row->Option Nat
 | .lst l=>SV.firstSlcL l
 | .vals _=>none
def Box.subst (b:Nat) (base:Option Addr) (y:Box):Box:=
 match y with
 | ⟨e,.lst l,t,o⟩=>⟨e,.lst (SV.substL b base l),t,o⟩
 | ⟨e,.vals l,t,o⟩=>⟨e,.vals l,t,o⟩
def WinE (E':Mem) (base:Option Addr) (cs:List Value):Prop:=(base=none->cs=[])/\∀ off m len cap,off+m<=cs.length->E' (slcAs base off len cap) ((cs.drop off).take m)
def deep (bx:List Box):Nat->Nat->Nat
 | 0,b=>b
 | n+1,b=>match bx[b]? with
  | some y=>match y.row.firstSlc with
   | some b'=>deep bx n b'
   | none=>b
  | none=>b
def pubW:Nat->List SV->List Box->Mem->(List SV->List Box->Mem->Prop)->Prop
 | 0,_,_,_,_=>False
 | n+1,ss,bx,E,K=>
  match SV.firstSlcL ss with
  | none=>K ss bx E
  | some b0=>match deep bx 4 b0 with
   | b=>match bx[b]? with
    | some y=>match y.row.val with
     | some cs=>∀ (base:Option Addr) (E':Mem),Mem.le E E'->WinE E' base cs->pubW n (SV.substL b base ss) ((bx.set b { y with own:=false }).map (Box.subst b base)) E' K
     | none=>False
    | none=>False
def pubK (E:Mem) (K:SV->Mem->Prop):SV->List Box->Mem->Prop:=fun s bx E'=>pubW 16 [s] bx E' fun ss _ E''=>Mem.le E E''/\match ss with
 | [r]=>match r.val with
  | some _=>K r E''
  | none=>False
 | _=>False
end Go.Sx
namespace Go.Sx
open Go.RowKit (Below)
abbrev KT:=SV->List Box->Mem->Prop
abbrev CallT:=FuncId->List SV->List Box->Mem->KT->Prop
def YID:FuncId:=4294967296
def req (c:Prop) [Decidable c] (k:Prop):Prop:=if c then k else False
theorem req_intro {c:Prop} [Decidable c] {k:Prop} (h:c) (hk:k):req c k:=by unfold req;rw [if_pos h];exact hk
theorem req_elim {c:Prop} [Decidable c] {k:Prop} (h:req c k):c/\k:=by
 unfold req at h;split at h
 ·exact ⟨‹_›,h⟩
 ·exact h.elim
def opd (S:St):Operand->Option SV
 | .tmp t=>match S.fr[t]? with |some o=>o|none=>none
 | .const v=>some (.raw v)
 | .global g=>some (.rp (.slice (some ⟨g,0,none⟩) 0 0) 0)
 | .func f=>some (.clo f [] [])
def opds (S:St):List Operand->Option (List SV)
 | []=>some []
 | x::l=>match opd S x,opds S l with
  | some s,some ss=>some (s::ss)
  | _,_=>none
inductive Lf where
 | int (k:IntKind)|bool|slice|str|other
def leaf:TypeDesc->Lf
 | .int k=>.int k
 | .bool=>.bool
 | .slice _=>.slice
 | .string=>.str
 | _=>.other
def exLeaf (l:Lf) (f:SV->Prop):Prop:=
 match l with
 | .int k=>∃ n:Int,f (.raw (.int k n))
 | .bool=>∃ b:Bool,f (.raw (.bool b))
 | .slice=>∃ (base:Option Addr) (len cap:Nat),f (.raw (.slice base len cap))
 | .str=>∃ s:ByteArray,f (.raw (.string s))
 | .other=>∃ v:Value,f (.raw v)
theorem exLeaf_elim {l:Lf} {f:SV->Prop} (h:exLeaf l f):∃ s,f s:=by
 cases l<;>simp only [exLeaf] at h
 ·obtain ⟨n,h⟩:=h;exact ⟨_,h⟩
 ·obtain ⟨n,h⟩:=h;exact ⟨_,h⟩
 ·obtain ⟨a,b,c,h⟩:=h;exact ⟨_,h⟩
 ·obtain ⟨n,h⟩:=h;exact ⟨_,h⟩
 ·obtain ⟨n,h⟩:=h;exact ⟨_,h⟩
def exLeaves:List Lf->(List SV->Prop)->Prop
 | [],f=>f []
 | l::ls,f=>exLeaf l fun s=>exLeaves ls fun ss=>f (s::ss)
theorem exLeaves_elim:∀ {ls:List Lf} {f:List SV->Prop},exLeaves ls f->∃ ss,f ss
 | [],_,h=>⟨_,h⟩
 | _::_,_,h=>let ⟨_,h1⟩:=exLeaf_elim h;let ⟨_,h2⟩:=exLeaves_elim h1;⟨_,h2⟩
def leaves (P:Program):Nat->TypeId->List Lf
 | 0,_=>[]
 | n+1,T=>match P.underlying T with
  | some (.struct fs)=>fs.toList.flatMap fun f=>leaves P n f.type
  | some (.array k e)=>(List.replicate k (leaves P n e)).flatten
  | some d=>[leaf d]
  | none=>[]
def LoadE (P:Program) (E:Mem) (T:TypeId) (v:Value) (off:Nat) (s:SV):Prop:=∃ cs,E v cs/\loadW P T (cs.map .raw) off=some s
def loadRel (P:Program) (T:TypeId) (R:SV->Prop) (K:SV->Prop):Prop:=
 match P.underlying T with
 | some (.struct _)|some (.array ..)=>exLeaves (leaves P 12 T) fun cs=>R (.agg cs)/\K (.agg cs)
 | some d=>exLeaf (leaf d) fun s=>R s/\K s
 | none=>False
theorem loadRel_elim {P:Program} {T:TypeId} {R:SV->Prop} {K:SV->Prop} (h:loadRel P T R K):∃ s,R s/\K s:=by
 unfold loadRel at h
 split at h
 ·obtain ⟨ss,h1,h2⟩:=exLeaves_elim h;exact ⟨_,h1,h2⟩
 ·obtain ⟨ss,h1,h2⟩:=exLeaves_elim h;exact ⟨_,h1,h2⟩
 ·exact exLeaf_elim h
 ·exact h.elim
def LoadV (P:Program) (T:TypeId) (vs:List Value) (off:Nat) (s:SV):Prop:=loadW P T (vs.map .raw) off=some s
def sizeW (P:Program) (T:TypeId):Option Nat:=(P.info? T).map (·.size)
def fillW (place:Nat->Option (Nat×Nat)) (cells:List SV):List (Nat×SV)->Option (List SV)
 | []=>some cells
 | (i,s)::rest=>
  match place i with
  | none=>none
  | some (off,size)=>
   if oneOrAgg s=true/\(svCells s).length=size/\off+(svCells s).length<=cells.length then fillW place (lay cells off (svCells s)) rest else none
def parts (S:St):List (Nat×Operand)->Option (List (Nat×SV))
 | []=>some []
 | (i,x)::l=>match opd S x,parts S l with
  | some s,some ss=>some ((i,s)::ss)
  | _,_=>none
def zerosW (P:Program) (e:TypeId) (n:Nat):Option (List SV):=
 match P.info? e with
 | some i=>match i.zero with
  | some z=>if oneOrAgg (.raw z)=true/\(svCells (.raw z)).length=i.size then some (List.replicate n (svCells (.raw z))).flatten else none
  | none=>none
 | none=>none
def natOf (s:Option SV):Option Int:=
 match s with
 | some (.raw (.int _ n))=>some n
 | _=>none
def reqO (o:Option Int) (top:Nat) (k:Prop):Prop:=
 match o with
 | none=>k
 | some i=>req (0<=i/\i<=(top:Int)) k
def toN (o:Option Int) (d:Nat):Nat:=match o with |none=>d|some i=>i.toNat
def sliceNums (lo hi mx:Option Int) (len cap:Nat) (K:Nat->Nat->Nat->Prop):Prop:=
 match hi,mx with
 | none,some _=>False
 | _,_=>reqO mx cap<|reqO hi (toN mx cap)<|reqO lo (toN hi len)<|K (toN lo 0) (toN hi len) (toN mx cap)
def numO (S:St):Option Operand->Option (Option Int)
 | none=>some none
 | some x=>match opd S x with
  | some (.raw (.int _ n))=>some (some n)
  | _=>none
def raws (l:List SV):Option (List Value):=SV.valL l
def pureW (P:Program) (s:Sem Value) (K:SV->Prop):Prop:=
 match pureVal P s with
 | some v=>K (.raw v)
 | none=>False
def binW (P:Program) (op:BinOp) (T:TypeId) (x y:Operand) (v u:Value) (K:SV->Prop):Prop:=
 match op,v,u with
 | .rem,.int k a,.int k' b=>if k=k' then b≠0/\K (.raw (.int k (a.tmod b))) else False
 | .quo,.int k a,.int k' b=>if k=k' then b≠0/\K (.raw (.int k (k.wrap (a.tdiv b)))) else False
 | .shl,.int k a,.int _ b=>req (0<=b) (K (.raw (.int k (k.wrap (a*2 ^ min b.toNat k.bits)))))
 | .shr,.int k a,.int _ b=>req (0<=b) (K (.raw (.int k (a.fdiv (2 ^ min b.toNat k.bits)))))
 | _,_,_=>pureW P (do eqGuard op T x y v u;binOp op T v u) K
theorem binW_pure {P:Program} {op:BinOp} {T:TypeId} {x y:Operand} {v u:Value} {K:SV->Prop} (h:binW P op T x y v u K):
  ∃ s:Sem Value,(do eqGuard op T x y v u;binOp op T v u)=s/\pureW P s K:=by
 unfold binW at h
 split at h
 ·rename_i k a k' b
  split at h
  case isFalse=>exact h.elim
  rename_i hk;subst hk
  refine ⟨pure (.int k (a.tmod b)),?_,h.2⟩
  show binOp .rem T (.int k a) (.int k b)=_
  simp [binOp,Op.intDiv,h.1]
 ·rename_i k a k' b
  split at h
  case isFalse=>exact h.elim
  rename_i hk;subst hk
  refine ⟨pure (.int k (k.wrap (a.tdiv b))),?_,h.2⟩
  show binOp .quo T (.int k a) (.int k b)=_
  simp [binOp,Op.intDiv,h.1]
 ·rename_i k a k' b
  obtain ⟨hb,h⟩:=req_elim h
  refine ⟨pure (.int k (k.wrap (a*2 ^ min b.toNat k.bits))),?_,h⟩
  show binOp .shl T (.int k a) (.int k' b)=_
  simp [binOp,Op.shift,show ¬ b<0 by omega]
 ·rename_i k a k' b
  obtain ⟨hb,h⟩:=req_elim h
  refine ⟨pure (.int k (a.fdiv (2 ^ min b.toNat k.bits))),?_,h⟩
  show binOp .shr T (.int k a) (.int k' b)=_
  simp [binOp,Op.shift,show ¬ b<0 by omega]
 ·exact ⟨_,rfl,h⟩
def isNilCmp:SV->SV->Option Bool
 | .loc ..,.raw (.pointer none)| .rp ..,.raw (.pointer none)| .raw (.pointer none),.loc .. | .raw (.pointer none),.rp .. =>some false
 | _,_=>none
def isPtrD:TypeDesc->Bool
 | .pointer _=>true
 | _=>false
def methodW (P:Program) (T:TypeId) (name:String):Option FuncId:=
 match P.info? T with
 | some i=>match i.methods.find? (·.name==name) with
  | some m=>match m.path.toList,m.func,P.underlying T with
   | [],some (f,true),some (.pointer _)=>some f
   | [],some (_,false),some (.pointer _)=>none
   | [],some (f,false),some _=>some f
   | _,_,_=>none
  | none=>none
 | none=>none
def callG (callW:CallT) (f:FuncId) (args:List SV) (bx:List Box) (E:Mem) (K:KT):Prop:=
 if f=YID then False else
 match SV.valL args with
 | some _=>callW f args [] E fun s bx' E'=>Mem.le E E'/\K (s.ren [] bx.length) (bx++bx'.map (Box.ren [] bx.length)) E'
 | none=>callW f args bx E K
def srcW (z:Nat) (s:SV) (bx:List Box) (E:Mem) (K:Nat->Row->Prop):Prop:=
 match s with
 | .raw (.slice base m cap)=>∃ cs,(cs=[]\/E (.slice base m cap) cs)/\m*z<=cs.length/\(∀ x∈cs,x.oneCell'=true)/\K m (.vals (cs.take (m*z)))
 | .slc b off m _=>match bx[b]? with
  | some y=>match y.row with
   | .lst cells=>if off+m*z<=cells.length/\cells.all SV.one=true then K m (.lst ((cells.drop off).take (m*z))) else False
   | .vals vs=>off+m*z<=vs.length/\(∀ x∈vs,x.oneCell'=true)/\K m (.vals ((vs.drop off).take (m*z)))
  | none=>False
 | _=>False
def rowApp (a b:Row) (K:Row->Prop):Prop:=
 match a,b with
 | .lst a,.lst b=>K (.lst (a++b))
 | .vals a,.vals b=>K (.vals (a++b))
 | .lst a,.vals b=>match SV.valL a with
  | some a=>K (.vals (a++b))
  | none=>False
 | .vals a,.lst b=>match SV.valL b with
  | some b=>K (.vals (a++b))
  | none=>False
def rowTake (n:Nat):Row->Row
 | .lst l=>.lst (l.take n)
 | .vals l=>.vals (l.take n)
def dead (y:Box):Box:=⟨y.elem,.lst [],0,false⟩
def moreW (b:Bool) (p q:Prop):Prop:=match b with
 | true=>p->q
 | false=>q
theorem moreW_elim {b:Bool} {p q:Prop} (h:moreW b p q) (hp:p):q:=by
 cases b
 ·exact h
 ·exact h hp
def sameRow (s x:SV):Bool:=match s,x with
 | .slc b _ _ _,.slc b' _ _ _=>b==b'
 | _,_=>false
def appendC (sm:Bool) (e:TypeId) (i:TypeInfo) (s:SV) (m:Nat) (new:Row) (bx:List Box) (E:Mem) (K:KT):Prop:=
 match s with
 | .raw (.slice base n cap)=>cond base.isNone
   (if n=0/\cap=0 then req (m*max i.bytes 1<=140737488355328) (∀ cap' tot':Nat,m<=cap'->cap'*i.size<=tot'->K (.slc bx.length 0 m cap') (bx++[⟨e,new,tot',true⟩]) E) else False)
   (srcW i.size s bx E fun _ old=>req (cap<n+m) (req ((n+m)*max i.bytes 1<=140737488355328) (rowApp old new fun row=>
    ∀ cap' tot':Nat,n+m<=cap'->cap'*i.size<=tot'->K (.slc bx.length 0 (n+m) cap') (bx++[⟨e,row,tot',true⟩]) E)))
 | .slc b off n cap=>if off=0 then match bx[b]? with
  | some ⟨e',r,tot,true⟩=>if e'=e then
    n*i.size<=r.cells.length/\cap*i.size<=tot/\n<=cap/\req ((n+m)*max i.bytes 1<=140737488355328) (rowApp (rowTake (n*i.size) r) new fun row=>
     ∀ cap' tot':Nat,n+m<=cap'->cap'*i.size<=tot'->moreW sm (cap<=cap') (K (.slc bx.length 0 (n+m) cap') (bx.set b (dead ⟨e',r,tot,true⟩)++[⟨e',row,tot',true⟩]) E)) else False
  | _=>False else False
 | _=>False
def rawRow (s:SV) (bx:List Box):Bool:=
 match s with
 | .slc b _ _ _=>match bx[b]? with
  | some ⟨_,.vals _,_,_⟩=>true
  | _=>false
 | _=>false
def appendW (P:Program) (e:TypeId) (s x:SV) (bx:List Box) (E:Mem) (K:KT):Prop:=
 match P.info? e with
 | some i=>match i.zero with
  | some zv=>if zv.cells.size=i.size/\0<i.size then srcW i.size x bx E fun m new=>
    cond (rawRow s bx) (match new with
     | .lst l=>match SV.valL l with
      | some _=>appendC (sameRow s x) e i s m (.lst l) bx E K
      | none=>pubW 8 l bx E fun l' bx' E'=>appendC (sameRow s x) e i s m (.lst l') bx' E' K
     | .vals l=>appendC (sameRow s x) e i s m (.vals l) bx E K) (appendC (sameRow s x) e i s m new bx E K) else False
  | none=>False
 | none=>False
def asVals (r src:Row):Row:=match r,src with
 | .vals _,.lst l=>(match SV.valL l with |some vs=>.vals vs|none=>.lst l)
 | _,s=>s
def rowV (s:SV) (bx:List Box):Option (Nat×Nat×Nat×TypeId×List Value×Nat×Bool):=
 match s with
 | .slc b off n _=>match bx[b]? with
  | some ⟨e,.vals vs,tot,o⟩=>some (b,off,n,e,vs,tot,o)
  | _=>none
 | _=>none
def copyV (z:Nat) (d x:Nat×Nat×Nat×TypeId×List Value×Nat×Bool) (bx:List Box) (E:Mem) (K:KT):Prop:=
 match d,x with
 | (b,off,n,e',vs,tot,_),(_,off',m,_,us,_,_)=>
  off'+min m n*z<=us.length/\off<=vs.length/\(off+min m n*z<=vs.length\/off+min m n*z<=tot)/\(∀ x∈us,x.oneCell'=true)/\
   K (.raw (.int .i64 (min m n:Nat))) (bx.set b ⟨e',.vals (layV vs off ((us.drop off').take (min m n*z))),tot,true⟩) E
def copyW (P:Program) (e:TypeId) (d x:SV) (bx:List Box) (E:Mem) (K:KT):Prop:=
 match P.info? e with
 | some i=>match rowV d bx,rowV x bx with
  | some (b,off,n,e',vs,tot,true),some y=>copyV i.size (b,off,n,e',vs,tot,true) y bx E K
  | _,_=>srcW i.size x bx E fun m src=>
   match d with
   | .slc b off n _=>match bx[b]? with
    | some ⟨e',r,tot,true⟩=>match r,rowTake (min m n*i.size) (asVals r src) with
     | .lst cells,.lst new=>if off+n*i.size<=cells.length then K (.raw (.int .i64 (min m n:Nat))) (bx.set b ⟨e',.lst (lay cells off new),tot,true⟩) E else False
     | .vals vs,.vals new=>off+n*i.size<=vs.length/\K (.raw (.int .i64 (min m n:Nat))) (bx.set b ⟨e',.vals (layV vs off new),tot,true⟩) E
     | .lst cells,.vals new=>match SV.valL cells with
      | some vs=>off+n*i.size<=vs.length/\K (.raw (.int .i64 (min m n:Nat))) (bx.set b ⟨e',.vals (layV vs off new),tot,true⟩) E
      | none=>False
     | .vals vs,.lst new=>match SV.valL new with
      | some new=>off+n*i.size<=vs.length/\K (.raw (.int .i64 (min m n:Nat))) (bx.set b ⟨e',.vals (layV vs off new),tot,true⟩) E
      | none=>False
    | _=>False
   | _=>False
 | none=>False
def zerosV (z:List Value) (n:Nat):List Value:=(List.replicate n z).flatten
def makeW (P:Program) (e:TypeId) (l c:Int) (bx:List Box) (E:Mem) (K:KT):Prop:=
 match P.info? e with
 | some i=>match i.zero with
  | some zv=>if zv.cells.size=i.size/\zv.cells.toList.all Value.oneCell'=true then
    req (0<=l/\l<=c)<|req (c*(max i.bytes 1:Nat)<=140737488355328)<|K (.slc bx.length 0 l.toNat c.toNat) (bx++[⟨e,.vals (zerosV zv.cells.toList c.toNat),c.toNat*i.size,true⟩]) E else False
  | none=>False
 | none=>False
def clearW (P:Program) (e:TypeId) (d:SV) (bx:List Box) (E:Mem) (K:KT):Prop:=
 match P.info? e with
 | some i=>match i.zero with
  | some zv=>if zv.cells.size=i.size/\zv.cells.toList.all Value.oneCell'=true then
    match d with
    | .slc b off n _=>match bx[b]? with
     | some ⟨e',.vals vs,tot,true⟩=>off<=vs.length/\off+n*i.size<=tot/\K (.tup []) (bx.set b ⟨e',.vals (layV vs off (zerosV zv.cells.toList n)),tot,true⟩) E
     | _=>False
    | _=>False
   else False
  | none=>False
 | none=>False
def appendZ (P:Program) (e:TypeId) (s x:SV) (bx:List Box) (E:Mem) (K:KT):Prop:=
 match P.info? e with
 | some i=>match x with
  | .raw (.int _ k)=>match i.zero with
   | some zv=>if zv.cells.size=i.size/\0<i.size then
     match s with
     | .slc b off n cap=>if off=0 then match bx[b]? with
      | some ⟨_,.vals vs,_,true⟩=>n*i.size<=vs.length/\req (0<k) (req ((cap:Int)<n+k) (req ((n+k)*(max i.bytes 1:Nat)<=140737488355328)
        (∀ cap' tot':Nat,n+k.toNat<=cap'->cap'*i.size<=tot'->K (.slc bx.length 0 (n+k.toNat) cap') (bx++[⟨e,.vals (vs.take (n*i.size)++zerosV zv.cells.toList k.toNat),tot',true⟩]) E)))
      | _=>False else False
     | _=>False else False
   | none=>False
  | _=>False
 | none=>False
def eqFs (P:Program) (r:TypeId->SV->SV->Option Bool) (cs ds:List SV):List Field->Option Bool
 | []=>some true
 | f :: fs => if f.name ≠ "_" then
   match loadW P f.type cs f.offset,loadW P f.type ds f.offset with
   | some x,some y=>match r f.type x y,eqFs P r cs ds fs with
    | some b,some c=>some (b&&c)
    | _,_=>none
   | _,_=>none
  else eqFs P r cs ds fs
def eqSV (P:Program):Nat->TypeId->SV->SV->Option Bool
 | 0,_,_,_=>none
 | n+1,T,s,t=>match P.underlying T with
  | some (.int _)=>match s,t with
   | .raw (.int k a),.raw (.int k' b)=>if k=k' then some (a==b) else none
   | _,_=>none
  | some .bool=>match s,t with
   | .raw (.bool a),.raw (.bool b)=>some (a==b)
   | _,_=>none
  | some (.struct fs)=>match asCells s,asCells t with
   | some cs,some ds=>if P.stoodInHeld T=false then eqFs P (eqSV P n) cs ds fs.toList else none
   | _,_=>none
  | _=>none
def cnvW (P:Program) (src dst:TypeId) (s:SV) (bx:List Box) (K:List Box->Prop):Prop:=match s with
 | .slc b _ _ _=>match bx[b]? with
  | some ⟨e,r,tot,true⟩=>match r.cells with
   | _::_=>if src=dst then match P.underlying src with
    | some (.slice e')=>match P.underlying e' with
     | some (.int .u8)=>K (bx.set b ⟨e,r,tot,false⟩)
     | _=>False
    | _=>False else False
   | []=>False
  | _=>False
 | _=>False
def nilSlcW (s t:SV) (K:Bool->Prop):Prop:=
 match t with
 | .raw (.slice none _ _)=>match s with
  | .slc _ _ len cap=>∀ r:Bool,(r=true->len=0/\cap=0)->K r
  | .raw (.slice base _ _)=>K base.isNone
  | _=>False
 | _=>False
def findK (k:IntKind) (n:Int):List SV->Nat->(Nat->SV->Prop)->Prop->Prop
 | [],_,_,N=>N
 | .raw (.int k' a)::v::l,i,F,N=>if k=k' then cond (n==a) (F i v) (findK k n l (i+1) F N) else False
 | _,_,_,_=>False
def mapB (P:Program) (T:TypeId) (s:SV) (bx:List Box):Option (Nat×TypeId×TypeId×List SV×Nat):=
 match s,P.underlying T with
 | .mp false b,some (.map key elem)=>match P.underlying key,bx[b]? with
  | some (.int _),some ⟨e,.lst cells,tot,true⟩=>some (b,elem,e,cells,tot)
  | _,_=>none
 | _,_=>none
def keyK:SV->Option (IntKind×Int)
 | .raw (.int k n)=>some (k,n)
 | _=>none
def lookupW (P:Program) (T:TypeId) (x ix:SV) (ok:Bool) (bx:List Box) (K:SV->Prop):Prop:=
 match mapB P T x bx,keyK ix with
 | some (_,elem,_,cells,_),some (k,n)=>match (P.info? elem).bind (·.zero) with
  | some z=>findK k n cells 0 (fun _ v=>K (cond ok (.tup [v,.raw (.bool true)]) v)) (K (cond ok (.tup [.raw z,.raw (.bool false)]) (.raw z)))
  | none=>False
 | _,_=>False
def updateW (P:Program) (T:TypeId) (m ix s:SV) (bx:List Box) (K:List Box->Prop):Prop:=
 match mapB P T m bx,keyK ix with
 | some (b,_,e,cells,tot),some (k,n)=>findK k n cells 0 (fun i _=>K (bx.set b ⟨e,.lst (cells.set (2*i+1) s),tot,true⟩))
   (K (bx.set b ⟨e,.lst (cells++[.raw (.int k n),s]),tot+2,true⟩))
 | _,_=>False
def seenO:List SV->Option (List Nat)
 | []=>some []
 | .raw (.int _ n)::l=>(seenO l).map (n.toNat::·)
 | _=>none
def allK (f:Nat->Prop):List Nat->Prop
 | []=>True
 | [i]=>f i
 | i::l=>f i/\allK f l
def rangeW (P:Program) (T:TypeId) (x:SV) (bx:List Box) (K:SV->List Box->Prop):Prop:=
 match x,P.underlying T with
 | .mp false b,some (.map ..)=>match bx[b]? with
  | some ⟨_,.lst cells,_,true⟩=>K (.mp true bx.length) (bx++[⟨MAPE,.lst [.mp false b,.raw (.int .i64 (cells.length / 2:Nat))],2,true⟩])
  | _=>False
 | _,_=>False
def iterB (s:SV) (bx:List Box):Option (Nat×Nat×List SV×List SV×List Nat×Nat):=
 match s with
 | .mp true j=>match bx[j]? with
  | some ⟨_,.lst (.mp false b::.raw (.int k n)::seen),tot,true⟩=>match bx[b]?,seenO seen with
   | some ⟨_,.lst cells,_,true⟩,some l=>if n.toNat=cells.length / 2/\cells.length % 2=0 then some (j,b,cells,.mp false b::.raw (.int k n)::seen,l,tot) else none
   | _,_=>none
  | _=>none
 | _=>none
def nextW (it:SV) (bx:List Box) (K:SV->List Box->Prop):Prop:=
 match iterB it bx with
 | some (j,_,cells,ic,l,tot)=>match (List.range (cells.length / 2)).filter (fun i=> !l.contains i) with
  | []=>K (.tup [.raw (.bool false)]) bx
  | r=>allK (fun i=>match cells[2*i]?,cells[2*i+1]? with
   | some k,some v=>K (.tup [.raw (.bool true),k,v]) (bx.set j ⟨MAPE,.lst (ic++[.raw (.int .i64 i)]),tot+1,true⟩)
   | _,_=>False) r
 | none=>False
def entryW (it:SV) (bx:List Box) (K:SV->Prop):Prop:=
 match iterB it bx with
 | some (_,_,cells,_,l,_)=>match l.getLast? with
  | some i=>match cells[2*i]?,cells[2*i+1]? with
   | some k,some v=>K (.tup [k,v])
   | _,_=>False
  | none=>False
 | none=>False
def makeMapW (P:Program) (T:TypeId) (r:Option (Option SV)) (bx:List Box) (K:SV->List Box->Prop):Prop:=
 match r,P.underlying T with
 | none,_|some (some (.raw (.int ..))),some (.map ..)=>K (.mp false bx.length) (bx++[⟨MAPE,.lst [],0,true⟩])
 | _,_=>False
def opW (P:Program) (callW:CallT) (op:Op) (S:St) (K:KT):Prop:=
 match op with
 | .move x| .assign x=>match opd S x with |some s=>K s S.bx S.E|none=>False
 | .pick c x y=>match opd S c,opd S x,opd S y with
  | some (.raw (.bool t)),some (.raw (.bool a)),some (.raw (.bool b))=>K (.raw (.bool (cond t a b))) S.bx S.E
  | some (.raw (.bool t)),some a,some b=>cond t (K a S.bx S.E) (K b S.bx S.E)
  | some (.raw (.bool true)),some a,none=>K a S.bx S.E
  | some (.raw (.bool false)),none,some b=>K b S.bx S.E
  | _,_,_=>False
 | .alloc T=>match P.info? T with
  | some i=>match i.zero with
   | some z=>if oneOrAgg (.raw z)=true then K (.loc S.bx.length 0) (S.bx++[⟨T,.lst (svCells (.raw z)),(svCells (.raw z)).length,true⟩]) S.E else False
   | none=>False
  | none=>False
 | .box T x=>match opd S x with
  | some s=>if oneOrAgg s=true then K (.loc S.bx.length 0) (S.bx++[⟨T,.lst (svCells s),(svCells s).length,true⟩]) S.E else False
  | none=>False
 | .build T ps=>match P.info? T,P.underlying T,parts S ps.toList with
  | some i,some (.struct fs),some ss=>match i.zero,fs.toList.mapM (fun f=>(P.info? f.type).map fun i=>(f.offset,i.size)) with
   | some z,some places=>match asCells (.raw z) with
    | some zs=>match fillW (places.toArray[·]?) zs ss with
     | some cs=>K (.agg cs) S.bx S.E
     | none=>False
    | none=>False
   | _,_=>False
  | some i,some (.array _ e),some ss=>match i.zero,P.info? e with
   | some z,some ie=>match asCells (.raw z) with
    | some zs=>match fillW (fun k=>some (k*ie.size,ie.size)) zs ss with
     | some cs=>K (.agg cs) S.bx S.E
     | none=>False
    | none=>False
   | _,_=>False
  | _,_,_=>False
 | .buildSlice T n ps=>match P.underlying T,parts S ps.toList with
  | some (.slice e),some ss=>match sizeW P e,zerosW P e n with
   | some m,some zs=>if n*m<=16777216 then
     match fillW (fun k=>some (k*m,m)) zs ss with
     | some cs=>K (.slc S.bx.length 0 n n) (S.bx++[⟨e,.lst cs,cs.length,true⟩]) S.E
     | none=>False else False
   | _,_=>False
  | _,_=>False
 | .load T x=>match opd S x with
  | some (.loc b off)=>match S.bx[b]? with
   | some y=>match y.row with
    | .lst cells=>match loadW P T cells off with
     | some r=>K r S.bx S.E
     | none=>False
    | .vals vs=>loadRel P T (LoadV P T vs off) fun s=>K s S.bx S.E
   | none=>False
  | some (.rp v off)=>loadRel P T (LoadE P S.E T v off) fun s=>K s S.bx S.E
  | _=>False
 | .store T x y=>match opd S x,opd S y with
  | some (.loc b off),some s=>storeW P T S.bx b off s fun bx=>K (.raw undef) bx S.E
  | _,_=>False
 | .nilCheck x=>match opd S x with
  | some (.loc b off)=>K (.loc b off) S.bx S.E
  | some (.rp v off)=>K (.rp v off) S.bx S.E
  | some (.clo f m l)=>K (.clo f m l) S.bx S.E
  | some (.ifc t v)=>K (.ifc t v) S.bx S.E
  | some (.mth n (.ifc T v))=>match methodW P T n,P.underlying T with
   | some _,some (.pointer _)=>K (.mth n (.ifc T v)) S.bx S.E
   | _,_=>False
  | _=>False
 | .binOp op T x y _=>match opd S x,opd S y with
  | some s,some t=>match op,isNilCmp s t,P.underlying T with
   | .eql,some r,some (.pointer _)=>K (.raw (.bool r)) S.bx S.E
   | .neq,some r,some (.pointer _)=>K (.raw (.bool !r)) S.bx S.E
   | .eql,none,some (.slice _)=>nilSlcW s t fun r=>K (.raw (.bool r)) S.bx S.E
   | .neq,none,some (.slice _)=>nilSlcW s t fun r=>K (.raw (.bool !r)) S.bx S.E
   | .eql,none,some (.struct _)=>if P.eqGuardType P.depth T=false then match eqSV P 12 T s t with
    | some r=>K (.raw (.bool r)) S.bx S.E
    | none=>False else False
   | .neq,none,some (.struct _)=>if P.eqGuardType P.depth T=false then match eqSV P 12 T s t with
    | some r=>K (.raw (.bool !r)) S.bx S.E
    | none=>False else False
   | _,_,_=>match s.val,t.val with
    | some v,some u=>binW P op T x y v u fun r=>K r S.bx S.E
    | _,_=>False
  | _,_=>False
 | .unOp op _ x=>match opd S x with
  | some (.raw v)=>pureW P (Op.unary op v) fun r=>K r S.bx S.E
  | _=>False
 | .convert src dst x=>match opd S x with
  | some s=>match s.val with
   | some v=>pureW P (convert src dst v) fun r=>K r S.bx S.E
   | none=>cnvW P src dst s S.bx fun bx=>K s bx S.E
  | none=>False
 | .makeInterface T x=>match opd S x,P.underlying T with
  | some _,some (.interface _)=>False
  | some s,some _=>K (.ifc T s) S.bx S.E
  | _,_=>False
 | .makeFunc (.func f) first caps=>match opds S first.toList,opds S caps.toList with
  | some m,some l=>K (.clo f m l) S.bx S.E
  | _,_=>False
 | .makeFunc (.method n) first caps=>match opds S first.toList,caps.toList with
  | some [.ifc T v],[]=>K (.mth n (.ifc T v)) S.bx S.E
  | _,_=>False
 | .makeSlice T l c=>match opd S l,opd S c,P.underlying T with
  | some (.raw (.int _ l)),some (.raw (.int _ c)),some (.slice e)=>makeW P e l c S.bx S.E K
  | _,_,_=>False
 | .slice T x lo hi mx=>match opd S x,numO S lo,numO S hi,numO S mx,P.underlying T with
  | some (.loc b off),some l,some h,some m,some (.array n e)=>match sizeW P e with
   | some z=>sliceNums l h m n n fun l h m=>K (.slc b (if m=l then off else off+l*z) (h-l) (m-l)) S.bx S.E
   | none=>False
  | some (.slc b off len cap),some l,some h,some m,some (.slice e)=>match sizeW P e with
   | some z=>sliceNums l h m len cap fun l h m=>K (.slc b (if m=l then off else off+l*z) (h-l) (m-l)) S.bx S.E
   | none=>False
  | some (.raw (.slice base len cap)),some l,some h,some m,some (.slice e)=>match sizeW P e with
   | some z=>req (len<=cap)<|sliceNums l h m len cap fun l h m=>∀ (base':Option Addr) (E':Mem),Mem.le S.E E'->
     (∀ cs,S.E (.slice base len cap) cs->E' (.slice base' (h-l) (m-l)) ((cs.drop (l*z)).take ((h-l)*z)))->base'.isNone=base.isNone->K (.raw (.slice base' (h-l) (m-l))) S.bx E'
   | none=>False
  | _,_,_,_,_=>False
 | .fieldAddr T x f=>match P.underlying T with
  | some (.struct fs)=>match fs[f]? with
   | some fld=>match sizeW P fld.type,opd S x with
    | some n,some (.loc b off)=>if n=0 then False else K (.loc b (off+fld.offset)) S.bx S.E
    | some n,some (.rp v off)=>if n=0 then False else K (.rp v (off+fld.offset)) S.bx S.E
    | _,_=>False
   | none=>False
  | _=>False
 | .field T x f=>match P.underlying T with
  | some (.struct fs)=>match fs[f]?,opd S x with
   | some fld,some s=>match asCells s with
    | some cs=>match loadW P fld.type cs fld.offset with
     | some r=>K r S.bx S.E
     | none=>False
    | none=>False
   | _,_=>False
  | _=>False
 | .indexAddr T x i=>match opd S x,opd S i,P.underlying T with
  | some (.loc b off),some (.raw (.int _ n)),some (.array len e)=>match sizeW P e with
   | some z=>req (0<=n/\n<(len:Int)) (K (.loc b (off+n.toNat*z)) S.bx S.E)
   | none=>False
  | some (.rp v off),some (.raw (.int _ n)),some (.array len e)=>match sizeW P e with
   | some z=>req (0<=n/\n<(len:Int)) (K (.rp v (off+n.toNat*z)) S.bx S.E)
   | none=>False
  | some (.slc b off len _),some (.raw (.int _ n)),some (.slice e)=>match sizeW P e with
   | some z=>req (0<=n/\n<(len:Int)) (K (.loc b (off+n.toNat*z)) S.bx S.E)
   | none=>False
  | some (.raw (.slice base len cap)),some (.raw (.int _ n)),some (.slice e)=>match sizeW P e with
   | some z=>req (0<=n/\n<(len:Int)) ((∃ cs,S.E (.slice base len cap) cs/\cs≠[])/\K (.rp (.slice base len cap) (n.toNat*z)) S.bx S.E)
   | none=>False
  | _,_,_=>False
 | .index T x i=>match opd S x,opd S i,P.underlying T with
  | some s,some (.raw (.int _ n)),some (.array len e)=>match asCells s,sizeW P e with
   | some cs,some z=>req (0<=n/\n<(len:Int)) (match loadW P e cs (n.toNat*z) with
    | some r=>K r S.bx S.E
    | none=>False)
   | _,_=>False
  | some (.raw v),some (.raw i),_=>pureW P (Instr.index T v i) fun r=>K r S.bx S.E
  | _,_,_=>False
 | .extract x i=>match opd S x with
  | some (.tup l)=>match l[i]? with |some s=>K s S.bx S.E|none=>False
  | some (.raw (.tuple vs))=>match vs.toList[i]? with |some v=>K (.raw v) S.bx S.E|none=>False
  | _=>False
 | .makeMap T r=>makeMapW P T (r.map (opd S)) S.bx fun s bx=>K s bx S.E
 | .lookup T x ix ok=>match opd S x,opd S ix with
  | some s,some t=>lookupW P T s t ok S.bx fun r=>K r S.bx S.E
  | _,_=>False
 | .mapUpdate T m ix x| .insert T m ix x=>match opd S m,opd S ix,opd S x with
  | some s,some t,some r=>updateW P T s t r S.bx fun bx=>K (.raw undef) bx S.E
  | _,_,_=>False
 | .range T x=>match opd S x with
  | some s=>rangeW P T s S.bx fun s bx=>K s bx S.E
  | none=>False
 | .next x false=>match opd S x with
  | some s=>nextW s S.bx fun s bx=>K s bx S.E
  | none=>False
 | .entry x=>match opd S x with
  | some s=>entryW s S.bx fun s=>K s S.bx S.E
  | none=>False
 | .typeAssert x T U ok=>match opd S x with
  | some s=>match s.val with
   | some v=>pureW P (Instr.typeAssert v T U ok) fun r=>K r S.bx S.E
   | none=>False
  | none=>False
 | .call c=>match opds S c.args.toList with
  | some args=>match c.callee with
   | .value f=>match opd S f with
    | some (.clo g first caps)=>callG callW g (first++args++caps) S.bx S.E K
    | some (.raw (.func (.yield l) m b))=>callW YID (.raw (.func (.yield l) m b)::args) S.bx S.E K
    | _=>False
   | .invoke r name=>match opd S r with
    | some (.ifc T v)=>match methodW P T name with
     | some g=>callG callW g (v::args) S.bx S.E K
     | none=>False
    | _=>False
   | .builtin .len=>match args,(c.argTypes[0]?).bind P.underlying with
    | [.raw (.slice _ n _)],some (.slice _)=>K (.raw (.int .i64 n)) S.bx S.E
    | [.slc _ _ n _],some (.slice _)=>K (.raw (.int .i64 n)) S.bx S.E
    | [.raw (.string s)],some .string=>K (.raw (.int .i64 s.size)) S.bx S.E
    | [_],some (.array n _)=>K (.raw (.int .i64 n)) S.bx S.E
    | [.mp false b],some (.map ..)=>match S.bx[b]? with
     | some ⟨_,.lst cells,_,true⟩=>K (.raw (.int .i64 (cells.length / 2:Nat))) S.bx S.E
     | _=>False
    | _,_=>False
   | .builtin .cap=>match args,(c.argTypes[0]?).bind P.underlying with
    | [.raw (.slice _ _ n)],some (.slice _)=>K (.raw (.int .i64 n)) S.bx S.E
    | [.slc _ _ _ n],some (.slice _)=>K (.raw (.int .i64 n)) S.bx S.E
    | _,_=>False
   | .builtin .append=>match args,c.argTypes.toList with
    | [s,x],[t,u]=>match P.underlying t,P.underlying u with
     | some (.slice e),some (.slice _)=>appendW P e s x S.bx S.E K
     | some (.slice e),some (.int _)=>appendZ P e s x S.bx S.E K
     | _,_=>False
    | _,_=>False
   | .builtin .copy=>match args,c.argTypes.toList with
    | [s,x],[t,u]=>match P.underlying t,P.underlying u with
     | some (.slice e),some (.slice _)=>copyW P e s x S.bx S.E K
     | _,_=>False
    | _,_=>False
   | .builtin .clear=>match args,c.argTypes.toList with
    | [s],[t]=>match P.underlying t with
     | some (.slice e)=>clearW P e s S.bx S.E K
     | _=>False
    | _,_=>False
   | .builtin .min=>match raws args with
    | some vs=>pureW P (Builtin.min_ #[] 0 vs.toArray) fun r=>K r S.bx S.E
    | none=>False
   | .builtin .max=>match raws args with
    | some vs=>pureW P (Builtin.max_ #[] 0 vs.toArray) fun r=>K r S.bx S.E
    | none=>False
   | .builtin _=>False
  | none=>False
 | _=>False
def growOp (op:Op) (S:St):Bool:=
 match op with
 | .alloc _| .box .. | .buildSlice .. | .makeSlice .. | .makeMap .. =>true
 | .call c=>match opds S c.args.toList with
  | some args=>match c.callee with
   | .value f=>match opd S f with
    | some (.clo _ first caps)=>(SV.valL (first++args++caps)).isSome
    | _=>false
   | .invoke r _=>match opd S r with
    | some (.ifc _ v)=>(SV.valL (v::args)).isSome
    | _=>false
   | _=>false
  | none=>false
 | _=>false
end Go.Sx
namespace Go.Sx
open Go.RowKit (Below)
theorem opd_den {S:St} {a:Act} {ρ:Env} (hF:FrRel ρ S.fr a.tmps) {x:Operand} {s:SV} (h:opd S x=some s):s.den ρ=some (a.eval x):=by
 cases x with
 | tmp t=>
  simp only [opd] at h
  split at h
  ·rename_i o ho
   subst h
   obtain ⟨v,h1,h2⟩:=hF.2 t s ho
   rw [h2];simp [Act.eval,Array.getD_eq_getD_getElem?,h1]
  ·cases h
 | const v=>simp only [opd,Option.some.injEq] at h;subst h;rfl
 | global g=>simp only [opd,Option.some.injEq] at h;subst h;simp [SV.den,rpDen,add_eq,Act.eval]
 | func f=>simp only [opd,Option.some.injEq] at h;subst h;rfl
theorem opds_den {S:St} {a:Act} {ρ:Env} (hF:FrRel ρ S.fr a.tmps):∀ {l:List Operand} {ss:List SV},opds S l=some ss->SV.denL ρ ss=some (l.map a.eval)
 | [],_,h=>by simp only [opds,Option.some.injEq] at h;subst h;simp [SV.denL]
 | x::l,_,h=>by
  simp only [opds] at h
  split at h
  ·rename_i s ss h1 h2
   simp only [Option.some.injEq] at h;subst h
   simp only [SV.denL,opd_den hF h1,opds_den hF h2,List.map_cons]
  ·cases h
def PartsDen (ρ:Env):List (Nat×SV)->List (Nat×Value)->Prop
 | [],[]=>True
 | (i,s)::ss,(j,v)::vs=>i=j/\s.den ρ=some v/\PartsDen ρ ss vs
 | _,_=>False
theorem parts_den {S:St} {a:Act} {ρ:Env} (hF:FrRel ρ S.fr a.tmps):∀ {l:List (Nat×Operand)} {ss:List (Nat×SV)},parts S l=some ss->PartsDen ρ ss (l.map fun (i,x)=>(i,a.eval x))
 | [],_,h=>by simp only [parts,Option.some.injEq] at h;subst h;trivial
 | (i,x)::l,_,h=>by
  simp only [parts] at h
  split at h
  ·rename_i s ss h1 h2
   simp only [Option.some.injEq] at h;subst h
   exact ⟨rfl,opd_den hF h1,parts_den hF h2⟩
  ·cases h
theorem foldl_lay (off:Nat):∀ (l:List Value) (k:Nat) (cells:List Value),off+k+l.length<=cells.length->
  (l.zipIdx k).foldl (fun (cs:Array Value) (x:Value×Nat)=>cs.setIfInBounds (off+x.2) x.1) cells.toArray=(cells.take (off+k)++l++cells.drop (off+k+l.length)).toArray
 | [],k,cells,_=>by simp
 | v::l,k,cells,h=>by
  simp only [List.length_cons] at h
  simp only [List.zipIdx_cons,List.foldl_cons]
  rw [List.setIfInBounds_toArray,foldl_lay off l (k+1) _ (by simp;omega)]
  congr 1
  have e1:(cells.set (off+k) v).take (off+(k+1))=cells.take (off+k)++[v]:=by
   rw [← Nat.add_assoc,List.take_succ_eq_append_getElem (by simp;omega)]
   simp [List.take_set_of_le]
  rw [e1,List.drop_set_of_lt (by omega)]
  simp [Nat.add_assoc,Nat.add_comm 1]
theorem fill_den {ρ:Env} {place:Nat->Option (Nat×Nat)}:∀ {ss:List (Nat×SV)} {ps:List (Nat×Value)} {cells cs:List SV} {vs:List Value},PartsDen ρ ss ps->SV.denL ρ cells=some vs->
  fillW place cells ss=some cs->∃ ws,SV.denL ρ cs=some ws/\Instr.fill place vs.toArray ps=some ws.toArray
 | [],[],cells,cs,vs,_,hv,h=>by simp only [fillW,Option.some.injEq] at h;subst h;exact ⟨vs,hv,rfl⟩
 | (i,s)::ss,(j,v)::ps,cells,cs,vs,hp,hv,h=>by
  obtain ⟨rfl,hd,hp⟩:=hp
  simp only [fillW] at h
  cases hpl:place i with
  | none=>rw [hpl] at h;cases h
  | some x=>
   obtain ⟨off,size⟩:=x
   rw [hpl] at h
   simp only at h
   split at h
   case isFalse=>cases h
   rename_i hc
   obtain ⟨h1,h2,h3⟩:=hc
   have hsc:=svCells_den h1 hd
   have hl:=denL_length hsc
   have hvl:=denL_length hv
   have hlay:SV.denL ρ (lay cells off (svCells s))=some (vs.take off++v.cells.toList++vs.drop (off+v.cells.toList.length)):=by
    unfold lay
    rw [hl]
    exact denL_append (denL_append (denL_take hv off) hsc) (denL_drop hv _)
   obtain ⟨ws,h4,h5⟩:=fill_den hp hlay h
   refine ⟨ws,h4,?_⟩
   simp only [Instr.fill,hpl]
   have hsz:v.cells.size=(svCells s).length:=by rw [← Array.length_toList,hl]
   rw [if_neg (by simp only [List.size_toArray];simp only [Array.length_toList] at hl;simp;omega)]
   rw [← h5]
   congr 1
   have hf:=foldl_lay off v.cells.toList 0 vs (by simp only [Nat.add_zero];omega)
   simp only [Nat.add_zero] at hf
   rw [← hf,← Array.foldl_toList]
   simp [Array.toList_zipIdx]
 | [],_::_,_,_,_,hp,_,_=>hp.elim
 | _::_,[],_,_,_,hp,_,_=>hp.elim
theorem run_zeroValue' {P:Program} {T:TypeId} {i:TypeInfo} {z:Value} (h:P.info? T=some i) (hz:i.zero=some z) (w:World):(zeroValue T).run P w= .ok z w:=by
 simp [zeroValue,run_typeInfo' h,hz]
end Go.Sx
namespace Go.Sx
open Go.RowKit (Below)
def CallPost (w0:World) (mu:Fm) (ρ:Env) (K:KT):Ending->World->Prop:=
 fun e w'=>∃ v s bx' E' ρ',e= .returned v/\ρ<+:ρ'/\s.den ρ'=some v/\Rel w0 mu bx' E' ρ' w'/\K s bx' E'
def EnterOK (P : Program) (f : FuncId) : Prop := ∃ fn, P.funcs[f]? = some fn ∧ (fn.name == "runtime.NumGoroutine") = false ∧ fn.body.isNone = false
def okE (Ω:Option Rc) (ρ:Env):Prop:=match Ω with
 | none=>True
 | some c=>c.ρ<+:ρ
theorem okE.mono {Ω:Option Rc} {ρ ρ':Env} (h:okE Ω ρ) (hp:ρ<+:ρ'):okE Ω ρ':=by
 cases Ω with
 | none=>trivial
 | some c=>exact List.IsPrefix.trans h hp
def okR (Ω:Option Rc) (w0:World) (mu:Fm) (ρ:Env):Prop:=(mu.om=Ω/\okE Ω ρ)/\okO w0 mu
theorem okO.at {w0 w:World} {mu:Fm} {mus:List Nat} {E:Mem} {ds:List Deferred} (h:okO w0 mu) (hk:Keep mu.mu w0 w) (hm:∀ g,g∈mus->w0.heap.size<=g\/g∈mu.mu):okO w ⟨mus,E,mu.om,ds⟩:=by
 unfold okO at h ⊢
 cases hc:mu.om with
 | none=>trivial
 | some c=>
  rw [hc] at h
  obtain ⟨h3,h4,h5,h6⟩:=h
  have hlt:c.l<w0.heap.size:=(Array.getElem?_eq_some_iff.1 h3).1
  refine ⟨?_,h4,fun hg=>?_,fun p hp=>?_⟩
  ·rw [hk.block c.l hlt h5];exact h3
  ·rcases hm c.l hg with q|q
   ·omega
   ·exact h5 q
  ·obtain ⟨⟨a1,a2,a3⟩,a4⟩:=h6 p hp
   have hlp:p.l<w0.heap.size:=(Array.getElem?_eq_some_iff.1 a1).1
   refine ⟨⟨?_,a2,fun hg=>?_⟩,a4⟩
   ·rw [hk.block p.l hlp a3];exact a1
   ·rcases hm p.l hg with q|q
    ·omega
    ·exact a3 q
theorem EnterOK.run {P:Program} {f:FuncId} (h:EnterOK P f) (args:Array Value) (w:World):(callFunc f args).run P w= .ok (.enter f args) w:=by
 obtain ⟨fn,h1,h2,h3⟩:=h
 unfold callFunc
 simp only [Sem.run_bind,run_program,Result.andThen_ok,h1,h2,h3,Bool.false_eq_true,if_false,Sem.run_pure]
def Reach (P:Program) (f:FuncId) (args:Array Value) (w:World) (R:Ending->World->Prop):Prop:=
 ((callFunc f args).run P w= .ok (.enter f args) w/\Calls P f args w R)\/∃ v w',(callFunc f args).run P w= .ok (.value v) w'/\R (.returned v) w'
theorem Reach.mono {P:Program} {f:FuncId} {args:Array Value} {w:World} {R R':Ending->World->Prop} (h:Reach P f args w R) (k:∀ e w',R e w'->R' e w'):Reach P f args w R':=by
 rcases h with ⟨h1,h2⟩|⟨v,w',h1,h2⟩
 ·exact .inl ⟨h1,h2.mono k⟩
 ·exact .inr ⟨v,w',h1,k _ _ h2⟩
theorem EnterOK.reach {P:Program} {f:FuncId} (h:EnterOK P f) {args:Array Value} {w:World} {R:Ending->World->Prop} (k:Calls P f args w R):Reach P f args w R:=.inl ⟨h.run args w,k⟩
def CallSem (P:Program) (f:FuncId) (args:List SV) (bx:List Box) (E:Mem) (K:KT):Prop:=
 ∀ w0 mu ρ w vs,Rel w0 mu bx E ρ w->SV.denL ρ args=some vs->Reach P f vs.toArray w (CallPost w0 mu ρ K)
def QuitPost (Ω:Option Rc) (w0:World) (mu:Fm) (ρ:Env):Ending->World->Prop:=fun e w'=>∃ c,Ω=some c/\∃ v bx' E' ρ',e= .returned v/\ρ<+:ρ'/\Rel (w0.putObj c.l (.loop c.stop)) mu bx' E' ρ' w'/\c.q bx' E'
def CallSemO (Ω:Option Rc) (P:Program) (f:FuncId) (args:List SV) (bx:List Box) (E:Mem) (K:KT):Prop:=
 EnterOK P f/\∀ w0 mu ρ w vs,okR Ω w0 mu ρ->Rel w0 mu bx E ρ w->SV.denL ρ args=some vs->Calls P f vs.toArray w fun e w'=>CallPost w0 mu ρ K e w'\/QuitPost Ω w0 mu ρ e w'
theorem Rel.cast {w0:World} {mu mu':Fm} {bx:List Box} {E:Mem} {ρ:Env} {w:World} (h1:mu'.mu=mu.mu) (h2:mu'.E0=mu.E0) (h:Rel w0 mu bx E ρ w):Rel w0 mu' bx E ρ w:=
 ⟨h1 ▸ h.keep,h.len,h.box,by rw [h1];exact h.sep,h.hold,by rw [h1];exact h.bsrc,by rw [h1,h2];exact h.src⟩
theorem CallSemO.out {P:Program} {f:FuncId} {args:List SV} {bx:List Box} {E:Mem} {K:KT} (h:CallSemO none P f args bx E K):CallSem P f args bx E K:=by
 refine fun w0 mu ρ w vs hR hd=>h.1.reach ?_
 refine (h.2 w0 ⟨mu.mu,mu.E0,none,[]⟩ ρ w vs ⟨⟨rfl,trivial⟩,trivial⟩ (Rel.cast (mu:=mu) rfl rfl hR) hd).mono fun e w' he=>?_
 rcases he with he|⟨c,q,_⟩
 case inr=>cases q
 obtain ⟨v,s,bx',E',ρ',rfl,h1,h2,h3,h4⟩:=he
 exact ⟨v,s,bx',E',ρ',rfl,h1,h2,Rel.cast (mu:=⟨mu.mu,mu.E0,none,[]⟩) rfl rfl h3,h4⟩
def YieldSem (Ω:Option Rc) (P:Program) (args:List SV) (bx:List Box) (E:Mem) (K:KT):Prop:=
 ∃ l m b rest,args= .raw (.func (.yield l) m b)::rest/\∀ w0 mu ρ w vs,okR Ω w0 mu ρ->Rel w0 mu bx E ρ w->SV.denL ρ rest=some vs->
  ∃ fn tmps assign body,(Instr.yield l (m++vs.toArray)).run P w= .ok (.round l fn tmps assign body) w/\RoundIn Fence.wide 0 P l fn tmps assign body w (CallPost w0 mu ρ K)
def CallOK (Ω:Option Rc) (P:Program) (callW:CallT):Prop:=∀ f args bx E K,callW f args bx E K->if f=YID then YieldSem Ω P args bx E K else CallSem P f args bx E K
theorem run_newVar' {P:Program} (T:TypeId) (v:Value) (w:World):(newVar T v).run P w= .ok ⟨w.heap.size,0,none⟩ (w.alloc (.cells v.cells T)):=by
 rfl
theorem asCells_raw {z:Value} {zs:List SV} (h:asCells (.raw z)=some zs):SV.denL [] zs=some z.cells.toList/\zs=z.cells.toList.map .raw:=by
 unfold asCells at h
 split at h
 ·rename_i hh;cases hh
 ·rename_i cs hh
  simp only [Option.some.injEq] at h;subst h
  cases hh
  exact ⟨denL_raw _,rfl⟩
 ·cases h
def NextOK (op:Op) (S:St) (dst:Option Tmp) (a:Act) (ρ:Env) (w0:World) (mu:Fm) (K:KT) (next:Act->World->Prop):Prop:=
 ∀ s v bx E ρ' w',ρ<+:ρ'->s.den ρ'=some v->Rel w0 mu bx E ρ' w'->(growOp op S=true->S.bx<+:bx/\Mem.le S.E E)->K s bx E->next (a.put dst v) w'
theorem pureW_elim {P:Program} {s:Sem Value} {K:SV->Prop} (h:pureW P s K):∃ v,(∀ w,s.run P w= .ok v w)/\K (.raw v):=by
 unfold pureW at h
 split at h
 ·rename_i v hv;exact ⟨v,pureVal_run s hv,h⟩
 ·exact h.elim
theorem Rel.read' {w0:World} {mu:Fm} {bx:List Box} {E:Mem} {ρ:Env} {w:World} (h:Rel w0 mu bx E ρ w) {i:Nat} {b:Box} {a:Addr} (hb:bx[i]? =some b) (hρ:ρ[i]? =some (some a)) (hsp:a.spot=none):
  a.spot=none/\∃ vs,SV.denL ρ b.cells=some vs/\∀ k x,vs[k]? =some x->w.cell? (a.add k)=some x:=by
 obtain ⟨h1,vs,h2,h3⟩:=(h.box i b _ hb hρ).isRow hsp
 refine ⟨h1,vs,h2,?_⟩
 by_cases hc:b.cells=[]
 ·have:=denL_length h2
  rw [hc] at this
  intro k x hx
  have :vs=[]:=List.eq_nil_of_length_eq_zero this
  subst this;simp at hx
 ·obtain ⟨a',vs',e1,e2,e3,e4⟩:=h.read hb hc fun c hc'=>by rw [hρ] at hc';cases hc';exact hsp
  rw [hρ] at e1;cases e1
  rw [h2] at e3;cases e3
  exact e4
theorem locDen_some {ρ:Env} {b off:Nat} {v:Value} (h:locDen ρ b off=some v):∃ a,ρ[b]? =some (some a)/\v= .pointer (some (a.add off))/\a.spot=none:=by
 unfold locDen at h
 split at h
 ·rename_i a ha
  split at h
  ·rename_i hs;simp only [Option.some.injEq] at h;exact ⟨a,ha,h.symm,hs⟩
  ·cases h
 ·cases h
theorem rpDen_some {x v:Value} {off:Nat} (h:rpDen x off=some v):∃ a len cap,x= .slice (some a) len cap/\v= .pointer (some (a.add off))/\a.spot=none:=by
 unfold rpDen at h
 split at h
 ·rename_i a len cap
  split at h
  ·rename_i hs;simp only [Option.some.injEq] at h;exact ⟨a,len,cap,rfl,h.symm,hs⟩
  ·cases h
 ·cases h
theorem load_sound {P:Program} {T:TypeId} {w0:World} {mu:Fm} {bx:List Box} {E:Mem} {ρ:Env} {w:World} (h:Rel w0 mu bx E ρ w) {b off:Nat} {y:Box} {r:SV} {av:Value}
  (hb:bx[b]? =some y) (hr:loadW P T y.cells off=some r) (ha:locDen ρ b off=some av):
  ∃ v,r.den ρ=some v/\(Instr.loadAt T av).run P w= .ok v w:=by
 obtain ⟨a,hρ,rfl,hsp⟩:=locDen_some ha
 obtain ⟨h1,vs,h2,h3⟩:=h.read' hb hρ hsp
 obtain ⟨v,h4,h5⟩:=run_loadVar (P:=P) h1 hr h2 h3
 exact ⟨v,h4,by simp [Instr.loadAt,Instr.sureAddr,h5]⟩
theorem loadE_sound {P:Program} {T:TypeId} {w0:World} {mu:Fm} {bx:List Box} {E:Mem} {ρ:Env} {w:World} (h:Rel w0 mu bx E ρ w) {x:Value} {off:Nat} {r:SV} {av:Value}
  (hr:LoadE P E T x off r) (ha:rpDen x off=some av):
  ∃ v,r.den ρ=some v/\(Instr.loadAt T av).run P w= .ok v w:=by
 obtain ⟨a,len,cap,rfl,rfl,_⟩:=rpDen_some ha
 obtain ⟨cs,hE,hl⟩:=hr
 rcases h.hold _ _ hE with rfl|⟨a',len',cap',e,hs,hcell⟩
 ·-- no cells: only a value of no size can be read
  obtain ⟨d,hu⟩:=loadW_type hl
  by_cases hd:isAggD d=true
  ·obtain ⟨i,hi,hlen,rfl⟩:=loadW_agg hu hd hl
   simp at hlen
   refine ⟨.agg #[],by simp [SV.den,SV.denL],?_⟩
   simp only [Instr.loadAt,Instr.sureAddr,Sem.run_bind,Sem.run_pure,Result.andThen_ok]
   unfold loadVar
   simp only [Sem.run_bind,run_isAgg' hu,hd,Result.andThen_ok,Sem.run_ite,if_true,run_sizeOf' hi,← hlen]
   simp [loadCells,loadCellsFrom]
  ·have:=loadW_single hu (by simpa using hd) hl
   simp at this
 ·cases e
  obtain ⟨v,h4,h5⟩:=run_loadVar (P:=P) (w:=w) hs hl (denL_raw (ρ:=ρ) cs) (fun k x hx=>by rw [add_eq hs];exact hcell k x hx)
  exact ⟨v,h4,by simp [Instr.loadAt,Instr.sureAddr,h5]⟩
end Go.Sx
namespace Go.Sx
open Go.RowKit (Below)
def fW (ro:Option Nat):Fence:={ Fence.wide with round:=ro }
theorem upon_val {ro:Option Nat} {P:Program} {o:Oper} {a:Act} {next:Act->World->Prop} {Q:Exit->Act->World->Prop} {s:Sem Value} {w w':World} {v:Value}
  (hx:execOp a.eval o=(do pure (Next.value (← s)))) (hr:s.run P w= .ok v w') (hn:next (a.put o.dst v) w'):o.uponIn (fW ro) 0 P a next Q ((execOp a.eval o).run P w):=by
 rw [hx]
 simp only [Sem.run_bind,hr,Result.andThen_ok,Sem.run_pure]
 exact hn
theorem sliceNums_elim {lo hi mx:Option Int} {len cap:Nat} {K:Nat->Nat->Nat->Prop} (h:sliceNums lo hi mx len cap K):
  (hi=none->mx=none)/\(∀ i,mx=some i->0<=i/\i<=(cap:Int))/\(∀ i,hi=some i->0<=i/\i<=(toN mx cap:Int))/\(∀ i,lo=some i->0<=i/\i<=(toN hi len:Int))/\
  K (toN lo 0) (toN hi len) (toN mx cap):=by
 have key:reqO mx cap (reqO hi (toN mx cap) (reqO lo (toN hi len) (K (toN lo 0) (toN hi len) (toN mx cap))))/\(hi=none->mx=none):=by
  unfold sliceNums at h
  split at h
  ·exact h.elim
  ·rename_i hne
   refine ⟨h,?_⟩
   intro e
   cases mx with
   | none=>rfl
   | some i=>exact (hne i e rfl).elim
 obtain ⟨key,h0⟩:=key
 have el:∀ {o:Option Int} {t:Nat} {k:Prop},reqO o t k->(∀ i,o=some i->0<=i/\i<=(t:Int))/\k:=by
  intro o t k hk
  cases o with
  | none=>exact ⟨fun i e=>(by cases e),hk⟩
  | some i=>obtain ⟨h1,h2⟩:=req_elim hk;exact ⟨fun j e=>(by cases e;exact h1),h2⟩
 obtain ⟨h1,key⟩:=el key
 obtain ⟨h2,key⟩:=el key
 obtain ⟨h3,key⟩:=el key
 exact ⟨h0,h1,h2,h3,key⟩
theorem numO_den {S:St} {a:Act} {ρ:Env} (hF:FrRel ρ S.fr a.tmps) {x:Option Operand} {n:Option Int} (h:numO S x=some n):
  (x=none/\n=none)\/∃ y k i,x=some y/\n=some i/\a.eval y= .int k i:=by
 cases x with
 | none=>simp only [numO,Option.some.injEq] at h;exact .inl ⟨rfl,h.symm⟩
 | some y=>
  simp only [numO] at h
  split at h
  ·rename_i k i hs
   simp only [Option.some.injEq] at h
   have:=opd_den hF hs
   simp only [SV.den,Option.some.injEq] at this
   exact .inr ⟨y,k,i,rfl,h.symm,this.symm⟩
  ·cases h
theorem run_sliceBound {P:Program} (k:IntKind) (i:Int) (y:Nat) (c:BoundsCode) (h:0<=i/\i<=(y:Int)) (w:World):(Instr.sliceBound (.int k i) y c).run P w= .ok i.toNat w:=by
 unfold Instr.sliceBound
 simp [asIntOf,h]
theorem run_sliceBounds {P:Program} {S:St} {a:Act} {ρ:Env} (hF:FrRel ρ S.fr a.tmps) {lo hi mx:Option Operand} {l h m:Option Int} (h1:numO S lo=some l) (h2:numO S hi=some h) (h3:numO S mx=some m)
    {len cap:Nat} {K:Nat->Nat->Nat->Prop} (hn:sliceNums l h m len cap K) (b:Bool) (w:World):
    (Instr.sliceBounds b len cap (lo.map a.eval) (hi.map a.eval) (mx.map a.eval)).run P w= .ok (toN l 0,toN h len,toN m cap) w/\K (toN l 0) (toN h len) (toN m cap):=by
  obtain ⟨g0,g1,g2,g3,hK⟩:=sliceNums_elim hn
  refine ⟨?_,hK⟩
  unfold Instr.sliceBounds
  rcases numO_den hF h3 with ⟨rfl,rfl⟩|⟨y3,k3,i3,rfl,rfl,e3⟩<;>rcases numO_den hF h2 with ⟨rfl,rfl⟩|⟨y2,k2,i2,rfl,rfl,e2⟩<;>
    rcases numO_den hF h1 with ⟨rfl,rfl⟩|⟨y1,k1,i1,rfl,rfl,e1⟩<;>
    first
    | (simp at g0;done)
    | (try have r3:=fun c w=>run_sliceBound (P:=P) k3 i3 cap c (g1 _ rfl) w
       try have r2:=fun c w=>run_sliceBound (P:=P) k2 i2 _ c (g2 _ rfl) w
       try have r1:=fun c w=>run_sliceBound (P:=P) k1 i1 _ c (g3 _ rfl) w
       clear g0 g1 g2 g3 hn h1 h2 h3 hK
       simp only [toN] at *
       simp [*];done)
end Go.Sx
namespace Go.Sx
open Go.RowKit (Below)
section
variable {ro:Option Nat} {P:Program} {callW:CallT} {S:St} {a:Act} {w w0:World} {mu:Fm} {ρ:Env} {K:KT} {next:Act->World->Prop} {Q:Exit->Act->World->Prop}
 {dst:Option Tmp} {type:TypeId} {pos:String} {after:Array Edge} {guard:Option (Nat×Bool)}
theorem pureOp_sound {op:Op} {s:Sem Value} (hR:Rel w0 mu S.bx S.E ρ w) (hk:NextOK op S dst a ρ w0 mu K next)
  (hx:execOp a.eval ⟨dst,op,type,pos,after,guard⟩=(do pure (Next.value (← s)))) (h:pureW P s fun r=>K r S.bx S.E):
  Oper.uponIn (fW ro) 0 P ⟨dst,op,type,pos,after,guard⟩ a next Q ((execOp a.eval ⟨dst,op,type,pos,after,guard⟩).run P w):=by
 obtain ⟨v,h1,h2⟩:=pureW_elim h
 exact upon_val hx (h1 w) (hk _ _ _ _ ρ w (List.prefix_refl _) rfl hR (fun _=>⟨List.prefix_refl _,Mem.le_refl _⟩) h2)
theorem nilCmp {ρ:Env} {s t:SV} {r:Bool} {x y:Value} (h:isNilCmp s t=some r) (hs:s.den ρ=some x) (ht:t.den ρ=some y):
  r=false/\((∃ b,x= .pointer (some b)/\y= .pointer none)\/(∃ b,x= .pointer none/\y= .pointer (some b))):=by
 unfold isNilCmp at h
 split at h<;>first|(cases h;done)|simp only [Option.some.injEq] at h
 ·simp only [SV.den,Option.some.injEq] at hs ht;obtain ⟨a,_,rfl,_⟩:=locDen_some hs;exact ⟨h.symm,.inl ⟨_,rfl,ht.symm⟩⟩
 ·simp only [SV.den,Option.some.injEq] at hs ht;obtain ⟨a,_,_,_,rfl,_⟩:=rpDen_some hs;exact ⟨h.symm,.inl ⟨_,rfl,ht.symm⟩⟩
 ·simp only [SV.den,Option.some.injEq] at hs ht;obtain ⟨a,_,rfl,_⟩:=locDen_some ht;exact ⟨h.symm,.inr ⟨_,hs.symm,rfl⟩⟩
 ·simp only [SV.den,Option.some.injEq] at hs ht;obtain ⟨a,_,_,_,rfl,_⟩:=rpDen_some ht;exact ⟨h.symm,.inr ⟨_,hs.symm,rfl⟩⟩
theorem equalIn_ptr {T e:TypeId} (he:P.underlying T=some (.pointer e)) (d:Nat) (b:Addr) (w:World):
  (Op.equalIn (d+1) T (.pointer (some b)) (.pointer none)).run P w= .ok false w/\(Op.equalIn (d+1) T (.pointer none) (.pointer (some b))).run P w= .ok false w:=by
 constructor<;>simp [Op.equalIn,run_underlying he]
theorem slcDen_some {b off len cap:Nat} {v:Value} (h:slcDen ρ b off len cap=some v):
  (∃ c,ρ[b]? =some (some c)/\v= .slice (some (c.add off)) len cap/\c.spot=none)\/(ρ[b]? =some none/\off=0/\len=0/\cap=0/\v= .slice none 0 0):=by
 unfold slcDen at h
 split at h
 ·rename_i c hc
  split at h
  ·rename_i hs;simp only [Option.some.injEq] at h;exact .inl ⟨c,hc,h.symm,hs⟩
  ·cases h
 ·rename_i hc
  split at h
  ·rename_i hh;obtain ⟨rfl,rfl,rfl⟩:=hh;simp only [Option.some.injEq] at h;exact .inr ⟨hc,rfl,rfl,rfl,h.symm⟩
  ·cases h
 ·cases h
theorem add_add {c:Addr} (h:c.spot=none) (m n:Nat):(c.add m).add n=c.add (m+n):=by
 rw [add_eq (a:=c.add m) (by rw [add_eq h]),add_eq h,add_eq h,Nat.add_assoc]
theorem Rel.addE {bx:List Box} {E E':Mem} (h:Rel w0 mu bx E ρ w) (hh:∀ v cs,E' v cs->RowAt w v cs)
  (hs:∀ v cs,E' v cs->cs≠[]->E v cs\/∀ (i:Nat) b c,bx[i]? =some b->b.own=true->ρ[i]? =some (some c)->blk v≠some c.block)
  (hsrc:∀ v cs,E' v cs->cs≠[]->(∃ b,blk v=some b/\(w0.heap.size<=b\/b∈mu.mu))\/∃ v0 cs0,mu.E0 v0 cs0/\cs0≠[]/\blk v=blk v0):Rel w0 mu bx E' ρ w where
 keep:=h.keep
 len:=h.len
 box:=h.box
 sep i b c h1 h2 h3:=by
  obtain ⟨t1,t2,t3⟩:=h.sep i b c h1 h2 h3
  exact ⟨t1,t2,fun v cs hE hne=>(hs v cs hE hne).elim (fun g=>t3 v cs g hne) fun g=>g i b c h1 h2 h3⟩
 hold:=hh
 bsrc:=h.bsrc
 src:=hsrc
theorem Rel.weakE {bx:List Box} {E F:Mem} (h:Rel w0 mu bx E ρ w) (hle:Mem.le F E):Rel w0 mu bx F ρ w:=
 h.addE (fun v cs g=>h.hold v cs (hle v cs g)) (fun v cs g _=>.inl (hle v cs g)) (fun v cs g hne=>h.src v cs (hle v cs g) hne)
theorem allocOp_sound {op:Op} {T:TypeId} {s:SV} {x:Value} (hR:Rel w0 mu S.bx S.E ρ w) (hk:NextOK op S dst a ρ w0 mu K next) (hs:oneOrAgg s=true) (hx:s.den ρ=some x)
  (hr:(execOp a.eval ⟨dst,op,type,pos,after,guard⟩).run P w= .ok (.value (.pointer (some ⟨w.heap.size,0,none⟩))) (w.alloc (.cells x.cells T)))
  (h:K (.loc S.bx.length 0) (S.bx++[⟨T,.lst (svCells s),(svCells s).length,true⟩]) S.E):
  Oper.uponIn (fW ro) 0 P ⟨dst,op,type,pos,after,guard⟩ a next Q ((execOp a.eval ⟨dst,op,type,pos,after,guard⟩).run P w):=by
 rw [hr]
 have hc:=svCells_den hs hx
 have:=hR.alloc T (.lst (svCells s)) _ [] (svCells s).length hc (by simpa using denL_length hc)
 simp only [List.append_nil,Array.toArray_toList] at this
 refine hk _ _ _ _ _ _ (List.prefix_append _ _) ?_ this (fun _=>⟨List.prefix_append _ _,Mem.le_refl _⟩) h
 simp only [SV.den,locDen,← hR.len,List.getElem?_append_right (Nat.le_refl _),Nat.sub_self,List.getElem?_cons_zero]
 rfl
end
theorem frz_heap {w:World} {p:Addr} (k:Nat):(w.freeze p 1).heap[k]? =if p.block=k then (w.heap[k]?).map (fun o=>match o with | .cells c elem (lo,hi)=>.cells c elem (if lo==hi then (p.off,p.off+1) else (min lo p.off,max hi (p.off+1)))|o=>o) else w.heap[k]?:=by
 unfold World.freeze
 rw [if_neg (by decide)]
 simp only [Array.getElem?_modify]
 rfl
theorem frz_cell {w:World} {p a:Addr}:(w.freeze p 1).cell? a=w.cell? a:=by
 unfold World.cell?
 rw [frz_heap]
 by_cases h:p.block=a.block
 ·rw [if_pos h]
  cases w.heap[a.block]? with
  | none=>rfl
  | some o=>cases o<;>rfl
 ·rw [if_neg h]
theorem frz_row {w:World} {p:Addr} {v:Value} {cs:List Value} (h:RowAt w v cs):RowAt (w.freeze p 1) v cs:=by
 rcases h with h|⟨a,l,c,h1,h2,h3⟩
 ·exact .inl h
 ·exact .inr ⟨a,l,c,h1,h2,fun i x hx=>by rw [frz_cell];exact h3 i x hx⟩
theorem Rel.shareF {w0:World} {mu:Fm} {bx:List Box} {E:Mem} {ρ:Env} {w:World} (h:Rel w0 mu bx E ρ w) {b:Nat} {e:TypeId} {r:Row} {tot:Nat} (hb:bx[b]? =some ⟨e,r,tot,true⟩) (hne:r.cells≠[]) (hsp:∀ a,ρ[b]? =some (some a)->a.spot=none):
  ∃ (a:Addr) (C:Array Value),ρ[b]? =some (some a)/\w.heap[a.block]? =some (.cells C e (0,0))/\Rel w0 mu (bx.set b ⟨e,r,tot,false⟩) E ρ (w.freeze ⟨a.block,C.size,none⟩ 1):=by
 have hlt:b<bx.length:=(List.getElem?_eq_some_iff.1 hb).1
 obtain ⟨oa,hoa⟩:∃ oa,ρ[b]? =some oa:=⟨_,List.getElem?_eq_getElem (by rw [h.len];exact hlt)⟩
 have hat:=h.box b _ oa hb hoa
 cases oa with
 | none=>
  have q:r.cells=[]:=hat.1
  exact absurd q hne
 | some a=>
  obtain ⟨hs,vs,hv,hown⟩:=hat.isRow (hsp a hoa)
  rw [if_pos rfl] at hown
  obtain ⟨hoff,junk,hheap,hlen⟩:=hown
  refine ⟨a,_,hoa,hheap,?_⟩
  obtain ⟨s1,s2,s3⟩:=h.sep b _ a hb rfl hoa
  have look:∀ (i:Nat) (y:Box),(bx.set b ⟨e,r,tot,false⟩)[i]? =some y->(i=b/\y=⟨e,r,tot,false⟩)\/(i≠b/\bx[i]? =some y):=by
   intro i y hy
   rw [List.getElem?_set] at hy
   split at hy
   ·rename_i q
    first|rw [if_pos hlt] at hy|skip
    exact .inl ⟨q.symm,(Option.some.inj hy).symm⟩
   ·rename_i q;exact .inr ⟨fun z=>q z.symm,hy⟩
  have hlive:∀ (j:Nat) (b':Box),(bx.set b ⟨e,r,tot,false⟩)[j]? =some b'->b'.live=true->∃ b2,bx[j]? =some b2/\b2.live=true:=by
   intro j b' hb' hl
   rcases look j b' hb' with ⟨rfl,rfl⟩|⟨_,q⟩
   ·exact ⟨_,hb,by simp [Box.live]⟩
   ·exact ⟨b',q,hl⟩
  refine ⟨⟨h.keep.os,h.keep.tape,h.keep.output,?_,fun k hk hm=>?_⟩,by rw [List.length_set];exact h.len,fun i y oa' hy ho=>?_,fun i y a' hy ho ha=>?_,fun v cs hv=>frz_row (h.hold v cs hv),fun i y a' hy hl ha=>?_,h.src⟩
  ·have :(w.freeze ⟨a.block,(vs++junk).toArray.size,none⟩ 1).heap.size=w.heap.size:=by
    unfold World.freeze
    rw [if_neg (by decide)]
    simp
   rw [this];exact h.keep.size
  ·rw [frz_heap,if_neg (by intro z;have z:a.block=k:=z;subst z;rcases s1 with s1|s1;exact absurd hk (by omega);exact hm s1)]
   exact h.keep.block k hk hm
  ·rcases look i y hy with ⟨rfl,rfl⟩|⟨hi,q⟩
   ·rw [hoa] at ho
    cases ho
    refine .inl ⟨hs,vs,hv,?_⟩
    rw [if_neg (by simp)]
    intro i x hx
    rw [frz_cell]
    unfold World.cell?
    simp only [hheap]
    have hil:i<vs.length:=(List.getElem?_eq_some_iff.1 hx).1
    simp only [hoff,Nat.zero_add,Option.isSome_none,Bool.false_eq_true,if_false,List.getElem?_toArray]
    rw [List.getElem?_append_left hil];exact hx
   ·have old:=h.box i y oa' q ho
    unfold BoxAt at old ⊢
    cases oa' with
    | none=>exact old
    | some a'=>
     have hsz:(w.freeze ⟨a.block,(vs++junk).toArray.size,none⟩ 1).heap.size=w.heap.size:=by
      unfold World.freeze
      rw [if_neg (by decide)]
      simp
     rcases old with ⟨o1,vs',o2,o3⟩|⟨o1,vs',o2,o3,o4,o5⟩
     case inr=>
      refine .inr ⟨o1,vs',o2,fun hl=>by rw [hsz];exact o3 hl,fun hy2=>?_,o5⟩
      obtain ⟨p1,p2,p3⟩:=o4 hy2
      refine ⟨p1,?_,p3⟩
      have hn:=s2 i y a' hi q (by simp [Box.live,hy2]) ho
      rw [frz_heap,if_neg (fun z=>hn z.symm)]
      exact p2
     refine .inl ⟨o1,vs',o2,?_⟩
     by_cases hy2:y.own=true
     ·rw [if_pos hy2] at o3 ⊢
      obtain ⟨p1,j',p2,p3⟩:=o3
      refine ⟨p1,j',?_,p3⟩
      have hn:=s2 i y a' hi q (by simp [Box.live,hy2]) ho
      rw [frz_heap,if_neg (fun z=>hn z.symm)]
      exact p2
     ·rw [if_neg hy2] at o3 ⊢
      intro k x hx
      rw [frz_cell];exact o3 k x hx
  ·rcases look i y hy with ⟨rfl,rfl⟩|⟨hi,q⟩
   ·cases ho
   ·obtain ⟨t1,t2,t3⟩:=h.sep i y a' q ho ha
    refine ⟨t1,fun j b' a2 hj hb' hl' ha2=>?_,t3⟩
    obtain ⟨b2,q2,l2⟩:=hlive j b' hb' hl'
    exact t2 j b2 a2 hj q2 l2 ha2
  ·obtain ⟨b2,q2,l2⟩:=hlive i y hy hl
   exact h.bsrc i b2 a' q2 l2 ha
end Go.Sx
namespace Go.Sx
open Go.RowKit (Below)
theorem slcDen_base {ρ:Env} {b off len cap:Nat} {v:Value} {base:Option Addr} (hb:ρ[b]? =some base) (h:slcDen ρ b off len cap=some v):v=slcAs base off len cap:=by
 unfold slcDen at h
 rw [hb] at h
 cases base with
 | some c=>
  simp only at h
  split at h
  ·simp only [Option.some.injEq] at h;exact h.symm
  ·cases h
 | none=>
  simp only at h
  split at h
  ·rename_i hh;obtain ⟨rfl,rfl,rfl⟩:=hh;simp only [Option.some.injEq] at h;exact h.symm
  ·cases h
mutual
theorem subst_den {ρ:Env} {b:Nat} {base:Option Addr} (hb:ρ[b]? =some base):∀ (s:SV) {v:Value},s.den ρ=some v->(s.subst b base).den ρ=some v
 | .slc b' off len cap,v,h=>by
  simp only [SV.subst]
  split
  ·rename_i e;subst e
   simp only [SV.den] at h
   simp only [SV.den,slcDen_base hb h]
  ·exact h
 | .agg l,v,h=>by
  simp only [SV.subst,SV.den,Option.map_eq_some_iff] at *
  obtain ⟨vs,h1,h2⟩:=h;exact ⟨vs,substL_den hb l h1,h2⟩
 | .tup l,v,h=>by
  simp only [SV.subst,SV.den,Option.map_eq_some_iff] at *
  obtain ⟨vs,h1,h2⟩:=h;exact ⟨vs,substL_den hb l h1,h2⟩
 | .clo f m l,v,h=>by
  simp only [SV.den] at h
  split at h
  ·rename_i us vs h1 h2
   simp only [SV.subst,SV.den,substL_den hb m h1,substL_den hb l h2];exact h
  ·cases h
 | .ifc t x,v,h=>by
  simp only [SV.subst,SV.den,Option.map_eq_some_iff] at *
  obtain ⟨vs,h1,h2⟩:=h;exact ⟨vs,subst_den hb x h1,h2⟩
 | .mth t x,v,h=>by
  simp only [SV.subst,SV.den,Option.map_eq_some_iff] at *
  obtain ⟨vs,h1,h2⟩:=h;exact ⟨vs,subst_den hb x h1,h2⟩
 | .raw _,v,h=>h
 | .loc _ _,v,h=>h
 | .rp _ _,v,h=>h
 | .mp _ _,v,h=>h
theorem substL_den {ρ:Env} {b:Nat} {base:Option Addr} (hb:ρ[b]? =some base):∀ (l:List SV) {vs:List Value},SV.denL ρ l=some vs->SV.denL ρ (SV.substL b base l)=some vs
 | [],vs,h=>h
 | x::l,vs,h=>by
  simp only [SV.denL] at h
  split at h
  ·rename_i v ws h1 h2
   simp only [SV.substL,SV.denL,subst_den hb x h1,substL_den hb l h2];exact h
  ·cases h
end
theorem Box.live_share {y:Box} (h:({ y with own:=false }:Box).live=true):y.live=true:=by
 have h':(!y.row.cells.isEmpty)=true:=by simpa [Box.live,Box.cells] using h
 simp only [Box.live,Box.cells,h',Bool.or_true]
theorem BoxAt.share {w:World} {ρ:Env} {oa:Option Addr} {b:Box} (h:BoxAt w ρ oa b) (hsp:∀ c,oa=some c->c.spot=none):BoxAt w ρ oa { b with own:=false }:=by
 cases oa with
 | none=>exact h
 | some a=>
  rcases h with ⟨h1,vs,h2,h3⟩|⟨h1,_⟩
  case inr=>exact absurd (hsp a rfl) h1
  refine .inl ⟨h1,vs,h2,?_⟩
  simp only [Bool.false_eq_true,if_false]
  by_cases ho:b.own=true
  ·rw [if_pos ho] at h3
   obtain ⟨h4,junk,hj,_⟩:=h3
   intro i x hx
   have hi:i<vs.length:=by
    rcases Nat.lt_or_ge i vs.length with h'|h'
    ·exact h'
    ·simp [List.getElem?_eq_none h'] at hx
   simp only [World.cell?,hj,Option.isSome_none,h4,Nat.zero_add]
   simp [List.getElem?_append_left hi,hx]
  ·rw [if_neg ho] at h3
   exact h3
theorem Rel.share' {w0:World} {mu:Fm} {bx:List Box} {E:Mem} {ρ:Env} {w:World} (h:Rel w0 mu bx E ρ w) {b:Nat} {y:Box} (hb:bx[b]? =some y) (hat:∀ oa,ρ[b]? =some oa->BoxAt w ρ oa { y with own:=false }):Rel w0 mu (bx.set b { y with own:=false }) E ρ w:=by
 have hi:b<bx.length:=by
  rcases Nat.lt_or_ge b bx.length with h'|h'
  ·exact h'
  ·simp [List.getElem?_eq_none h'] at hb
 refine ⟨h.keep,by simpa using h.len,?_,?_,h.hold,?_,h.src⟩
 ·intro j b' oa h1 h2
  by_cases hj:b=j
  ·subst hj
   rw [List.getElem?_set_self hi] at h1
   simp only [Option.some.injEq] at h1;subst h1
   exact hat oa h2
  ·rw [List.getElem?_set_ne hj] at h1
   exact h.box j b' oa h1 h2
 ·intro j b' a h1 ho h2
  by_cases hj:b=j
  ·subst hj
   rw [List.getElem?_set_self hi] at h1
   simp only [Option.some.injEq] at h1;subst h1
   simp at ho
  ·rw [List.getElem?_set_ne hj] at h1
   obtain ⟨t1,t2,t3⟩:=h.sep j b' a h1 ho h2
   refine ⟨t1,?_,t3⟩
   intro k b3 a3 hkj hk1 hl3 hk2
   by_cases hk:b=k
   ·subst hk
    rw [List.getElem?_set_self hi] at hk1
    simp only [Option.some.injEq] at hk1;subst hk1
    refine t2 b y a3 hkj hb ?_ hk2
    exact Box.live_share hl3
   ·rw [List.getElem?_set_ne hk] at hk1
    exact t2 k b3 a3 hkj hk1 hl3 hk2
 ·intro j b' a h1 hl h2
  by_cases hj:b=j
  ·subst hj
   rw [List.getElem?_set_self hi] at h1
   simp only [Option.some.injEq] at h1;subst h1
   exact h.bsrc b y a hb (Box.live_share hl) h2
  ·rw [List.getElem?_set_ne hj] at h1
   exact h.bsrc j b' a h1 hl h2
theorem Rel.share {w0:World} {mu:Fm} {bx:List Box} {E:Mem} {ρ:Env} {w:World} (h:Rel w0 mu bx E ρ w) {b:Nat} {y:Box} (hb:bx[b]? =some y) (hsp:∀ c,ρ[b]? =some (some c)->c.spot=none):Rel w0 mu (bx.set b { y with own:=false }) E ρ w:=by
 exact h.share' hb fun oa e=>(h.box b y oa hb e).share fun c q=>hsp c (by rw [e,q])
theorem Box.subst_live (b:Nat) (base:Option Addr) (y:Box):(y.subst b base).live=y.live:=by
 obtain ⟨e,r,t,o⟩:=y
 cases r with
 | lst l=>
  simp only [Box.subst,Box.live,Box.cells,Row.cells]
  cases l<;>rfl
 | vals l=>rfl
theorem Box.subst_own (b:Nat) (base:Option Addr) (y:Box):(y.subst b base).own=y.own:=by
 obtain ⟨e,r,t,o⟩:=y
 cases r<;>rfl
theorem BoxAt.subst {w:World} {ρ:Env} {b:Nat} {base oa:Option Addr} (hb:ρ[b]? =some base) {y:Box} (h:BoxAt w ρ oa y):BoxAt w ρ oa (y.subst b base):=by
 obtain ⟨e,r,t,o⟩:=y
 cases r with
 | vals l=>exact h
 | lst l=>
  cases oa with
  | none=>
   obtain ⟨h1,h2⟩:=h
   simp only [Box.cells,Row.cells] at h1
   subst h1
   exact ⟨rfl,h2⟩
  | some a=>
   rcases h with ⟨h1,vs,h2,h3⟩|⟨h1,vs,h2,h3,h4⟩
   ·exact .inl ⟨h1,vs,substL_den hb l h2,h3⟩
   ·exact .inr ⟨h1,vs,substL_den hb l h2,fun hl=>h3 (by rw [← hl];cases l<;>rfl),h4.1,fun ho=>by have:=h4.2 ho;simp only [Box.cells,Row.cells] at this;subst this;rfl⟩
theorem Rel.subst {w0:World} {mu:Fm} {bx:List Box} {E:Mem} {ρ:Env} {w:World} (h:Rel w0 mu bx E ρ w) {b:Nat} {base:Option Addr} (hb:ρ[b]? =some base):Rel w0 mu (bx.map (Box.subst b base)) E ρ w:=by
 have key:∀ (i:Nat) y,(bx.map (Box.subst b base))[i]? =some y->∃ z,bx[i]? =some z/\y=z.subst b base:=by
  intro i y hy
  rw [List.getElem?_map] at hy
  cases hz:bx[i]? with
  | none=>rw [hz] at hy;cases hy
  | some z=>rw [hz] at hy;simp only [Option.map_some,Option.some.injEq] at hy;exact ⟨z,rfl,hy.symm⟩
 refine ⟨h.keep,by simpa using h.len,?_,?_,h.hold,?_,h.src⟩
 ·intro i y oa h1 h2
  obtain ⟨z,hz,rfl⟩:=key i y h1
  exact (h.box i z oa hz h2).subst hb
 ·intro i y a h1 ho h2
  obtain ⟨z,hz,rfl⟩:=key i y h1
  rw [Box.subst_own] at ho
  obtain ⟨t1,t2,t3⟩:=h.sep i z a hz ho h2
  refine ⟨t1,fun j y' a' hji hj1 hl hj2=>?_,t3⟩
  obtain ⟨z',hz',rfl⟩:=key j y' hj1
  rw [Box.subst_live] at hl
  exact t2 j z' a' hji hz' hl hj2
 ·intro i y a h1 hl h2
  obtain ⟨z,hz,rfl⟩:=key i y h1
  rw [Box.subst_live] at hl
  exact h.bsrc i z a hz hl h2
theorem Row.val_den {r:Row} {cs:List Value} (h:r.val=some cs) (ρ:Env):SV.denL ρ r.cells=some cs:=by
 cases r with
 | lst l=>exact SV.denL_of_val ρ l h
 | vals l=>simp only [Row.val,Option.some.injEq] at h;subst h;exact denL_raw l
mutual
theorem firstSlc_spot {ρ:Env} {c:Addr}:∀ (s:SV) {v:Value} {b:Nat},s.den ρ=some v->s.firstSlc=some b->ρ[b]? =some (some c)->c.spot=none
 | .slc b' off len cap,v,b,h,e,hc=>by
  simp only [SV.firstSlc,Option.some.injEq] at e;subst e
  exact slcDen_spot h hc
 | .agg l,v,b,h,e,hc=>by
  simp only [SV.den,Option.map_eq_some_iff] at h
  obtain ⟨vs,h1,_⟩:=h;exact firstSlcL_spot l h1 e hc
 | .tup l,v,b,h,e,hc=>by
  simp only [SV.den,Option.map_eq_some_iff] at h
  obtain ⟨vs,h1,_⟩:=h;exact firstSlcL_spot l h1 e hc
 | .clo f m l,v,b,h,e,hc=>by
  simp only [SV.den] at h
  split at h
  ·rename_i us vs h1 h2
   simp only [SV.firstSlc] at e
   split at e
   ·rename_i b' hb';cases e;exact firstSlcL_spot m h1 hb' hc
   ·exact firstSlcL_spot l h2 e hc
  ·cases h
 | .ifc t x,v,b,h,e,hc=>by
  simp only [SV.den,Option.map_eq_some_iff] at h
  obtain ⟨vs,h1,_⟩:=h;exact firstSlc_spot x h1 e hc
 | .mth t x,v,b,h,e,hc=>by
  simp only [SV.den,Option.map_eq_some_iff] at h
  obtain ⟨vs,h1,_⟩:=h;exact firstSlc_spot x h1 e hc
 | .raw _,v,b,h,e,_=>by cases e
 | .loc _ _,v,b,h,e,_=>by cases e
 | .rp _ _,v,b,h,e,_=>by cases e
 | .mp _ _,v,b,h,e,_=>by cases e
theorem firstSlcL_spot {ρ:Env} {c:Addr}:∀ (l:List SV) {vs:List Value} {b:Nat},SV.denL ρ l=some vs->SV.firstSlcL l=some b->ρ[b]? =some (some c)->c.spot=none
 | [],vs,b,h,e,_=>by cases e
 | x::l,vs,b,h,e,hc=>by
  simp only [SV.denL] at h
  split at h
  ·rename_i v ws h1 h2
   simp only [SV.firstSlcL] at e
   split at e
   ·rename_i b' hb';cases e;exact firstSlc_spot x h1 hb' hc
   ·exact firstSlcL_spot l h2 e hc
  ·cases h
end
theorem deep_spot {w0:World} {mu:Fm} {bx:List Box} {E:Mem} {ρ:Env} {w:World} (hR:Rel w0 mu bx E ρ w):∀ (n b:Nat),(∀ c,ρ[b]? =some (some c)->c.spot=none)->∀ c,ρ[deep bx n b]? =some (some c)->c.spot=none
 | 0,b,h=>h
 | n+1,b,h=>by
  simp only [deep]
  split
  case h_2=>exact h
  rename_i y hy
  split
  case h_2=>exact h
  rename_i b' hb'
  refine deep_spot hR n b' fun c hc=>?_
  have hi:b<ρ.length:=by rw [hR.len];exact (List.getElem?_eq_some_iff.1 hy).1
  have hbox:=hR.box b y _ hy (List.getElem?_eq_getElem hi)
  obtain ⟨e,r,t,o⟩:=y
  cases r with
  | vals l=>cases hb'
  | lst l=>
   cases hρ:ρ[b] with
   | none=>
    rw [hρ] at hbox
    have :l=[]:=hbox.1
    subst this;cases hb'
   | some a=>
    rw [hρ] at hbox
    obtain ⟨vs,hv⟩:=hbox.vals
    exact firstSlcL_spot l hv hb' hc
theorem pubW_sound {w0:World} {mu:Fm} {ρ:Env} {w:World} {K:List SV->List Box->Mem->Prop}:∀ (n:Nat) (ss:List SV) (bx:List Box) (E:Mem) (vs:List Value),
  pubW n ss bx E K->Rel w0 mu bx E ρ w->SV.denL ρ ss=some vs->∃ ss' bx' E',SV.denL ρ ss'=some vs/\Rel w0 mu bx' E' ρ w/\K ss' bx' E'
 | 0,_,_,_,_,h,_,_=>h.elim
 | n+1,ss,bx,E,vs,h,hR,hd=>by
  unfold pubW at h
  split at h
  ·exact ⟨ss,bx,E,hd,hR,h⟩
  ·rename_i b0 hb0
   obtain ⟨b,hbd⟩:∃ b,deep bx 4 b0=b:=⟨_,rfl⟩
   rw [hbd] at h
   simp only at h
   split at h
   case h_2=>exact h.elim
   rename_i y hy
   split at h
   case h_2=>exact h.elim
   rename_i cs hcs
   have hi:b<bx.length:=by
    rcases Nat.lt_or_ge b bx.length with h'|h'
    ·exact h'
    ·simp [List.getElem?_eq_none h'] at hy
   have hρ:∃ base,ρ[b]? =some base:=⟨_,List.getElem?_eq_getElem (by rw [hR.len];exact hi)⟩
   obtain ⟨base,hρ⟩:=hρ
   have hbox:=hR.box b y base hy hρ
   have hsp:∀ c,ρ[b]? =some (some c)->c.spot=none:=by
    rw [← hbd];exact deep_spot hR 4 b0 fun c hc=>firstSlcL_spot ss hd hb0 hc
   have hshare:=hR.share hy hsp
   have hval:=Row.val_den hcs
   have hnil:base=none->cs=[]:=by
    rintro rfl
    have h1:=hbox.1
    have h2:=hval []
    rw [show y.row.cells=[] from h1] at h2
    simp only [SV.denL,Option.some.injEq] at h2
    exact h2.symm
   let E':Mem:=fun v c=>E v c\/∃ off m len cap,off+m<=cs.length/\v=slcAs base off len cap/\c=(cs.drop off).take m
   have hrow:∀ off m len cap,off+m<=cs.length->RowAt w (slcAs base off len cap) ((cs.drop off).take m)/\
     ((cs.drop off).take m≠[]->∃ a,base=some a/\a.spot=none/\y.live=true):=by
    intro off m len cap hle
    cases base with
    | none=>
     have h0:cs=[]:=by
      have h1:=hbox.1
      have h2:=hval []
      rw [show y.row.cells=[] from h1] at h2
      simp only [SV.denL,Option.some.injEq] at h2
      exact h2.symm
     subst h0
     exact ⟨.inl (by simp),fun h=>by simp at h⟩
    | some a=>
     obtain ⟨h1,vs',h2,h3⟩:=(hbox.share fun c e=>hsp c (by rw [hρ,e])).isRow (hsp a hρ)
     have :vs'=cs:=by
      have:=hval ρ
      rw [show ({ y with own:=false }:Box).cells=y.row.cells from rfl,this] at h2
      cases h2;rfl
     subst this
     simp only [Bool.false_eq_true,if_false] at h3
     constructor
     ·right
      refine ⟨a.add off,len,cap,rfl,by rw [add_eq h1],fun i x hx=>?_⟩
      rw [add_eq h1]
      simp only
      have hi:i<m:=by
       rcases Nat.lt_or_ge i m with q|q
       ·exact q
       ·rw [List.getElem?_eq_none (by simp;omega)] at hx;cases hx
      rw [List.getElem?_take_of_lt hi,List.getElem?_drop] at hx
      rw [Nat.add_assoc]
      exact h3 _ _ hx
     ·intro hne
      refine ⟨a,rfl,h1,?_⟩
      simp only [Box.live,Bool.or_eq_true]
      right
      cases hc:y.cells with
      | nil=>
       have h2:=hval []
       rw [show y.row.cells=[] from hc] at h2
       simp only [SV.denL,Option.some.injEq] at h2
       subst h2;simp at hne
      | cons=>rfl
   have hR':Rel w0 mu (bx.set b { y with own:=false }) E' ρ w:=hshare.addE (fun v c g=>by
     rcases g with g|⟨off,m,len,cap,hle,rfl,rfl⟩
     ·exact hR.hold v c g
     ·exact (hrow off m len cap hle).1) (fun v c g hne=>by
     rcases g with g|⟨off,m,len,cap,hle,rfl,rfl⟩
     ·exact .inl g
     ·right
      obtain ⟨a,rfl,h1,hl⟩:=(hrow off m len cap hle).2 hne
      intro j b' c' g1 g2 g3
      have hj:b≠j:=by
       rintro rfl
       rw [List.getElem?_set_self hi] at g1
       simp only [Option.some.injEq] at g1;subst g1
       simp at g2
      rw [List.getElem?_set_ne hj] at g1
      have:=(hR.sep j b' c' g1 g2 g3).2.1 b y a hj hy hl hρ
      simp only [slcAs,Option.map_some,blk,add_eq h1]
      intro e;simp only [Option.some.injEq] at e;exact this e) (fun v c g hne=>by
     rcases g with g|⟨off,m,len,cap,hle,rfl,rfl⟩
     ·exact hR.src _ _ g hne
     ·obtain ⟨a,rfl,h1,hl⟩:=(hrow off m len cap hle).2 hne
      exact .inl ⟨a.block,by simp only [slcAs,Option.map_some,blk,add_eq h1],hR.bsrc b y a hy hl hρ⟩)
   exact pubW_sound n _ _ _ vs (h base E' (fun _ _ g=>.inl g) ⟨hnil,fun off m len cap hle=>.inr ⟨off,m,len,cap,hle,rfl,rfl⟩⟩) (hR'.subst hρ) (substL_den hρ ss hd)
section
variable {P:Program}
def NewE (w:World) (E E':Mem):Prop:=∀ v cs,E' v cs->cs≠[]->(∃ b,blk v=some b/\w.heap.size<=b)\/∃ v0 cs0,E v0 cs0/\cs0≠[]/\blk v=blk v0
def TabSem (P:Program) (f:FuncId) (args:List SV) (E:Mem) (K:SV->Mem->Prop):Prop:=
 EnterOK P f/\∃ vs,SV.valL args=some vs/\∀ w,Hold E w->Calls P f vs.toArray w fun e w'=>
  ∃ v s E',e= .returned v/\s.val=some v/\Keep [] w w'/\Mem.le E E'/\Hold E' w'/\NewE w E E'/\K s E'
def TabOK (P:Program) (tab:FuncId->List SV->Mem->(SV->Mem->Prop)->Prop):Prop:=∀ f args E K,tab f args E K->TabSem P f args E K
theorem TabSem.call {f:FuncId} {args:List SV} {bx:List Box} {E:Mem} {K:KT} (h:TabSem P f args E fun s E'=>K s bx E'):CallSem P f args bx E K:=by
 obtain ⟨hen,vs,hv,h⟩:=h
 intro w0 mu ρ w ws hR hd
 refine hen.reach ?_
 have :ws=vs:=by have:=SV.denL_of_val ρ args hv;rw [hd] at this;cases this;rfl
 subst this
 refine (h w hR.hold).mono fun e w' he=>?_
 obtain ⟨v,s,E',rfl,h1,h2,h3,h4,h5,h6⟩:=he
 refine ⟨v,s,bx,E',ρ,rfl,List.prefix_refl _,SV.den_of_val ρ s h1,?_,h6⟩
 refine (hR.grow h2).addE h4 (fun v cs g hne=>?_) (fun v cs g hne=>?_)
 ·rcases h5 v cs g hne with ⟨b,e1,e2⟩|⟨v0,cs0,g0,hne0,e⟩
  ·right
   intro i bb c b1 b2 b3 e3
   have:=(hR.box i bb _ b1 b3).lt (by simp [Box.live,b2])
   rw [e1] at e3;cases e3;omega
  ·right
   intro i bb c b1 b2 b3
   rw [e];exact (hR.sep i bb c b1 b2 b3).2.2 v0 cs0 g0 hne0
 ·rcases h5 v cs g hne with ⟨b,e1,e2⟩|⟨v0,cs0,g0,hne0,e⟩
  ·exact .inl ⟨b,e1,.inl (Nat.le_trans hR.keep.size e2)⟩
  ·rw [e];exact hR.src v0 cs0 g0 hne0
theorem TabSem.intro {f:FuncId} {args:List SV} {E:Mem} {K:SV->Mem->Prop} {vs:List Value} (hv:SV.valL args=some vs) (h:CallSemO none P f args [] E (pubK E K)):TabSem P f args E K:=by
 obtain ⟨hen,h⟩:=h
 refine ⟨hen,vs,hv,fun w hE=>?_⟩
 have hR:Rel w ⟨[],E,none,[]⟩ [] E [] w:=⟨Keep.refl _ _,rfl,by intro i b oa h;simp at h,by intro i b a h;simp at h,hE,by intro i b a h;simp at h,fun v cs g hne=>.inr ⟨v,cs,g,hne,rfl⟩⟩
 refine (h w ⟨[],E,none,[]⟩ [] w vs ⟨⟨rfl,trivial⟩,trivial⟩ hR (SV.denL_of_val [] args hv)).mono fun e w' he=>?_
 rcases he with he|⟨_,q,_⟩
 case inr=>cases q
 obtain ⟨v,s,bx',E',ρ',rfl,h1,h2,h3,h4⟩:=he
 unfold pubK at h4
 obtain ⟨ss,bx2,E2,h5,h6,h7,h9⟩:=pubW_sound 16 [s] bx' E' [v] h4 h3 (by simp only [SV.denL,h2])
 split at h9
 case h_2=>exact h9.elim
 rename_i r
 split at h9
 case h_2=>exact h9.elim
 rename_i x h8
 have hx:x=v:=by
  simp only [SV.denL,SV.den_of_val ρ' r h8,Option.some.injEq,List.cons.injEq,and_true] at h5
  exact h5
 subst hx
 refine ⟨x,r,E2,rfl,h8,h6.keep,h7,h6.hold,fun v cs g hne=>?_,h9⟩
 rcases h6.src v cs g hne with ⟨b,e1,e2⟩|e
 ·rcases e2 with e2|e2
  ·exact .inl ⟨b,e1,e2⟩
  ·cases e2
 ·exact .inr e
end
end Go.Sx
namespace Go.Sx
open Go.RowKit (Below)
theorem get_lt {α:Type} {l:List α} {i:Nat} {x:α} (h:l[i]? =some x):i<l.length:=by
 rcases Nat.lt_or_ge i l.length with h'|h'
 ·exact h'
 ·simp [List.getElem?_eq_none h'] at h
section
variable {w0 w:World} {mu:Fm} {bx:List Box} {E:Mem} {ρ:Env}
theorem Rel.kill (h:Rel w0 mu bx E ρ w) (b:Nat) (y:Box):Rel w0 mu (bx.set b (dead y)) E ρ w:=by
 have hd:(dead y).live=false:=rfl
 refine ⟨h.keep,by simpa using h.len,?_,?_,h.hold,?_,h.src⟩
 ·intro j b' oa h1 h2
  by_cases hj:b=j
  ·subst hj
   have hb:b<bx.length:=by simpa using get_lt h1
   rw [List.getElem?_set_self hb] at h1
   simp only [Option.some.injEq] at h1;subst h1
   have hbox:=h.box b _ oa (List.getElem?_eq_getElem hb) h2
   cases oa with
   | none=>exact ⟨rfl,rfl⟩
   | some a=>exact hbox.dead' rfl rfl
  ·rw [List.getElem?_set_ne hj] at h1
   exact h.box j b' oa h1 h2
 ·intro j b' a h1 ho h2
  by_cases hj:b=j
  ·subst hj
   have hb:b<bx.length:=by simpa using get_lt h1
   rw [List.getElem?_set_self hb] at h1
   simp only [Option.some.injEq] at h1;subst h1
   cases ho
  ·rw [List.getElem?_set_ne hj] at h1
   obtain ⟨t1,t2,t3⟩:=h.sep j b' a h1 ho h2
   refine ⟨t1,?_,t3⟩
   intro k b3 a3 hkj hk1 hl3 hk2
   by_cases hk:b=k
   ·subst hk
    have hb:b<bx.length:=by simpa using get_lt hk1
    rw [List.getElem?_set_self hb] at hk1
    simp only [Option.some.injEq] at hk1;subst hk1
    cases hl3
   ·rw [List.getElem?_set_ne hk] at hk1
    exact t2 k b3 a3 hkj hk1 hl3 hk2
 ·intro j b' a h1 hl h2
  by_cases hj:b=j
  ·subst hj
   have hb:b<bx.length:=by simpa using get_lt h1
   rw [List.getElem?_set_self hb] at h1
   simp only [Option.some.injEq] at h1;subst h1
   cases hl
  ·rw [List.getElem?_set_ne hj] at h1
   exact h.bsrc j b' a h1 hl h2
theorem getElem?_snoc {α:Type} {l:List α} {x y:α} {i:Nat} (h:(l++[x])[i]? =some y):(i<l.length/\l[i]? =some y)\/(i=l.length/\y=x):=by
 by_cases hi:i<l.length
 ·rw [List.getElem?_append_left hi] at h;exact .inl ⟨hi,h⟩
 ·have hlt:=get_lt h
  simp only [List.length_append,List.length_singleton] at hlt
  have :i=l.length:=by omega
  subst this
  rw [List.getElem?_append_right (Nat.le_refl _),Nat.sub_self] at h
  simp only [List.getElem?_cons_zero,Option.some.injEq] at h
  exact .inr ⟨rfl,h.symm⟩
theorem Rel.addBox (h:Rel w0 mu bx E ρ w) (y:Box) (oa:Option Addr) (hb:∀ ρ',ρ<+:ρ'->BoxAt w ρ' oa y)
  (hs:∀ a,oa=some a->(w0.heap.size<=a.block\/a.block∈mu.mu)/\
   (∀ (j:Nat) b' a',bx[j]? =some b'->b'.live=true->ρ[j]? =some (some a')->a'.block≠a.block)/\(∀ v cs,E v cs->cs≠[]->blk v≠some a.block)):
  Rel w0 mu (bx++[y]) E (ρ++[oa]) w:=by
 have hp:ρ<+:ρ++[oa]:=List.prefix_append _ _
 have hl:=h.len
 refine ⟨h.keep,by simp [hl],?_,?_,h.hold,?_,h.src⟩
 ·intro i b o h1 h2
  rcases getElem?_snoc h1 with ⟨hi,h1⟩|⟨rfl,rfl⟩
  ·rcases getElem?_snoc h2 with ⟨_,h2⟩|⟨rfl,rfl⟩
   ·exact (h.box i b o h1 h2).mono hp
   ·omega
  ·rcases getElem?_snoc h2 with ⟨h2,_⟩|⟨_,rfl⟩
   ·omega
   ·exact hb _ hp
 ·intro i b a h1 ho h2
  rcases getElem?_snoc h1 with ⟨hi,h1⟩|⟨rfl,rfl⟩
  ·rcases getElem?_snoc h2 with ⟨_,h2⟩|⟨rfl,_⟩
   ·obtain ⟨t1,t2,t3⟩:=h.sep i b a h1 ho h2
    refine ⟨t1,?_,t3⟩
    intro j b' a' hji hj1 hlv hj2
    rcases getElem?_snoc hj1 with ⟨_,hj1⟩|⟨rfl,rfl⟩
    ·rcases getElem?_snoc hj2 with ⟨_,hj2⟩|⟨rfl,_⟩
     ·exact t2 j b' a' hji hj1 hlv hj2
     ·omega
    ·rcases getElem?_snoc hj2 with ⟨hj2,_⟩|⟨_,hj2⟩
     ·omega
     ·exact Ne.symm ((hs a' hj2.symm).2.1 i b a (by rwa [List.getElem?_append_left hi] at h1) (by simp [Box.live,ho]) h2)
   ·omega
  ·rcases getElem?_snoc h2 with ⟨h2,_⟩|⟨_,h2⟩
   ·omega
   ·obtain ⟨t1,t2,t3⟩:=hs a h2.symm
    refine ⟨t1,?_,t3⟩
    intro j b' a' hji hj1 hlv hj2
    rcases getElem?_snoc hj1 with ⟨hj,hj1⟩|⟨rfl,rfl⟩
    ·rcases getElem?_snoc hj2 with ⟨_,hj2⟩|⟨rfl,_⟩
     ·exact t2 j b' a' hj1 hlv hj2
     ·omega
    ·exact absurd rfl hji
 ·intro i b a h1 hlv h2
  rcases getElem?_snoc h1 with ⟨hi,h1⟩|⟨rfl,rfl⟩
  ·rcases getElem?_snoc h2 with ⟨_,h2⟩|⟨rfl,_⟩
   ·exact h.bsrc i b a h1 hlv h2
   ·omega
  ·rcases getElem?_snoc h2 with ⟨h2,_⟩|⟨_,h2⟩
   ·omega
   ·exact (hs a h2.symm).1
theorem Rel.write (h:Rel w0 mu bx E ρ w) {g:Nat} (hg:w0.heap.size<=g\/g∈mu.mu)
  (hb:∀ (j:Nat) b' a',bx[j]? =some b'->b'.live=true->ρ[j]? =some (some a')->a'.block≠g) (hE:∀ v cs,E v cs->cs≠[]->blk v≠some g) (cs:Array Value):Rel w0 mu bx E ρ (w.setRow g cs):=by
 refine ⟨h.keep.setRow hg _,h.len,?_,h.sep,?_,h.bsrc,h.src⟩
 ·intro j b' oa h1 h2
  refine (h.box j b' oa h1 h2).of_block fun a ha hlive=>?_
  subst ha
  exact setRow_other w g _ _ (hb j b' a h1 hlive h2)
 ·intro v cs hv
  exact (h.hold v cs hv).of_block fun bb hne hbb=>setRow_other w g bb _ (by
   rintro rfl
   exact hE v cs hv hne hbb)
end
section
variable {P:Program} {w0 w:World} {mu:Fm} {bx:List Box} {E:Mem} {ρ:Env}
theorem firstCells_addr {z m:Nat} {a:Addr} {len cap:Nat} {news:List Value} {w':World} (hl:news.length=m*z) (h:∀ j u,news[j]? =some u->w'.cell? (a.add j)=some u):
  (Builtin.firstCells z m (.slice (some a) len cap)).run P w'= .ok news.toArray w':=run_firstCells_some w' z m a len cap news hl h
theorem cell_heap {w w':World} (h:w'.heap=w.heap) (a:Addr):w'.cell? a=w.cell? a:=by unfold World.cell?;rw [h]
structure Src (P:Program) (w:World) (ρ:Env) (z:Nat) (xv:Value) (m:Nat) (row:Row) (news:List Value):Prop where
 den:SV.denL ρ row.cells=some news
 len:news.length=m*z
 one:∀ u∈news,u.oneCell'=true
 lenOf:∀ w,(Builtin.lenOf xv).run P w= .ok m w
 cells:∀ k,k<=m->∀ w',w'.heap=w.heap->(Builtin.firstCells z k xv).run P w'= .ok (news.take (k*z)).toArray w'
theorem Src.of_cells {z m cap:Nat} {a:Addr} {row:Row} {news:List Value} (hd:SV.denL ρ row.cells=some news) (hl:news.length=m*z) (h1:∀ u∈news,u.oneCell'=true)
  (hc:∀ j u,news[j]? =some u->w.cell? (a.add j)=some u):Src P w ρ z (.slice (some a) m cap) m row news:=
 ⟨hd,hl,h1,fun w=>by simp [Builtin.lenOf],fun k hk w' hw=>by
  refine firstCells_addr ?_ ?_
  ·rw [List.length_take,hl,Nat.min_eq_left (Nat.mul_le_mul_right _ hk)]
  ·intro j u hu
   rw [cell_heap hw]
   have hj:j<k*z:=by
    have:=get_lt hu
    rw [List.length_take] at this;omega
   rw [List.getElem?_take_of_lt hj] at hu
   exact hc j u hu⟩
theorem Src.of_none {z m cap:Nat} {row:Row} (hd:SV.denL ρ row.cells=some []) (hm:m*z=0):Src P w ρ z (.slice none m cap) m row []:=
 ⟨hd,by simp [hm],by simp,fun w=>by simp [Builtin.lenOf],fun k hk w' hw=>by simp [Builtin.firstCells]⟩
theorem srcW_sound {z:Nat} {x:SV} {K:Nat->Row->Prop} (h:srcW z x bx E K) (hR:Rel w0 mu bx E ρ w) {xv:Value} (hx:x.den ρ=some xv):
  ∃ m row news,K m row/\Src P w ρ z xv m row news:=by
 unfold srcW at h
 split at h
 ·rename_i base m cap
  simp only [SV.den,Option.some.injEq] at hx;subst hx
  obtain ⟨cs,hE,hle,h1,h⟩:=h
  refine ⟨m,_,cs.take (m*z),h,?_⟩
  have hrow:RowAt w (.slice base m cap) cs:=by
   rcases hE with rfl|hE
   ·exact .inl rfl
   ·exact hR.hold _ _ hE
  have hd:SV.denL ρ (Row.cells (.vals (cs.take (m*z))))=some (cs.take (m*z)):=denL_raw _
  have hlen:(cs.take (m*z)).length=m*z:=by rw [List.length_take];omega
  have hone:∀ u∈cs.take (m*z),u.oneCell'=true:=fun u hu=>h1 u (List.mem_of_mem_take hu)
  cases base with
  | none=>
   have hnil:cs=[]:=by
    rcases hrow with hrow|⟨a,_,_,e,_⟩
    ·exact hrow
    ·cases e
   subst hnil
   simp only [List.take_nil] at hd ⊢
   exact Src.of_none hd (by simp only [List.length_nil] at hle;omega)
  | some a=>
   refine Src.of_cells hd hlen hone ?_
   intro j u hu
   rcases hrow with rfl|⟨a',_,_,e,hs,hc⟩
   ·simp at hu
   ·cases e
    have hj:=get_lt hu
    rw [List.length_take] at hj
    rw [List.getElem?_take_of_lt (by omega)] at hu
    rw [add_eq hs];exact hc j u hu
 ·rename_i b off m cap
  split at h
  case h_2=>exact h.elim
  rename_i y hy
  have hi:=get_lt hy
  have hρi:b<ρ.length:=by rw [hR.len];exact hi
  -- the box's cells
  have key:∀ cells row,y.cells=cells->off+m*z<=cells.length->row.cells=(cells.drop off).take (m*z)->(∀ vs,SV.denL ρ cells=some vs->∀ u∈vs,u.oneCell'=true)->∃ news,Src P w ρ z xv m row news:=by
   intro cells row hcl hle hrow hone
   simp only [SV.den] at hx
   rcases slcDen_some hx with ⟨c,hc,rfl,hsp0⟩|⟨hn,rfl,rfl,rfl,rfl⟩
   ·obtain ⟨h1,vs,h2,h3⟩:=hR.read' hy hc hsp0
    rw [hcl] at h2
    have hvl:=denL_length h2
    have hd:=denL_take (denL_drop h2 off) (m*z)
    refine ⟨(vs.drop off).take (m*z),Src.of_cells (by rw [hrow];exact hd) (by simp only [List.length_take,List.length_drop];omega) (fun u hu=>hone vs h2 u (List.mem_of_mem_drop (List.mem_of_mem_take hu))) ?_⟩
    intro j u hu
    have hj:=get_lt hu
    simp only [List.length_take,List.length_drop] at hj
    rw [List.getElem?_take_of_lt (by omega),List.getElem?_drop] at hu
    rw [add_add h1];exact h3 _ _ hu
   ·refine ⟨[],Src.of_none ?_ (by simp)⟩
    rw [hrow];simp [SV.denL]
  split at h
  ·rename_i cells hcl
   split at h
   case isFalse=>exact h.elim
   rename_i hc
   obtain ⟨news,hs⟩:=key cells (.lst ((cells.drop off).take (m*z))) (by simp [Box.cells,hcl,Row.cells]) hc.1 rfl (fun vs hd=>all_one_den hc.2 hd)
   exact ⟨m,_,news,h,hs⟩
  ·rename_i vs hcl
   obtain ⟨h1,h2,h⟩:=h
   obtain ⟨news,hs⟩:=key (vs.map .raw) (.vals ((vs.drop off).take (m*z))) (by simp [Box.cells,hcl,Row.cells]) (by simpa using h1) (by simp [Row.cells,List.map_take,List.map_drop]) (fun us hd=>by
    rw [denL_raw] at hd;cases hd;exact h2)
   exact ⟨m,_,news,h,hs⟩
 ·exact h.elim
theorem rowTake_den {n:Nat} {r:Row} {vs:List Value} (h:SV.denL ρ r.cells=some vs):SV.denL ρ (rowTake n r).cells=some (vs.take n):=by
 have e:(rowTake n r).cells=r.cells.take n:=by cases r<;>simp [rowTake,Row.cells,List.map_take]
 rw [e];exact denL_take h n
theorem rowApp_sound {a b:Row} {K:Row->Prop} {us vs:List Value} (h:rowApp a b K) (ha:SV.denL ρ a.cells=some us) (hb:SV.denL ρ b.cells=some vs):∃ r,K r/\SV.denL ρ r.cells=some (us++vs):=by
 unfold rowApp at h
 split at h
 ·exact ⟨_,h,denL_append ha hb⟩
 ·refine ⟨_,h,?_⟩
  have:=denL_append ha hb
  simpa [Row.cells,List.map_append] using this
 ·split at h
  case h_2=>exact h.elim
  rename_i hl
  refine ⟨_,h,?_⟩
  have h1:=SV.denL_of_val ρ _ hl
  simp only [Row.cells] at ha hb ⊢
  rw [h1] at ha;cases ha
  have:=denL_append (denL_raw (ρ:=ρ) us) hb
  simpa [List.map_append] using this
 ·split at h
  case h_2=>exact h.elim
  rename_i hl
  refine ⟨_,h,?_⟩
  have h1:=SV.denL_of_val ρ _ hl
  simp only [Row.cells] at ha hb ⊢
  rw [h1] at hb;cases hb
  have:=denL_append ha (denL_raw (ρ:=ρ) vs)
  simpa [List.map_append] using this
theorem run_append' {t u ty e f:TypeId} {i:TypeInfo} {zv:Value} (ht:P.underlying t=some (.slice e)) (hu:P.underlying u=some (.slice f)) (hi:P.info? e=some i) (hz:i.zero=some zv)
  {base:Option Addr} {n cap m:Nat} {xv:Value} {row:Row} {olds news:List Value} (hx:Src P w ρ i.size xv m row news)
  (ho:∀ w',w'.heap=w.heap->(Builtin.firstCells i.size n (.slice base n cap)).run P w'= .ok olds.toArray w') (hb:(n+m)*max i.bytes 1<=140737488355328):
  (n+m<=cap->(base=none->(Builtin.append_ #[t,u] ty #[.slice base n cap,xv]).run P w= .ok (.slice none (n+m) cap) w)/\
   (∀ g cur e',base=some ⟨g,0,none⟩->w.heap[g]? =some (.cells cur e' (0,0))->n*i.size+news.length<=cur.size->
    (Builtin.append_ #[t,u] ty #[.slice base n cap,xv]).run P w= .ok (.slice (some ⟨g,0,none⟩) (n+m) cap) (w.setRow g (cur.toList.take (n*i.size)++news++cur.toList.drop (n*i.size+news.length)).toArray)))/\
  (cap<n+m->∃ C,n+m<=C/\(Builtin.append_ #[t,u] ty #[.slice base n cap,xv]).run P w= .ok (.slice (some ⟨w.heap.size,0,none⟩) (n+m) C)
   (w.drew.alloc (.cells ((olds++news)++(Builtin.zeroCells zv.cells (C-(n+m))).toList).toArray e))):=by
 have harr:∀ (a b:List Value) (c:Array Value),a.toArray++(b.toArray++c)=(a++(b++c.toList)).toArray:=fun a b c=>by apply Array.ext';simp
 have h1:n+m<=(n+m)*max i.bytes 1:=Nat.le_mul_of_pos_right _ (by omega)
 have h2:(n+m)*i.bytes<=(n+m)*max i.bytes 1:=Nat.mul_le_mul_left _ (by omega)
 have hnews:∀ w',w'.heap=w.heap->(Builtin.firstCells i.size m xv).run P w'= .ok news.toArray w':=fun w' hw=>by
  have:=hx.cells m (Nat.le_refl _) w' hw
  rwa [List.take_of_length_le (by rw [hx.len];exact Nat.le_refl _)] at this
 constructor
 ·intro hroom
  constructor
  ·rintro rfl
   simp [Builtin.append_,run_underlying ht,run_underlying hu,sizeOf,typeInfo,hi,hx.lenOf,hroom,hnews w rfl]
  ·rintro g cur e' rfl hg hfit
   have hst:=run_storeCells_at (P:=P) g (n*i.size) e' news 0 cur w hg (by simpa using hfit) hx.one
   simp only [Nat.add_zero] at hst
   simp [Builtin.append_,run_underlying ht,run_underlying hu,sizeOf,typeInfo,hi,hx.lenOf,hroom,hnews w rfl,Addr.add_lit,hst]
 ·intro hg
  have hn:¬ (n+m<=cap):=by omega
  have h63':¬ (9223372036854775807<((n:Int)+(m:Int))):=by omega
  have hfit:=growslice_fits (bytes:=i.bytes) hg (by omega)
  have h48':¬ (281474976710656<Builtin.nextslicecap (n+m) cap*i.bytes):=by omega
  refine ⟨grownCap w (n+m) cap e,grownCap_ge w _ _ e,?_⟩
  simp [Builtin.append_,run_underlying ht,run_underlying hu,sizeOf,typeInfo,zeroValue,hi,hz,hx.lenOf,hn,h63',h48',Question.forced,ho w.drew rfl,hnews w.drew rfl,newRow,grownCap,harr]
theorem appendC_sound {t u ty e f:TypeId} (ht:P.underlying t=some (.slice e)) (hu:P.underlying u=some (.slice f)) {s:SV} {K:KT} {i:TypeInfo} {zv:Value} (hi:P.info? e=some i) (hz:i.zero=some zv)
  (hzs:zv.cells.size=i.size) (_:0<i.size) {m:Nat} {new:Row} {news:List Value} {xv:Value} {sm:Bool} (h:appendC sm e i s m new bx E K) (hsrc:Src P w ρ i.size xv m new news) (hR:Rel w0 mu bx E ρ w) {sv:Value} (hs:s.den ρ=some sv):
  ∃ v w' s' bx' ρ',(Builtin.append_ #[t,u] ty #[sv,xv]).run P w= .ok v w'/\ρ<+:ρ'/\s'.den ρ'=some v/\Rel w0 mu bx' E ρ' w'/\K s' bx' E:=by
 unfold appendC at h
 have hdrew:Rel w0 mu bx E ρ w.drew:=hR.drew _
 split at h
 ·-- nil
  rename_i base n cap
  simp only [SV.den,Option.some.injEq] at hs;subst hs
  cases hbn:base.isNone with
  | false=>
   rw [hbn] at h
   simp only [cond] at h
   obtain ⟨n',old,olds,h,hso⟩:=srcW_sound (P:=P) h hR (xv:=.slice base n cap) rfl
   obtain ⟨hgt,h⟩:=req_elim h
   obtain ⟨hb,h⟩:=req_elim h
   have hnn:n'=n:=by have:=hso.lenOf w;simpa [Builtin.lenOf] using this.symm
   subst hnn
   obtain ⟨row,h,hrow⟩:=rowApp_sound h hso.den hsrc.den
   have hrun:=run_append' (ty:=ty) (base:=base) (n:=n') (cap:=cap) (olds:=olds) ht hu hi hz hsrc (fun w' hw=>by
    have:=hso.cells n' (Nat.le_refl _) w' hw
    rwa [List.take_of_length_le (by rw [hso.len];exact Nat.le_refl _)] at this) hb
   obtain ⟨C,hC,hr⟩:=hrun.2 hgt
   have hR':=hdrew.alloc e row _ (Builtin.zeroCells zv.cells (C-(n'+m))).toList (C*i.size) hrow (by
    simp only [List.length_append,hso.len,hsrc.len,Array.length_toList,size_zeroCells,hzs,← Nat.add_mul]
    congr 1;omega)
   refine ⟨_,_,_,_,_,hr,List.prefix_append _ _,?_,hR',h C _ hC (Nat.le_refl _)⟩
   simp only [SV.den,slcDen,← hR.len,List.getElem?_append_right (Nat.le_refl _),Nat.sub_self,List.getElem?_cons_zero]
   rfl
  | true=>
  rw [hbn] at h
  simp only [cond] at h
  obtain rfl:base=none:=by cases base with |none=>rfl|some x=>cases hbn
  split at h
  case isFalse=>exact h.elim
  rename_i hn
  obtain ⟨rfl,rfl⟩:=hn
  obtain ⟨hb,h⟩:=req_elim h
  have hrun:=run_append' (ty:=ty) (base:=none) (n:=0) (cap:=0) (olds:=[]) ht hu hi hz hsrc (fun w' hw=>by simp [Builtin.firstCells]) (by simpa using hb)
  simp only [Nat.zero_add,List.nil_append] at hrun
  by_cases hroom:m<=0
  ·obtain rfl:m=0:=by omega
   have hnil:news=[]:=by have:=hsrc.len;simpa using this
   subst hnil
   have hcn:new.cells=[]:=by
    have:=denL_length hsrc.den
    exact List.eq_nil_of_length_eq_zero this.symm
   refine ⟨_,w,_,_,ρ++[none],by simpa using (hrun.1 (Nat.le_refl _)).1,List.prefix_append _ _,?_,hR.addBox ⟨e,new,0,true⟩ none (fun ρ' _=>⟨hcn,rfl⟩) (fun a ha=>by cases ha),h 0 0 (Nat.le_refl _) (by simp)⟩
   simp [SV.den,slcDen,← hR.len]
  ·obtain ⟨C,hC,hr⟩:=hrun.2 (by omega)
   have hR':=hdrew.alloc e new news (Builtin.zeroCells zv.cells (C-m)).toList (C*i.size) hsrc.den (by
    simp only [List.length_append,hsrc.len,Array.length_toList,size_zeroCells,hzs,← Nat.add_mul]
    congr 1;omega)
   refine ⟨_,_,_,_,_,hr,List.prefix_append _ _,?_,hR',h C _ hC (Nat.le_refl _)⟩
   simp only [SV.den,slcDen,← hR.len,List.getElem?_append_right (Nat.le_refl _),Nat.sub_self,List.getElem?_cons_zero]
   rfl
 ·rename_i b off n cap
  split at h
  case isFalse=>exact h.elim
  rename_i hof
  subst hof
  split at h
  case h_2=>exact h.elim
  rename_i e' r tot hbx
  split at h
  case isFalse=>exact h.elim
  rename_i he
  subst he
  obtain ⟨hlen,hcap,hnc,h⟩:=h
  obtain ⟨hb,h⟩:=req_elim h
  have hi':=get_lt hbx
  simp only [SV.den] at hs
  -- what the old row holds
  have hkill:=hR.kill b ⟨e',r,tot,true⟩
  rcases slcDen_some hs with ⟨c,hc,rfl,hsp0⟩|⟨hn,_,rfl,rfl,rfl⟩
  ·obtain ⟨hsp,olds,hold,h3⟩:=(hR.box b _ _ hbx hc).isRow hsp0
   simp only [if_true] at h3
   obtain ⟨hoff,junk,hheap,htot⟩:=h3
   have hcg:c=⟨c.block,0,none⟩:=by cases c;simp only at hsp hoff;subst hsp;subst hoff;rfl
   have hc0:c.add 0=c:=by rw [add_eq hsp];simp only [Nat.add_zero];rw [← hsp]
   rw [hc0]
   have holdl:olds.length=r.cells.length:=denL_length hold
   obtain ⟨row,h,hrow⟩:=rowApp_sound h (rowTake_den (n:=n*i.size) hold) hsrc.den
   obtain ⟨t1,t2,t3⟩:=hR.sep b _ c hbx rfl hc
   have hrun:=run_append' (ty:=ty) (base:=some c) (n:=n) (cap:=cap) (olds:=olds.take (n*i.size)) ht hu hi hz hsrc (fun w' hw=>by
    refine firstCells_addr (by rw [List.length_take];omega) ?_
    intro j u hu
    have hj:=get_lt hu
    rw [List.length_take] at hj
    rw [List.getElem?_take_of_lt (by omega)] at hu
    rw [cell_heap hw,add_eq hsp,cell_of_row w c.block (c.off+j) _ _ _ hheap,hoff,Nat.zero_add]
    simp [List.getElem?_append_left (show j<olds.length by omega),hu]) hb
   by_cases hroom:n+m<=cap
   ·-- in place
    have hfit:n*i.size+news.length<=(olds++junk).toArray.size:=by
     rw [List.size_toArray,htot,hsrc.len,← Nat.add_mul]
     exact Nat.le_trans (Nat.mul_le_mul_right _ hroom) hcap
    have hr:=(hrun.1 hroom).2 c.block _ _ (by rw [← hcg]) hheap hfit
    have hw:=hkill.write (g:=c.block) t1 (fun j b' a' hj1 hl hj2=>by
     by_cases hj:b=j
     ·subst hj
      rw [List.getElem?_set_self hi'] at hj1
      simp only [Option.some.injEq] at hj1;subst hj1;cases hl
     ·rw [List.getElem?_set_ne hj] at hj1
      exact t2 j b' a' (Ne.symm hj) hj1 hl hj2) t3 ((olds++junk).toArray.toList.take (n*i.size)++news++(olds++junk).toArray.toList.drop (n*i.size+news.length)).toArray
    have hadd:=hw.addBox ⟨e',row,tot,true⟩ (some c) (fun ρ' hp=>.inl ⟨hsp,_,SV.denL_mono hp _ hrow,by
     simp only [if_true]
     refine ⟨hoff,(olds++junk).drop (n*i.size+news.length),?_,?_⟩
     ·rw [setRow_heap w c.block _ _ _ (0,0) hheap]
      simp only [List.append_assoc]
      rw [List.take_append_of_le_length (by omega)]
     ·simp only [List.size_toArray] at hfit
      simp only [List.length_append,List.length_take,List.length_drop] at htot hfit ⊢
      omega⟩) (fun a ha=>by
     cases ha
     refine ⟨t1,?_,t3⟩
     intro j b' a' hj1 hl hj2
     by_cases hj:b=j
     ·subst hj
      rw [List.getElem?_set_self hi'] at hj1
      simp only [Option.some.injEq] at hj1;subst hj1;cases hl
     ·rw [List.getElem?_set_ne hj] at hj1
      exact t2 j b' a' (Ne.symm hj) hj1 hl hj2)
    refine ⟨_,_,_,_,_,hr,List.prefix_append _ _,?_,hadd,moreW_elim (h cap tot hroom hcap) (Nat.le_refl _)⟩
    simp only [SV.den,slcDen,← hR.len,List.getElem?_append_right (Nat.le_refl _),Nat.sub_self,List.getElem?_cons_zero]
    rw [hc0,← hcg,if_pos hsp]
   ·obtain ⟨C,hC,hr⟩:=hrun.2 (by omega)
    have hR':=(Rel.drew hkill (w.drawn+1)).alloc e' row _ (Builtin.zeroCells zv.cells (C-(n+m))).toList (C*i.size) hrow (by
     simp only [List.length_append,List.length_take,hsrc.len,Array.length_toList,size_zeroCells,hzs]
     rw [Nat.min_eq_left (by omega),← Nat.add_mul,← Nat.add_mul]
     congr 1;omega)
    refine ⟨_,_,_,_,_,hr,List.prefix_append _ _,?_,hR',moreW_elim (h C _ hC (Nat.le_refl _)) (by omega)⟩
    simp only [SV.den,slcDen,← hR.len,List.getElem?_append_right (Nat.le_refl _),Nat.sub_self,List.getElem?_cons_zero]
    rfl
  ·-- a nil slice in a box
   have hbox:=hR.box b _ _ hbx hn
   have hr0:r.cells=[]:=hbox.1
   have ht0:tot=0:=hbox.2
   subst ht0
   have hold:SV.denL ρ r.cells=some []:=by rw [hr0];rfl
   obtain ⟨row,h,hrow⟩:=rowApp_sound h (rowTake_den (n:=0*i.size) hold) hsrc.den
   simp only [List.take_nil,List.nil_append] at hrow
   have hrun:=run_append' (ty:=ty) (base:=none) (n:=0) (cap:=0) (olds:=[]) ht hu hi hz hsrc (fun w' hw=>by simp [Builtin.firstCells]) (by simpa using hb)
   simp only [Nat.zero_add,List.nil_append] at hrun h
   by_cases hroom:m<=0
   ·obtain rfl:m=0:=by omega
    have hnil:news=[]:=by have:=hsrc.len;simpa using this
    subst hnil
    have hcn:row.cells=[]:=by
     have:=denL_length hrow
     exact List.eq_nil_of_length_eq_zero this.symm
    refine ⟨_,w,_,_,ρ++[none],by simpa using (hrun.1 (Nat.le_refl _)).1,List.prefix_append _ _,?_,hkill.addBox ⟨e',row,0,true⟩ none (fun ρ' _=>⟨hcn,rfl⟩) (fun a ha=>by cases ha),moreW_elim (h 0 0 (Nat.le_refl _) (by simp)) (Nat.le_refl _)⟩
    simp [SV.den,slcDen,← hR.len]
   ·obtain ⟨C,hC,hr⟩:=hrun.2 (by omega)
    have hR':=(Rel.drew hkill (w.drawn+1)).alloc e' row news (Builtin.zeroCells zv.cells (C-m)).toList (C*i.size) hrow (by
     simp only [List.length_append,hsrc.len,Array.length_toList,size_zeroCells,hzs,← Nat.add_mul]
     congr 1;omega)
    refine ⟨_,_,_,_,_,hr,List.prefix_append _ _,?_,hR',moreW_elim (h C _ hC (Nat.le_refl _)) (by omega)⟩
    simp only [SV.den,slcDen,← hR.len,List.getElem?_append_right (Nat.le_refl _),Nat.sub_self,List.getElem?_cons_zero]
    rfl
 ·exact h.elim
theorem appendW_sound {t u ty e f:TypeId} (ht:P.underlying t=some (.slice e)) (hu:P.underlying u=some (.slice f)) {s x:SV} {K:KT} (h:appendW P e s x bx E K) (hR:Rel w0 mu bx E ρ w) {sv xv:Value} (hs:s.den ρ=some sv) (hx:x.den ρ=some xv):
  ∃ v w' s' bx' E' ρ',(Builtin.append_ #[t,u] ty #[sv,xv]).run P w= .ok v w'/\ρ<+:ρ'/\s'.den ρ'=some v/\Rel w0 mu bx' E' ρ' w'/\K s' bx' E':=by
 unfold appendW at h
 split at h
 case h_2=>exact h.elim
 rename_i i hi
 split at h
 case h_2=>exact h.elim
 rename_i zv hz
 split at h
 case isFalse=>exact h.elim
 rename_i hc
 obtain ⟨hzs,hpos⟩:=hc
 have h0:=srcW_sound (P:=P) h hR hx
 clear h
 obtain ⟨m,new,news,h,hsrc⟩:=h0
 have fin:∀ {row:Row} {bx2:List Box} {E2:Mem},appendC (sameRow s x) e i s m row bx2 E2 K->Src P w ρ i.size xv m row news->Rel w0 mu bx2 E2 ρ w->
   ∃ v w' s' bx' E' ρ',(Builtin.append_ #[t,u] ty #[sv,xv]).run P w= .ok v w'/\ρ<+:ρ'/\s'.den ρ'=some v/\Rel w0 mu bx' E' ρ' w'/\K s' bx' E':=by
  intro row bx2 E2 h1 h2 h3
  obtain ⟨v,w',s',bx',ρ',q⟩:=appendC_sound (ty:=ty) ht hu hi hz hzs hpos h1 h2 h3 hs
  exact ⟨v,w',s',bx',E2,ρ',q⟩
 cases hr:rawRow s bx with
 | false=>rw [hr] at h;exact fin h hsrc hR
 | true=>
  rw [hr] at h
  simp only [cond] at h
  split at h
  ·rename_i l
   split at h
   ·exact fin h hsrc hR
   ·obtain ⟨l',bx2,E2,h1,h2,h3⟩:=pubW_sound 8 l bx E news h hR hsrc.den
    exact fin h3 { hsrc with den:=h1 } h2
  ·exact fin h hsrc hR
theorem copy_own {t u ty e f:TypeId} (ht:P.underlying t=some (.slice e)) (_hu:P.underlying u=some (.slice f)) {i:TypeInfo} (hi:P.info? e=some i) (hR:Rel w0 mu bx E ρ w) {b off n cap m:Nat} {e':TypeId} {r row:Row} {tot:Nat} {sv xv:Value} {new:Row} {news:List Value}
  (hbx:bx[b]? =some ⟨e',r,tot,true⟩) (hs:slcDen ρ b off n cap=some sv) (hsrc:Src P w ρ i.size xv m new news) (hle:off+n*i.size<=r.cells.length)
  (hrow:∀ vs,SV.denL ρ r.cells=some vs->SV.denL ρ row.cells=some (vs.take off++news.take (min m n*i.size)++vs.drop (off+(news.take (min m n*i.size)).length))):
  ∃ w',(Builtin.copy_ #[t,u] ty #[sv,xv]).run P w= .ok (.int .i64 (min m n:Nat)) w'/\Rel w0 mu (bx.set b ⟨e',row,tot,true⟩) E ρ w':=by
 have hnews:∀ k,k<=m->(Builtin.firstCells i.size k xv).run P w= .ok (news.take (k*i.size)).toArray w:=fun k hk=>hsrc.cells k hk w rfl
 have hmin:(Builtin.firstCells i.size (min m n) xv).run P w= .ok (news.take (min m n*i.size)).toArray w:=hnews _ (Nat.min_le_left _ _)
 rcases slcDen_some hs with ⟨c,hc,rfl,hsp0⟩|⟨hn,rfl,rfl,rfl,rfl⟩
 ·obtain ⟨hsp,olds,hold,h3⟩:=(hR.box b _ _ hbx hc).isRow hsp0
  simp only [if_true] at h3
  obtain ⟨hoff,junk,hheap,htot⟩:=h3
  have hcg:c=⟨c.block,0,none⟩:=by cases c;simp only at hsp hoff;subst hsp;subst hoff;rfl
  have holdl:olds.length=r.cells.length:=denL_length hold
  have hnl:(news.take (min m n*i.size)).length=min m n*i.size:=by
   rw [List.length_take,hsrc.len,Nat.min_eq_left (Nat.mul_le_mul_right _ (Nat.min_le_left _ _))]
  have hmul:min m n*i.size<=n*i.size:=Nat.mul_le_mul_right _ (Nat.min_le_right _ _)
  have hst:=run_storeCells_at (P:=P) c.block off e' (news.take (min m n*i.size)) 0 _ w hheap (by
   simp only [List.size_toArray,List.length_append];omega) (fun v hv=>hsrc.one v (List.mem_of_mem_take hv))
  simp only [Nat.add_zero] at hst
  have hadd:c.add off=⟨c.block,off,none⟩:=by rw [add_eq hsp,hoff,Nat.zero_add]
  have hset:=hR.setRow (r:=row) (vs:=olds.take off++news.take (min m n*i.size)++olds.drop (off+(news.take (min m n*i.size)).length)) (junk:=junk) hbx rfl (by rw [← hcg];exact hc) (hrow olds hold) (by
   simp only [List.length_append,List.length_drop] at htot ⊢
   rw [List.length_take]
   omega)
  refine ⟨_,?_,hset⟩
  rw [hadd]
  have hr:(Builtin.copy_ #[t,u] ty #[.slice (some ⟨c.block,off,none⟩) n cap,xv]).run P w= .ok (.int .i64 (min m n:Nat)) (w.setRow c.block ((olds++junk).toArray.toList.take off++news.take (min m n*i.size)++(olds++junk).toArray.toList.drop (off+(news.take (min m n*i.size)).length)).toArray):=by
   have e1:Nat.min m n=min m n:=rfl
   simp [Builtin.copy_,run_underlying ht,sizeOf,typeInfo,hi,hsrc.lenOf,e1,hmin,hst,goInt]
  rw [hr]
  congr 2
  simp only [List.append_assoc]
  rw [List.take_append_of_le_length (by omega),List.drop_append_of_le_length (by omega)]
 ·have hbox:=hR.box b _ _ hbx hn
  have hr0:r.cells=[]:=hbox.1
  have ht0:tot=0:=hbox.2
  subst ht0
  have hd:=hrow [] (by rw [hr0];rfl)
  have hrc:row.cells=[]:=by
   have:=denL_length hd
   refine List.eq_nil_of_length_eq_zero ?_
   rw [← this];simp
  have e1:Nat.min m 0=0:=Nat.min_zero m
  have e2:min m 0=0:=Nat.min_zero m
  rw [e2] at hmin ⊢
  refine ⟨w,?_,?_⟩
  ·simp [Builtin.copy_,run_underlying ht,sizeOf,typeInfo,hi,hsrc.lenOf,hmin,goInt]
  ·-- a nil row, named anew
   have hi':=get_lt hbx
   have hk:=hR.kill b ⟨e',r,0,true⟩
   refine ⟨hR.keep,by simpa using hR.len,?_,?_,hR.hold,?_,hR.src⟩
   ·intro j b' oa h1 h2
    by_cases hj:b=j
    ·subst hj
     rw [List.getElem?_set_self hi'] at h1
     simp only [Option.some.injEq] at h1;subst h1
     rw [hn] at h2;cases h2
     exact ⟨hrc,rfl⟩
    ·rw [List.getElem?_set_ne hj] at h1
     exact hR.box j b' oa h1 h2
   ·intro j b' a h1 ho h2
    have hj:b≠j:=by rintro rfl;rw [hn] at h2;cases h2
    rw [List.getElem?_set_ne hj] at h1
    obtain ⟨t1,t2,t3⟩:=hR.sep j b' a h1 ho h2
    refine ⟨t1,?_,t3⟩
    intro k b3 a3 hkj hk1 hl3 hk2
    have hk:b≠k:=by rintro rfl;rw [hn] at hk2;cases hk2
    rw [List.getElem?_set_ne hk] at hk1
    exact t2 k b3 a3 hkj hk1 hl3 hk2
   ·intro j b' a h1 hl h2
    have hj:b≠j:=by rintro rfl;rw [hn] at h2;cases h2
    rw [List.getElem?_set_ne hj] at h1
    exact hR.bsrc j b' a h1 hl h2
theorem asVals_den {r src:Row} {vs:List Value} (h:SV.denL ρ src.cells=some vs):SV.denL ρ (asVals r src).cells=some vs:=by
 unfold asVals
 split
 ·rename_i l
  split
  ·rename_i us hus
   have:=SV.denL_of_val ρ l hus
   simp only [Row.cells] at h ⊢
   rw [this] at h;cases h;exact denL_raw _
  ·exact h
 ·exact h
theorem copy_vals {t u ty e f:TypeId} (ht:P.underlying t=some (.slice e)) (_hu:P.underlying u=some (.slice f)) {i:TypeInfo} (hi:P.info? e=some i) (hR:Rel w0 mu bx E ρ w) {b off n cap m:Nat} {e':TypeId} {vs:List Value} {tot:Nat} {sv xv:Value} {news:List Value}
  (hbx:bx[b]? =some ⟨e',.vals vs,tot,true⟩) (hs:slcDen ρ b off n cap=some sv) (hlen:∀ w,(Builtin.lenOf xv).run P w= .ok m w) (hmin:(Builtin.firstCells i.size (min m n) xv).run P w= .ok news.toArray w)
  (hnl:news.length=min m n*i.size) (hone:∀ u∈news,u.oneCell'=true) (hle0:off<=vs.length) (hle:off+min m n*i.size<=vs.length\/off+min m n*i.size<=tot):
  ∃ w',(Builtin.copy_ #[t,u] ty #[sv,xv]).run P w= .ok (.int .i64 (min m n:Nat)) w'/\Rel w0 mu (bx.set b ⟨e',.vals (layV vs off news),tot,true⟩) E ρ w':=by
 have e1:Nat.min m n=min m n:=rfl
 rcases slcDen_some hs with ⟨c,hc,rfl,hsp0⟩|⟨hn,rfl,rfl,rfl,rfl⟩
 ·obtain ⟨hsp,olds,hold,h3⟩:=(hR.box b _ _ hbx hc).isRow hsp0
  simp only [if_true] at h3
  obtain ⟨hoff,junk,hheap,htot⟩:=h3
  have hcg:c=⟨c.block,0,none⟩:=by cases c;simp only at hsp hoff;subst hsp;subst hoff;rfl
  have holds:olds=vs:=by
   have:=denL_raw (ρ:=ρ) vs
   have h9:SV.denL ρ (vs.map .raw)=some olds:=hold
   rw [this] at h9;cases h9;rfl
  subst holds
  simp only [List.length_append] at htot
  have hst:=run_storeCells_at (P:=P) c.block off e' news 0 _ w hheap (by
   simp only [List.size_toArray,List.length_append];omega) hone
  simp only [Nat.add_zero] at hst
  have hadd:c.add off=⟨c.block,off,none⟩:=by rw [add_eq hsp,hoff,Nat.zero_add]
  have hset:=hR.setRow (r:=.vals (layV olds off news)) (vs:=layV olds off news) (junk:=junk.drop (off+news.length-olds.length)) hbx rfl (by rw [← hcg];exact hc) (denL_raw _) (by
   simp only [layV,List.length_append,List.length_drop,List.length_take]
   omega)
  refine ⟨_,?_,hset⟩
  rw [hadd]
  have hr:(Builtin.copy_ #[t,u] ty #[.slice (some ⟨c.block,off,none⟩) n cap,xv]).run P w= .ok (.int .i64 (min m n:Nat)) (w.setRow c.block ((olds++junk).toArray.toList.take off++news++(olds++junk).toArray.toList.drop (off+news.length)).toArray):=by
   simp [Builtin.copy_,run_underlying ht,sizeOf,typeInfo,hi,hlen,e1,hmin,hst,goInt]
  rw [hr]
  congr 2
  simp only [layV,List.append_assoc]
  rw [List.take_append_of_le_length (by omega),List.drop_append]
 ·have hbox:=hR.box b _ _ hbx hn
  have hr0:vs=[]:=by simpa [Box.cells,Row.cells] using hbox.1
  have ht0:tot=0:=hbox.2
  subst ht0
  subst hr0
  have e2:min m 0=0:=Nat.min_zero m
  rw [e2] at hmin hnl ⊢
  have hnn:news=[]:=List.eq_nil_of_length_eq_zero (by simpa using hnl)
  subst hnn
  refine ⟨w,?_,?_⟩
  ·simp [Builtin.copy_,run_underlying ht,sizeOf,typeInfo,hi,hlen,hmin,goInt]
  ·have e3:layV [] 0 []=([]:List Value):=rfl
   rw [e3,show bx.set b ⟨e',.vals [],0,true⟩=bx from by
    apply List.ext_getElem?;intro k
    by_cases hk:b=k
    ·subst hk;rw [List.getElem?_set_self (get_lt hbx),hbx]
    ·rw [List.getElem?_set_ne hk]]
   exact hR
theorem copyW_sound {t u ty e f:TypeId} (ht:P.underlying t=some (.slice e)) (hu:P.underlying u=some (.slice f)) {s x:SV} {K:KT} (h:copyW P e s x bx E K) (hR:Rel w0 mu bx E ρ w) {sv xv:Value} (hs:s.den ρ=some sv) (hx:x.den ρ=some xv):
  ∃ v w' s' bx',(Builtin.copy_ #[t,u] ty #[sv,xv]).run P w= .ok v w'/\s'.den ρ=some v/\Rel w0 mu bx' E ρ w'/\K s' bx' E:=by
 unfold copyW at h
 split at h
 case h_2=>exact h.elim
 rename_i i hi
 split at h
 ·rename_i b off n e' vs tot y hd hy
  unfold rowV at hd
  split at hd
  case h_2=>cases hd
  rename_i b0 off0 n0 cap
  split at hd
  case h_2=>cases hd
  rename_i hbx
  cases hd
  obtain ⟨b',off',m,e2,us,tot2,o2⟩:=y
  unfold rowV at hy
  split at hy
  case h_2=>cases hy
  rename_i b1 off1 m1 cap1
  split at hy
  case h_2=>cases hy
  rename_i hbx1
  cases hy
  obtain ⟨q1,q2,q3,q4,h⟩:=h
  simp only [SV.den] at hs hx
  have hnl:((us.drop off').take (min m n*i.size)).length=min m n*i.size:=by
   rw [List.length_take,List.length_drop];omega
  have hone:∀ u∈(us.drop off').take (min m n*i.size),u.oneCell'=true:=fun u hu=>q4 u (List.mem_of_mem_drop (List.mem_of_mem_take hu))
  have hfc:(Builtin.firstCells i.size (min m n) xv).run P w= .ok ((us.drop off').take (min m n*i.size)).toArray w/\∀ w,(Builtin.lenOf xv).run P w= .ok m w:=by
   rcases slcDen_some hx with ⟨c,hc,rfl,hsp0⟩|⟨hn,rfl,rfl,rfl,rfl⟩
   ·obtain ⟨h1,ws,h2,h3⟩:=hR.read' hbx1 hc hsp0
    have hws:ws=us:=by
     have:=denL_raw (ρ:=ρ) us
     have h9:SV.denL ρ (us.map .raw)=some ws:=h2
     rw [this] at h9;cases h9;rfl
    subst hws
    refine ⟨firstCells_addr hnl ?_,fun w=>by simp [Builtin.lenOf]⟩
    intro j u hu
    have hj:=get_lt hu
    rw [hnl] at hj
    rw [List.getElem?_take_of_lt hj,List.getElem?_drop] at hu
    rw [add_add h1];exact h3 _ _ hu
   ·have hbox:=hR.box b' _ _ hbx1 hn
    have hr0:us=[]:=by
     simpa [Box.cells,Row.cells] using hbox.1
    subst hr0
    refine ⟨by simp [Builtin.firstCells],fun w=>by simp [Builtin.lenOf]⟩
  obtain ⟨w',h1,h2⟩:=copy_vals (ty:=ty) ht hu hi hR hbx hs hfc.2 hfc.1 hnl hone q2 q3
  exact ⟨_,w',.raw _,_,h1,rfl,h2,h⟩
 rename_i hno
 clear hno
 have h0:=srcW_sound (P:=P) h hR hx
 clear h
 obtain ⟨m,new,news,h,hsrc⟩:=h0
 split at h
 case h_2=>exact h.elim
 rename_i b off n cap
 split at h
 case h_2=>exact h.elim
 rename_i e' r tot hbx
 simp only [SV.den] at hs
 have hden:=rowTake_den (n:=min m n*i.size) (asVals_den (r:=r) hsrc.den)
 split at h
 ·rename_i cells l hl
  split at h
  case isFalse=>exact h.elim
  rename_i hle
  rw [hl] at hden
  have hll:=denL_length hden
  obtain ⟨w',h1,h2⟩:=copy_own (ty:=ty) (row:=.lst (lay cells off l)) ht hu hi hR hbx hs hsrc hle (fun vs hv=>by
   have:=denL_append (denL_append (denL_take hv off) hden) (denL_drop hv (off+l.length))
   rw [hll];exact this)
  exact ⟨_,w',.raw _,_,h1,rfl,h2,h⟩
 ·rename_i vs l hl
  obtain ⟨hle,h⟩:=h
  rw [hl] at hden
  have hll:l=news.take (min m n*i.size):=by
   have:=denL_raw (ρ:=ρ) l
   simp only [Row.cells] at hden
   rw [this] at hden;cases hden;rfl
  obtain ⟨w',h1,h2⟩:=copy_own (ty:=ty) (row:=.vals (layV vs off l)) ht hu hi hR hbx hs hsrc (by simpa [Row.cells] using hle) (fun us hv=>by
   have :us=vs:=by
    have:=denL_raw (ρ:=ρ) vs
    simp only [Row.cells] at hv
    rw [this] at hv;cases hv;rfl
   subst this
   rw [← hll];exact denL_raw _)
  exact ⟨_,w',.raw _,_,h1,rfl,h2,h⟩
 ·rename_i cells l hl
  split at h
  case h_2=>exact h.elim
  rename_i vs hvs
  obtain ⟨hle,h⟩:=h
  rw [hl] at hden
  have hvl:=valL_length hvs
  have hll:l=news.take (min m n*i.size):=by
   have:=denL_raw (ρ:=ρ) l
   simp only [Row.cells] at hden
   rw [this] at hden;cases hden;rfl
  obtain ⟨w',h1,h2⟩:=copy_own (ty:=ty) (row:=.vals (layV vs off l)) ht hu hi hR hbx hs hsrc (by simp only [Row.cells];omega) (fun us hv=>by
   have :us=vs:=by
    have:=SV.denL_of_val ρ _ hvs
    simp only [Row.cells] at hv
    rw [this] at hv;cases hv;rfl
   subst this
   rw [← hll];exact denL_raw _)
  exact ⟨_,w',.raw _,_,h1,rfl,h2,h⟩
 ·rename_i vs l hl
  split at h
  case h_2=>exact h.elim
  rename_i l' hvs
  obtain ⟨hle,h⟩:=h
  rw [hl] at hden
  have hll:l'=news.take (min m n*i.size):=by
   have:=SV.denL_of_val ρ _ hvs
   simp only [Row.cells] at hden
   rw [this] at hden;cases hden;rfl
  obtain ⟨w',h1,h2⟩:=copy_own (ty:=ty) (row:=.vals (layV vs off l')) ht hu hi hR hbx hs hsrc (by simpa [Row.cells] using hle) (fun us hv=>by
   have :us=vs:=by
    have:=denL_raw (ρ:=ρ) vs
    simp only [Row.cells] at hv
    rw [this] at hv;cases hv;rfl
   subst this
   rw [← hll];exact denL_raw _)
  exact ⟨_,w',.raw _,_,h1,rfl,h2,h⟩
theorem madeCells_list {z:Array Value} {n:Nat} {sz:Nat} (hsz:z.size=sz):(madeCells z (n*sz)).toList=zerosV z.toList n:=by
 subst hsz
 unfold madeCells zerosV
 apply List.ext_getElem?
 intro k
 have hpos:k<n*z.size->0<z.size:=fun hk=>by
  rcases Nat.eq_zero_or_pos z.size with h0|h0
  ·rw [h0] at hk;simp at hk
  ·exact h0
 have e:∀ (n k:Nat),k<n*z.size->((List.replicate n z.toList).flatten)[k]? =z.toList[k % z.size]?:=by
  intro n
  induction n with
  | zero=>intro k hk;simp at hk
  | succ n ih=>
   intro k hk
   rw [List.replicate_succ,List.flatten_cons]
   rcases Nat.lt_or_ge k z.size with h1|h1
   ·rw [List.getElem?_append_left (by simpa using h1),Nat.mod_eq_of_lt h1]
   ·rw [List.getElem?_append_right (by simpa using h1)]
    simp only [Array.length_toList]
    rw [ih (k-z.size) (by rw [Nat.succ_mul] at hk;omega),Nat.mod_eq_sub_mod h1]
 rcases Nat.lt_or_ge k (n*z.size) with hk|hk
 ·rw [e n k hk]
  have hm:=Nat.mod_lt k (hpos hk)
  simp [hk,hm]
 ·rw [List.getElem?_eq_none (by simpa using hk),List.getElem?_eq_none (by simpa using hk)]
theorem zeroCells_list' (z:Array Value) (n:Nat):(Builtin.zeroCells z n).toList=zerosV z.toList n:=madeCells_list (sz:=z.size) rfl
theorem zerosV_len (z:List Value) (n:Nat):(zerosV z n).length=n*z.length:=by unfold zerosV;simp
theorem clearW_sound {t ty e:TypeId} (ht:P.underlying t=some (.slice e)) {s:SV} {K:KT} (h:clearW P e s bx E K) (hR:Rel w0 mu bx E ρ w) {sv:Value} (hs:s.den ρ=some sv):
  ∃ v w' s' bx',(Builtin.clear_ #[t] ty #[sv]).run P w= .ok v w'/\s'.den ρ=some v/\Rel w0 mu bx' E ρ w'/\K s' bx' E:=by
 unfold clearW at h
 split at h
 case h_2=>exact h.elim
 rename_i i hi
 split at h
 case h_2=>exact h.elim
 rename_i zv hz
 split at h
 case isFalse=>exact h.elim
 rename_i hc
 obtain ⟨hzs,hone⟩:=hc
 split at h
 case h_2=>exact h.elim
 rename_i b off n cap
 split at h
 case h_2=>exact h.elim
 rename_i e' vs tot hbx
 obtain ⟨hlo,hle,h⟩:=h
 simp only [SV.den] at hs
 have hzl:(zerosV zv.cells.toList n).length=n*i.size:=by rw [zerosV_len,Array.length_toList,hzs]
 have hz1:∀ u∈zerosV zv.cells.toList n,u.oneCell'=true:=fun u hu=>by
  unfold zerosV at hu
  obtain ⟨l,hl,hu⟩:=List.mem_flatten.1 hu
  obtain ⟨_,rfl⟩:=List.mem_replicate.1 hl
  exact List.all_eq_true.1 hone u hu
 have hsame:n=0->bx.set b ⟨e',.vals (layV vs off (zerosV zv.cells.toList n)),tot,true⟩=bx:=fun e0=>by
  subst e0
  have e1:layV vs off (zerosV zv.cells.toList 0)=vs:=by unfold layV zerosV;simp
  rw [e1]
  apply List.ext_getElem?;intro k
  by_cases hk:b=k
  ·subst hk;rw [List.getElem?_set_self (get_lt hbx),hbx]
  ·rw [List.getElem?_set_ne hk]
 rcases slcDen_some hs with ⟨c,hc,rfl,hsp0⟩|⟨hn,rfl,rfl,rfl,rfl⟩
 ·by_cases hn0:n=0
  ·refine ⟨.tuple #[],w,.tup [],_,?_,rfl,?_,h⟩
   ·subst hn0
    simp [Builtin.clear_,run_underlying ht]
   ·rw [hsame hn0];exact hR
  obtain ⟨hsp,olds,hold,h3⟩:=(hR.box b _ _ hbx hc).isRow hsp0
  simp only [if_true] at h3
  obtain ⟨hoff,junk,hheap,htot⟩:=h3
  have hcg:c=⟨c.block,0,none⟩:=by cases c;simp only at hsp hoff;subst hsp;subst hoff;rfl
  have holds:olds=vs:=by
   have:=denL_raw (ρ:=ρ) vs
   have h9:SV.denL ρ (vs.map .raw)=some olds:=hold
   rw [this] at h9;cases h9;rfl
  subst holds
  simp only [List.length_append] at htot
  have hst:=run_storeCells_at (P:=P) c.block off e' (zerosV zv.cells.toList n) 0 _ w hheap (by
   simp only [List.size_toArray,List.length_append];omega) hz1
  simp only [Nat.add_zero] at hst
  have hadd:c.add off=⟨c.block,off,none⟩:=by rw [add_eq hsp,hoff,Nat.zero_add]
  have hset:=hR.setRow (r:=.vals (layV olds off (zerosV zv.cells.toList n))) (vs:=layV olds off (zerosV zv.cells.toList n)) (junk:=junk.drop (off+(zerosV zv.cells.toList n).length-olds.length)) hbx rfl (by rw [← hcg];exact hc) (denL_raw _) (by
   simp only [layV,List.length_append,List.length_drop,List.length_take]
   omega)
  refine ⟨.tuple #[],_,.tup [],_,?_,rfl,hset,h⟩
  rw [hadd]
  have hr:(Builtin.clear_ #[t] ty #[.slice (some ⟨c.block,off,none⟩) n cap]).run P w= .ok (.tuple #[]) (w.setRow c.block ((olds++junk).toArray.toList.take off++zerosV zv.cells.toList n++(olds++junk).toArray.toList.drop (off+(zerosV zv.cells.toList n).length)).toArray):=by
   obtain ⟨m,rfl⟩:∃ m,n=m+1:=⟨n-1,by omega⟩
   simp [Builtin.clear_,run_underlying ht,run_zeroValue' hi hz,zeroCells_list',hst]
  rw [hr]
  congr 2
  simp only [layV,List.append_assoc]
  rw [List.take_append_of_le_length (by omega),List.drop_append]
 ·refine ⟨.tuple #[],w,.tup [],_,?_,rfl,?_,h⟩
  ·simp [Builtin.clear_,run_underlying ht]
  ·rw [hsame rfl];exact hR
theorem makeW_sound {t e:TypeId} (ht:P.underlying t=some (.slice e)) {kl kc:IntKind} {l c:Int} {K:KT} (h:makeW P e l c bx E K) (hR:Rel w0 mu bx E ρ w):
  ∃ v w' s' bx' ρ',(Instr.makeSlice t (.int kl l) (.int kc c)).run P w= .ok v w'/\ρ<+:ρ'/\s'.den ρ'=some v/\Rel w0 mu bx' E ρ' w'/\bx<+:bx'/\K s' bx' E:=by
 unfold makeW at h
 split at h
 case h_2=>exact h.elim
 rename_i i hi
 split at h
 case h_2=>exact h.elim
 rename_i zv hz
 split at h
 case isFalse=>exact h.elim
 rename_i hc
 obtain ⟨hzs,hone⟩:=hc
 obtain ⟨⟨h0,hlc⟩,h⟩:=req_elim h
 obtain ⟨hb,h⟩:=req_elim h
 have hcn:(c.toNat:Int)=c:=Int.toNat_of_nonneg (by omega)
 have hb':c.toNat*max i.bytes 1<=140737488355328:=by
  have :((c.toNat*max i.bytes 1:Nat):Int)<=140737488355328:=by rw [Int.natCast_mul,hcn];exact hb
  omega
 have h1:c.toNat<=c.toNat*max i.bytes 1:=Nat.le_mul_of_pos_right _ (by omega)
 have h2:c.toNat*i.bytes<=c.toNat*max i.bytes 1:=Nat.mul_le_mul_left _ (by omega)
 have hrun:=run_make (P:=P) w t e i zv ht hi hz kl kc l c h0 hlc (by
  have :((i.bytes*c.toNat:Nat):Int)<=281474976710656:=by rw [Nat.mul_comm];omega
  rwa [Int.natCast_mul,hcn] at this) (by omega)
 have hcells:madeCells zv.cells (c.toNat*i.size)=(zerosV zv.cells.toList c.toNat++[]).toArray:=by
  apply Array.ext'
  rw [madeCells_list hzs];simp
 rw [hcells] at hrun
 have hR':=hR.alloc e (.vals (zerosV zv.cells.toList c.toNat)) (zerosV zv.cells.toList c.toNat) [] (c.toNat*i.size) (denL_raw _) (by
  rw [List.append_nil,← madeCells_list hzs];simp [madeCells])
 refine ⟨_,_,_,_,_,hrun,List.prefix_append _ _,?_,hR',List.prefix_append _ _,h⟩
 simp only [SV.den,slcDen,← hR.len,List.getElem?_append_right (Nat.le_refl _),Nat.sub_self,List.getElem?_cons_zero]
 rfl
theorem zeroCells_list (z:Array Value) (n:Nat):(Builtin.zeroCells z n).toList=zerosV z.toList n:=madeCells_list (sz:=z.size) rfl
theorem appendZ_sound {t u ty e:TypeId} {kn:IntKind} (ht:P.underlying t=some (.slice e)) (hu:P.underlying u=some (.int kn)) {s x:SV} {K:KT} (h:appendZ P e s x bx E K) (hR:Rel w0 mu bx E ρ w) {sv xv:Value} (hs:s.den ρ=some sv) (hx:x.den ρ=some xv):
  ∃ v w' s' bx' ρ',(Builtin.append_ #[t,u] ty #[sv,xv]).run P w= .ok v w'/\ρ<+:ρ'/\s'.den ρ'=some v/\Rel w0 mu bx' E ρ' w'/\K s' bx' E:=by
 unfold appendZ at h
 split at h
 case h_2=>exact h.elim
 rename_i i hi
 split at h
 case h_2=>exact h.elim
 rename_i kq k
 simp only [SV.den,Option.some.injEq] at hx;subst hx
 split at h
 case h_2=>exact h.elim
 rename_i zv hz
 split at h
 case isFalse=>exact h.elim
 rename_i hzs
 obtain ⟨hzs,hpos⟩:=hzs
 split at h
 case h_2=>exact h.elim
 rename_i b off n cap
 split at h
 case isFalse=>exact h.elim
 rename_i hof
 subst hof
 split at h
 case h_2=>exact h.elim
 rename_i e' vs tot hbx
 obtain ⟨hlen,h⟩:=h
 obtain ⟨hk,h⟩:=req_elim h
 obtain ⟨hcap,h⟩:=req_elim h
 obtain ⟨hb,h⟩:=req_elim h
 obtain ⟨m,rfl⟩:∃ m:Nat,k=m:=⟨k.toNat,by omega⟩
 simp only [Int.toNat_natCast] at h
 have hm:0<m:=by omega
 have hg:cap<n+m:=by omega
 have hbn:(n+m)*max i.bytes 1<=140737488355328:=by
  rw [← Int.natCast_add,← Int.natCast_mul] at hb
  omega
 have h1:n+m<=(n+m)*max i.bytes 1:=Nat.le_mul_of_pos_right _ (by omega)
 have h2:(n+m)*i.bytes<=(n+m)*max i.bytes 1:=Nat.mul_le_mul_left _ (by omega)
 have h3:m*i.bytes<=(n+m)*i.bytes:=Nat.mul_le_mul_right _ (by omega)
 have hfit:=growslice_fits (bytes:=i.bytes) hg (by omega)
 have hdrew:Rel w0 mu bx E ρ w.drew:=hR.drew _
 simp only [SV.den] at hs
 have key:∀ (base:Option Addr),(Builtin.firstCells i.size n (.slice base n cap)).run P w.drew= .ok (vs.take (n*i.size)).toArray w.drew->sv= .slice base n cap->
   ∃ v w' s' bx' ρ',(Builtin.append_ #[t,u] ty #[sv,.int kq m]).run P w= .ok v w'/\ρ<+:ρ'/\s'.den ρ'=some v/\Rel w0 mu bx' E ρ' w'/\K s' bx' E:=by
  rintro base hold rfl
  have hrun:=Lib.run_append_grow_zeros w t u ty e i zv kq kn ht hu hi hz base n cap (vs.take (n*i.size)) hold m hm hpos hg (by omega) (by omega) (by omega)
  have hC:=grownCap_ge w (n+m) cap e
  have hR':=hdrew.alloc e (.vals (vs.take (n*i.size)++zerosV zv.cells.toList m)) (vs.take (n*i.size)++zerosV zv.cells.toList m) (zerosV zv.cells.toList (grownCap w (n+m) cap e-(n+m))) (grownCap w (n+m) cap e*i.size) (denL_raw _) (by
   have hz1:∀ q,(zerosV zv.cells.toList q).length=q*i.size:=fun q=>by rw [← zeroCells_list,Array.length_toList,size_zeroCells,hzs]
   simp only [List.length_append,List.length_take,hz1]
   rw [Nat.min_eq_left hlen,← Nat.add_mul,← Nat.add_mul]
   congr 1;omega)
  have harr:((vs.take (n*i.size)).toArray++Builtin.zeroCells zv.cells m++Builtin.zeroCells zv.cells (grownCap w (n+m) cap e-(n+m)))=(vs.take (n*i.size)++zerosV zv.cells.toList m++zerosV zv.cells.toList (grownCap w (n+m) cap e-(n+m))).toArray:=by
   apply Array.ext'
   simp [zeroCells_list]
  rw [harr] at hrun
  refine ⟨_,_,_,_,_,hrun,List.prefix_append _ _,?_,hR',h _ _ hC (Nat.le_refl _)⟩
  simp only [SV.den,slcDen,← hR.len,List.getElem?_append_right (Nat.le_refl _),Nat.sub_self,List.getElem?_cons_zero]
  rfl
 rcases slcDen_some hs with ⟨c,hc,rfl,hsp0⟩|⟨hn,_,rfl,rfl,rfl⟩
 ·obtain ⟨hsp,olds,hold,h3⟩:=(hR.box b _ _ hbx hc).isRow hsp0
  simp only [if_true] at h3
  obtain ⟨hoff,junk,hheap,htot⟩:=h3
  have ho:olds=vs:=by
   have:=denL_raw (ρ:=ρ) vs
   simp only [Box.cells,Row.cells] at hold
   rw [this] at hold;cases hold;rfl
  subst ho
  refine key _ (firstCells_addr (by rw [List.length_take];omega) ?_) rfl
  intro j u hu
  have hj:=get_lt hu
  rw [List.length_take] at hj
  rw [List.getElem?_take_of_lt (by omega)] at hu
  have hc0:c.add 0=c:=by rw [add_eq hsp];simp only [Nat.add_zero];rw [← hsp]
  rw [hc0,cell_heap (w':=w.drew) (w:=w) rfl,add_eq hsp,cell_of_row w c.block (c.off+j) _ _ _ hheap,hoff,Nat.zero_add]
  simp [List.getElem?_append_left (show j<olds.length by omega),hu]
 ·exact key none (by simp [Builtin.firstCells]) rfl
theorem equalIn_slc {T e:TypeId} (he:P.underlying T=some (.slice e)) {base:Option Addr} {n c l' c':Nat} (d:Nat) (w:World):
  (Op.equalIn (d+1) T (.slice base n c) (.slice none l' c')).run P w= .ok base.isNone w:=by
 cases base<;>simp [Op.equalIn,run_underlying he]
theorem nilSlcW_sound {T e:TypeId} (ht:P.underlying T=some (.slice e)) {s t:SV} {K:Bool->Prop} (h:nilSlcW s t K) {sv tv:Value} (hs:s.den ρ=some sv) (htv:t.den ρ=some tv):
  ∃ r:Bool,K r/\(∀ x y w,(eqGuard .eql T x y sv tv).run P w= .ok () w)/\(∀ x y w,(eqGuard .neq T x y sv tv).run P w= .ok () w)/\(∀ w,(binOp .eql T sv tv).run P w= .ok (.bool r) w)/\∀ w,(binOp .neq T sv tv).run P w= .ok (.bool !r) w:=by
 unfold nilSlcW at h
 split at h
 case h_2=>exact h.elim
 rename_i l' c'
 simp only [SV.den,Option.some.injEq] at htv;subst htv
 have key:∀ base n c,sv= .slice base n c->(∀ x y w,(eqGuard .eql T x y sv (.slice none l' c')).run P w= .ok () w)/\(∀ x y w,(eqGuard .neq T x y sv (.slice none l' c')).run P w= .ok () w)/\(∀ w,(binOp .eql T sv (.slice none l' c')).run P w= .ok (.bool base.isNone) w)/\∀ w,(binOp .neq T sv (.slice none l' c')).run P w= .ok (.bool !base.isNone) w:=by
  rintro base n c rfl
  have heq:∀ w,(Op.equal T (.slice base n c) (.slice none l' c')).run P w= .ok base.isNone w:=fun w=>equalIn_slc ht 9999 w
  refine ⟨fun x y w=>rfl,fun x y w=>rfl,fun w=>?_,fun w=>?_⟩
  ·have hb:binOp .eql T (.slice base n c) (.slice none l' c')=(do pure (.bool (← Op.equal T (.slice base n c) (.slice none l' c')))):=rfl
   simp only [hb,Sem.run_bind,heq,Result.andThen_ok,Sem.run_pure]
  ·have hb:binOp .neq T (.slice base n c) (.slice none l' c')=(do pure (.bool (!(← Op.equal T (.slice base n c) (.slice none l' c'))))):=rfl
   simp only [hb,Sem.run_bind,heq,Result.andThen_ok,Sem.run_pure]
 split at h
 ·rename_i b off n c
  simp only [SV.den] at hs
  rcases slcDen_some hs with ⟨d,hd,rfl,_⟩|⟨hn,rfl,rfl,rfl,rfl⟩
  ·exact ⟨false,h false (by simp),key _ _ _ rfl⟩
  ·exact ⟨true,h true (by simp),key _ _ _ rfl⟩
 ·rename_i base n c
  simp only [SV.den,Option.some.injEq] at hs;subst hs
  exact ⟨base.isNone,h,key _ _ _ rfl⟩
 ·exact h.elim
theorem eqSV_sound:∀ (n:Nat) (T:TypeId) (s t:SV) (b:Bool) (x y:Value),eqSV P n T s t=some b->s.den ρ=some x->t.den ρ=some y->∀ (d:Nat) (w:World),(Op.equalIn (n+d) T x y).run P w= .ok b w
 | 0,_,_,_,_,_,_,h,_,_,_,_=>by cases h
 | n+1,T,s,t,b,x,y,h,hx,hy,d,w=>by
  have hd:n+1+d=n+d+1:=by omega
  rw [hd]
  unfold eqSV at h
  split at h
  ·rename_i k hu
   split at h
   ·rename_i k1 a k2 c
    split at h
    ·rename_i hk
     subst hk
     simp only [SV.den,Option.some.injEq] at h hx hy
     subst h;subst hx;subst hy
     exact run_equalIn_int w (n+d) T _ _ a c hu
    ·cases h
   ·cases h
  ·rename_i hu
   split at h
   ·rename_i a c
    simp only [SV.den,Option.some.injEq] at h hx hy
    subst h;subst hx;subst hy
    exact run_equalIn_bool w (n+d) T a c hu
   ·cases h
  ·rename_i fs hu
   split at h
   ·rename_i cs ds hcs hds
    split at h
    ·rename_i hheld
     obtain ⟨xs,rfl,h1⟩:=asCells_den hcs hx
     obtain ⟨ys,rfl,h2⟩:=asCells_den hds hy
     have hf:P.fieldsOf T=fs:=by simp [Program.fieldsOf,hu]
     rw [run_equalIn_struct w (n+d) T _ _ (by rw [hf];exact hu) hheld,hf]
     have go:∀ (l:List Field) (b:Bool),eqFs P (eqSV P n) cs ds l=some b->(Op.eqFields (n+d) xs.toArray ys.toArray l).run P w= .ok b w:=by
      intro l
      induction l with
      | nil=>intro b h;simp only [eqFs,Option.some.injEq] at h;subst h;rfl
      | cons f l ih=>
       intro b h
       simp only [eqFs] at h
       simp only [Op.eqFields]
       split at h
       ·rename_i hn
        rw [if_pos hn]
        split at h
        case h_2=>cases h
        rename_i p q hp hq
        split at h
        case h_2=>cases h
        rename_i b1 b2 e1 e2
        simp only [Option.some.injEq] at h;subst h
        obtain ⟨v1,g1,g2⟩:=run_part (P:=P) (w:=w) hp h1
        obtain ⟨v2,g3,g4⟩:=run_part (P:=P) (w:=w) hq h2
        have:=eqSV_sound n f.type p q b1 v1 v2 e1 g1 g3 d w
        simp only [Sem.run_bind,g2,g4,Result.andThen_ok,this,Sem.run_ite]
        cases b1
        ·simp
        ·simp [ih b2 e2]
       ·rename_i hn
        rw [if_neg hn]
        exact ih b h
     exact go fs.toList b h
    ·cases h
   ·cases h
  ·cases h
theorem eqStruct_sound {T:TypeId} {fs:Array Field} (hu:P.underlying T=some (.struct fs)) (hg:P.eqGuardType P.depth T=false) {s t:SV} {b:Bool} {sv tv:Value} (h:eqSV P 12 T s t=some b) (hs:s.den ρ=some sv) (ht:t.den ρ=some tv):
  (∀ x y w,(eqGuard .eql T x y sv tv).run P w= .ok () w)/\(∀ x y w,(eqGuard .neq T x y sv tv).run P w= .ok () w)/\(∀ w,(binOp .eql T sv tv).run P w= .ok (.bool b) w)/\∀ w,(binOp .neq T sv tv).run P w= .ok (.bool !b) w:=by
 have heq:∀ w,(Op.equal T sv tv).run P w= .ok b w:=fun w=>eqSV_sound 12 T s t b sv tv h hs ht 9988 w
 have hc:∃ xs ys,sv= .agg xs/\tv= .agg ys:=by
  unfold eqSV at h
  rw [hu] at h
  simp only at h
  split at h
  ·rename_i cs ds hcs hds
   obtain ⟨xs,e1,_⟩:=asCells_den hcs hs
   obtain ⟨ys,e2,_⟩:=asCells_den hds ht
   exact ⟨_,_,e1,e2⟩
  ·cases h
 obtain ⟨xs,ys,rfl,rfl⟩:=hc
 refine ⟨fun x y w=>by simp [eqGuard,hg],fun x y w=>by simp [eqGuard,hg],fun w=>?_,fun w=>?_⟩
 ·have hb:binOp .eql T (.agg xs) (.agg ys)=(do pure (.bool (← Op.equal T (.agg xs) (.agg ys)))):=rfl
  simp only [hb,Sem.run_bind,heq,Result.andThen_ok,Sem.run_pure]
 ·have hb:binOp .neq T (.agg xs) (.agg ys)=(do pure (.bool (!(← Op.equal T (.agg xs) (.agg ys))))):=rfl
  simp only [hb,Sem.run_bind,heq,Result.andThen_ok,Sem.run_pure]
end
end Go.Sx
namespace Go.Sx
open Go.RowKit (Below)
def setAll:List Box->List Nat->List Box->List Box
 | bx,j::σ,b::bs=>setAll (bx.set j b) σ bs
 | bx,_,_=>bx
def merge (σ:List Nat) (bx bxs':List Box):List Box:=
 setAll bx σ ((bxs'.take σ.length).map (Box.ren σ bx.length))++(bxs'.drop σ.length).map (Box.ren σ bx.length)
theorem setAll_length:∀ (σ:List Nat) (bx bs:List Box),(setAll bx σ bs).length=bx.length
 | [],bx,bs=>by cases bs<;>rfl
 | j::σ,bx,[]=>rfl
 | j::σ,bx,b::bs=>by simp only [setAll,setAll_length σ,List.length_set]
theorem setAll_other:∀ (σ:List Nat) (bx bs:List Box) (k:Nat),k ∉ σ->(setAll bx σ bs)[k]? =bx[k]?
 | [],bx,bs,k,_=>by cases bs<;>rfl
 | j::σ,bx,[],k,_=>rfl
 | j::σ,bx,b::bs,k,h=>by
  simp only [List.mem_cons,not_or] at h
  simp only [setAll]
  rw [setAll_other σ _ bs k h.2,List.getElem?_set_ne (Ne.symm h.1)]
theorem setAll_at:∀ (σ:List Nat) (bx bs:List Box) (i k:Nat) (b:Box),σ.Nodup->σ[i]? =some k->k<bx.length->bs[i]? =some b->(setAll bx σ bs)[k]? =some b
 | [],_,_,i,k,_,_,h,_,_=>by simp at h
 | j::σ,bx,[],i,k,b,_,_,_,h=>by simp at h
 | j::σ,bx,c::bs,0,k,b,hn,h,hl,hb=>by
  simp only [List.getElem?_cons_zero,Option.some.injEq] at h hb
  subst h;subst hb
  simp only [setAll]
  rw [setAll_other σ _ bs j (List.nodup_cons.1 hn).1,List.getElem?_set_self hl]
 | j::σ,bx,c::bs,i+1,k,b,hn,h,hl,hb=>by
  simp only [List.getElem?_cons_succ] at h hb
  simp only [setAll]
  exact setAll_at σ _ bs i k b (List.nodup_cons.1 hn).2 h (by simpa using hl) hb
mutual
theorem ren_of_val (σ:List Nat) (n:Nat):∀ (s:SV) {v:Value},s.val=some v->s.ren σ n=s
 | .raw v,_,_=>by simp only [SV.ren]
 | .loc b off,_,e=>by simp [SV.val] at e
 | .slc b off len cap,_,e=>by simp [SV.val] at e
 | .rp v off,_,e=>by simp [SV.val] at e
 | .clo f m l,_,e=>by simp [SV.val] at e
 | .mth n x,_,e=>by simp [SV.val] at e
 | .agg l,_,e=>by
  simp only [SV.val,Option.map_eq_some_iff] at e
  obtain ⟨vs,h1,_⟩:=e
  simp only [SV.ren,renL_of_val σ n l h1]
 | .tup l,_,e=>by
  simp only [SV.val,Option.map_eq_some_iff] at e
  obtain ⟨vs,h1,_⟩:=e
  simp only [SV.ren,renL_of_val σ n l h1]
 | .ifc t x,_,e=>by
  simp only [SV.val,Option.map_eq_some_iff] at e
  obtain ⟨vs,h1,_⟩:=e
  simp only [SV.ren,ren_of_val σ n x h1]
theorem renL_of_val (σ:List Nat) (n:Nat):∀ (l:List SV) {vs:List Value},SV.valL l=some vs->SV.renL σ n l=l
 | [],_,_=>rfl
 | x::l,vs,e=>by
  simp only [SV.valL] at e
  split at e
  ·rename_i v ws h1 h2
   simp only [SV.renL,ren_of_val σ n x h1,renL_of_val σ n l h2]
  ·cases e
end
structure Part (σ:List Nat) (bx bxs:List Box):Prop where
 nodup:σ.Nodup
 len:bxs.length=σ.length
 box:∀ (i:Nat) (b:Box),bxs[i]? =some b->b.own=true/\∃ j:Nat,σ[i]? =some j/\bx[j]? =some (b.ren σ bx.length)
theorem frame {P:Program} {f:FuncId} {args args':List SV} {bx bxs:List Box} {E:Mem} {K K':KT} {σ:List Nat} (hp:Part σ bx bxs)
  (hargs:args=SV.renL σ bx.length args') (h:CallSem P f args' bxs E K')
  (hK:∀ s bxs' E',K' s bxs' E'->K (s.ren σ bx.length) (merge σ bx bxs') E'):CallSem P f args bx E K:=by
 subst hargs
 intro w0 mu ρ w vs hR hd
 have hn:=hR.len
 -- what the callee is handed
 have hσ:∀ (i j:Nat),σ[i]? =some j->∃ b,bxs[i]? =some b/\b.own=true/\bx[j]? =some (b.ren σ bx.length):=by
  intro i j hj
  have hi:i<bxs.length:=by rw [hp.len];exact get_lt hj
  obtain ⟨h1,j',h2,h3⟩:=hp.box i _ (List.getElem?_eq_getElem hi)
  rw [hj] at h2;cases h2
  exact ⟨_,List.getElem?_eq_getElem hi,h1,h3⟩
 let ρs:Env:=σ.map fun j=>(ρ[j]?).getD none
 have hρs:∀ (i j:Nat),σ[i]? =some j->ρs[i]? =ρ[j]?:=by
  intro i j hj
  obtain ⟨b,_,_,hb⟩:=hσ i j hj
  have hjl:j<ρ.length:=by rw [hn];exact get_lt hb
  simp only [ρs,List.getElem?_map,hj,Option.map_some,List.getElem?_eq_getElem hjl,Option.getD_some]
 have hρl:ρs.length=σ.length:=by simp [ρs]
 have hren:∀ i,ρ[renF σ bx.length i]? =ρs[i]?:=by
  intro i
  unfold renF
  cases hi:σ[i]? with
  | some j=>exact (hρs i j hi).symm
  | none=>
   have h1:σ.length<=i:=by
    rcases Nat.lt_or_ge i σ.length with q|q
    ·rw [List.getElem?_eq_getElem q] at hi;cases hi
    ·exact q
   simp only
   rw [List.getElem?_eq_none (by omega),List.getElem?_eq_none (by omega)]
 rw [renL_den hren] at hd
 let mus:List Nat:=ρs.filterMap fun o=>o.map Addr.block
 have hmus:∀ (i:Nat) a,ρs[i]? =some (some a)->a.block∈mus:=by
  intro i a ha
  refine List.mem_filterMap.2 ⟨some a,List.mem_of_getElem? ha,rfl⟩
 have hmus':∀ g,g∈mus->∃ (i j:Nat) (a:Addr) (b:Box),σ[i]? =some j/\ρs[i]? =some (some a)/\ρ[j]? =some (some a)/\a.block=g/\bxs[i]? =some b/\b.own=true/\bx[j]? =some (b.ren σ bx.length):=by
  intro g hg
  obtain ⟨o,ho,e⟩:=List.mem_filterMap.1 hg
  cases o with
  | none=>cases e
  | some a=>
   simp only [Option.map_some,Option.some.injEq] at e
   obtain ⟨i,hi,hio⟩:=List.getElem_of_mem ho
   have hio':ρs[i]? =some (some a):=by rw [List.getElem?_eq_getElem hi,hio]
   have hi':i<σ.length:=by rw [← hρl];exact hi
   obtain ⟨b,h1,h2,h3⟩:=hσ i _ (List.getElem?_eq_getElem hi')
   exact ⟨i,_,a,b,List.getElem?_eq_getElem hi',hio',by rw [← hρs i _ (List.getElem?_eq_getElem hi')];exact hio',e,h1,h2,h3⟩
 -- of a box's own: whatever the whole says
 have hsepσ:∀ (i j:Nat) (a:Addr) (b:Box),σ[i]? =some j->ρ[j]? =some (some a)->b.own=true->bx[j]? =some (b.ren σ bx.length)->
   (w0.heap.size<=a.block\/a.block∈mu.mu)/\(∀ (k:Nat) b' a',k≠j->bx[k]? =some b'->b'.live=true->ρ[k]? =some (some a')->a'.block≠a.block)/\(∀ v cs,E v cs->cs≠[]->blk v≠some a.block):=
  fun i j a b _ ha ho hb=>hR.sep j _ a hb (by simpa [Box.ren] using ho) ha
 have hRs:Rel w ⟨mus,E,none,[]⟩ bxs E ρs w:=by
  refine ⟨Keep.refl _ _,by rw [hρl,hp.len],?_,?_,hR.hold,?_,fun v cs g hne=>.inr ⟨v,cs,g,hne,rfl⟩⟩
  ·intro i b oa h1 h2
   obtain ⟨ho,j,hj,hb⟩:=hp.box i b h1
   rw [hρs i j hj] at h2
   exact (BoxAt.ren hren).1 (hR.box j _ oa hb h2)
  ·intro i b a h1 ho h2
   obtain ⟨_,j,hj,hb⟩:=hp.box i b h1
   have h2':=h2
   rw [hρs i j hj] at h2
   obtain ⟨t1,t2,t3⟩:=hsepσ i j a b hj h2 ho hb
   refine ⟨.inr (hmus i a h2'),?_,t3⟩
   intro k b' a' hki hk1 hl hk2
   obtain ⟨_,j',hj',hb'⟩:=hp.box k b' hk1
   rw [hρs k j' hj'] at hk2
   refine t2 j' _ a' ?_ hb' (by rw [Box.ren_live];exact hl) hk2
   rintro rfl
   exact hki ((List.getElem?_inj (get_lt hj) hp.nodup).1 (by rw [hj,hj'])).symm
  ·intro i b a h1 hl h2
   exact .inr (hmus i a h2)
 refine (h w ⟨mus,E,none,[]⟩ ρs w vs hRs hd).mono fun e w' he=>?_
 obtain ⟨v,s,bxs',E',ρs',rfl,hpre,hsd,hR',hK'⟩:=he
 have hl':=hR'.len
 have hle:σ.length<=ρs'.length:=by rw [← hρl];exact hpre.length_le
 have hpg:∀ (i:Nat) o,ρs[i]? =some o->ρs'[i]? =some o:=fun i o ho=>get_prefix hpre ho
 let ρ':Env:=ρ++ρs'.drop σ.length
 have hpp:ρ<+:ρ':=List.prefix_append _ _
 have hren':∀ i,ρ'[renF σ bx.length i]? =ρs'[i]?:=by
  intro i
  unfold renF
  cases hi:σ[i]? with
  | some j=>
   simp only
   obtain ⟨b,_,_,hb⟩:=hσ i j hi
   have hjl:j<ρ.length:=by rw [hn];exact get_lt hb
   have h1:=hρs i j hi
   rw [List.getElem?_append_left hjl]
   have h2:ρ[j]? =some ρ[j]:=List.getElem?_eq_getElem hjl
   rw [h2] at h1 ⊢
   exact (hpg i _ h1).symm
  | none=>
   have h1:σ.length<=i:=by
    rcases Nat.lt_or_ge i σ.length with q|q
    ·rw [List.getElem?_eq_getElem q] at hi;cases hi
    ·exact q
   simp only
   rw [List.getElem?_append_right (by omega),List.getElem?_drop,hn]
   congr 1;omega
 -- where a box of the whole comes from
 have hmlen:(merge σ bx bxs').length=bx.length+(bxs'.length-σ.length):=by
  simp only [merge,List.length_append,setAll_length,List.length_map,List.length_drop]
 have hfrom:∀ (k:Nat) y,(merge σ bx bxs')[k]? =some y->
   (k<bx.length/\k ∉ σ/\bx[k]? =some y/\ρ'[k]? =ρ[k]?)\/∃ i b,k=renF σ bx.length i/\bxs'[i]? =some b/\y=b.ren σ bx.length/\ρ'[k]? =ρs'[i]?:=by
  intro k y hy
  by_cases hk:k<bx.length
  ·have hk1:(merge σ bx bxs')[k]? =(setAll bx σ ((bxs'.take σ.length).map (Box.ren σ bx.length)))[k]?:=List.getElem?_append_left (by rw [setAll_length];exact hk)
   rw [hk1] at hy
   by_cases hm:k∈σ
   ·obtain ⟨i,hi,hik⟩:=List.getElem_of_mem hm
    have hik':σ[i]? =some k:=by rw [List.getElem?_eq_getElem hi,hik]
    have hib:i<bxs'.length:=by rw [← hl'];omega
    have hb:((bxs'.take σ.length).map (Box.ren σ bx.length))[i]? =some (bxs'[i].ren σ bx.length):=by
     rw [List.getElem?_map,List.getElem?_take_of_lt hi,List.getElem?_eq_getElem hib];rfl
    rw [setAll_at σ bx _ i k _ hp.nodup hik' hk hb] at hy
    cases hy
    have hrk:k=renF σ bx.length i:=by simp [renF,hik']
    refine .inr ⟨i,_,hrk,List.getElem?_eq_getElem hib,rfl,?_⟩
    rw [hrk];exact hren' i
   ·rw [setAll_other σ bx _ k hm] at hy
    refine .inl ⟨hk,hm,hy,?_⟩
    exact List.getElem?_append_left (by rw [hn];exact hk)
  ·have hk1:(merge σ bx bxs')[k]? =((bxs'.drop σ.length).map (Box.ren σ bx.length))[k-bx.length]?:=by
    have:=List.getElem?_append_right (l₁:=setAll bx σ ((bxs'.take σ.length).map (Box.ren σ bx.length))) (l₂:=(bxs'.drop σ.length).map (Box.ren σ bx.length)) (i:=k) (by rw [setAll_length];omega)
    rw [setAll_length] at this
    exact this
   rw [hk1,List.getElem?_map,List.getElem?_drop] at hy
   cases hb:bxs'[σ.length+(k-bx.length)]? with
   | none=>rw [hb] at hy;cases hy
   | some b=>
    rw [hb] at hy
    simp only [Option.map_some,Option.some.injEq] at hy
    have hrk:k=renF σ bx.length (σ.length+(k-bx.length)):=by
     unfold renF
     rw [List.getElem?_eq_none (by omega)]
     simp only;omega
    refine .inr ⟨_,b,hrk,hb,hy.symm,?_⟩
    exact (congrArg (ρ'[·]?) hrk).trans (hren' _)
 -- blocks that the callee may have written
 have hold:∀ (k:Nat) y a,bx[k]? =some y->k ∉ σ->y.live=true->ρ[k]? =some (some a)->a.block<w.heap.size/\a.block ∉ mus:=by
  intro k y a hk hm hl ha
  refine ⟨(hR.box k y _ hk ha).lt hl,fun hg=>?_⟩
  obtain ⟨i,j,a2,b,h1,h2,h3,h4,h5,h6,h7⟩:=hmus' _ hg
  refine (hsepσ i j a2 b h1 h3 h6 h7).2.1 k y a ?_ hk hl ha h4.symm
  rintro rfl
  exact hm (List.mem_of_getElem? h1)
 have hmusrc:∀ g,g∈mus->w0.heap.size<=g\/g∈mu.mu:=by
  intro g hg
  obtain ⟨i,j,a2,b,h1,h2,h3,h4,h5,h6,h7⟩:=hmus' _ hg
  rw [← h4];exact (hsepσ i j a2 b h1 h3 h6 h7).1
 have hsrc2:∀ g,(w.heap.size<=g\/g∈mus)->w0.heap.size<=g\/g∈mu.mu:=by
  rintro g (hg|hg)
  ·exact .inl (Nat.le_trans hR.keep.size hg)
  ·exact hmusrc g hg
 refine ⟨v,s.ren σ bx.length,merge σ bx bxs',E',ρ',rfl,hpp,by rw [ren_den hren'];exact hsd,?_,hK s bxs' E' hK'⟩
 refine ⟨?_,?_,?_,?_,hR'.hold,?_,?_⟩
 ·have hk:=hR'.keep
  refine ⟨hk.os.trans hR.keep.os,hk.tape.trans hR.keep.tape,hk.output.trans hR.keep.output,Nat.le_trans hR.keep.size hk.size,fun k h1 h2=>?_⟩
  rw [hk.block k (Nat.lt_of_lt_of_le h1 hR.keep.size) (fun hg=>by
   rcases hmusrc k hg with q|q
   ·omega
   ·exact h2 q)]
  exact hR.keep.block k h1 h2
 ·rw [hmlen]
  simp only [ρ',List.length_append,List.length_drop,hn,hl']
 ·intro k y oa h1 h2
  rcases hfrom k y h1 with ⟨hk,hm,hy,hρk⟩|⟨i,b,rfl,hb,rfl,hρk⟩
  ·rw [hρk] at h2
   refine ((hR.box k y oa hy h2).mono hpp).of_block fun a ha hlive=>?_
   subst ha
   obtain ⟨q1,q2⟩:=hold k y a hy hm hlive h2
   exact hR'.keep.block _ q1 q2
  ·rw [hρk] at h2
   exact (BoxAt.ren hren').2 (hR'.box i b oa hb h2)
 ·intro k y a h1 ho h2
  rcases hfrom k y h1 with ⟨hk,hm,hy,hρk⟩|⟨i,b,rfl,hb,rfl,hρk⟩
  ·rw [hρk] at h2
   obtain ⟨t1,t2,t3⟩:=hR.sep k y a hy ho h2
   obtain ⟨q1,q2⟩:=hold k y a hy hm (by simp [Box.live,ho]) h2
   refine ⟨t1,?_,?_⟩
   ·intro j b' a' hjk hj1 hl hj2
    rcases hfrom j b' hj1 with ⟨_,hm',hy',hρj⟩|⟨i',c,rfl,hc,rfl,hρj⟩
    ·rw [hρj] at hj2
     exact t2 j b' a' hjk hy' hl hj2
    ·rw [hρj] at hj2
     rw [Box.ren_live] at hl
     rcases hR'.bsrc i' c a' hc hl hj2 with q|q
     ·omega
     ·rintro e;rw [e] at q;exact q2 q
   ·intro v cs hE hne hb
    rcases hR'.src v cs hE hne with ⟨g,e1,e2⟩|⟨v0,cs0,e1,e2,e3⟩
    ·rw [hb] at e1;cases e1
     rcases e2 with q|q
     ·omega
     ·exact q2 q
    ·rw [hb] at e3;exact t3 v0 cs0 e1 e2 e3.symm
  ·rw [hρk] at h2
   have ho':b.own=true:=by simpa [Box.ren] using ho
   obtain ⟨t1,t2,t3⟩:=hR'.sep i b a hb ho' h2
   refine ⟨hsrc2 _ t1,?_,t3⟩
   intro j b' a' hjk hj1 hl hj2
   rcases hfrom j b' hj1 with ⟨_,hm',hy',hρj⟩|⟨i',c,rfl,hc,rfl,hρj⟩
   ·rw [hρj] at hj2
    obtain ⟨q1,q2⟩:=hold j b' a' hy' hm' hl hj2
    rcases t1 with q|q
    ·omega
    ·rintro e;rw [e] at q2;exact q2 q
   ·rw [hρj] at hj2
    rw [Box.ren_live] at hl
    exact t2 i' c a' (fun e=>hjk (by rw [e])) hc hl hj2
 ·intro k y a h1 hl h2
  rcases hfrom k y h1 with ⟨hk,hm,hy,hρk⟩|⟨i,b,rfl,hb,rfl,hρk⟩
  ·rw [hρk] at h2
   exact hR.bsrc k y a hy hl h2
  ·rw [hρk] at h2
   rw [Box.ren_live] at hl
   exact hsrc2 _ (hR'.bsrc i b a hb hl h2)
 ·intro v cs hE hne
  rcases hR'.src v cs hE hne with ⟨g,e1,e2⟩|⟨v0,cs0,e1,e2,e3⟩
  ·exact .inl ⟨g,e1,hsrc2 g e2⟩
  ·rw [e3];exact hR.src v0 cs0 e1 e2
theorem frame0 {P:Program} {f:FuncId} {args:List SV} {bx:List Box} {E:Mem} {K K':KT} {vs:List Value} (hv:SV.valL args=some vs) (h:CallSem P f args [] E K')
  (hK:∀ s bxs' E',K' s bxs' E'->K (s.ren [] bx.length) (bx++bxs'.map (Box.ren [] bx.length)) E'):CallSem P f args bx E K:=
 frame (σ:=[]) ⟨List.nodup_nil,rfl,fun i b h=>by simp at h⟩ (renL_of_val [] _ args hv).symm h (fun s bxs' E' h=>by simpa [merge,setAll] using hK s bxs' E' h)
end Go.Sx
namespace Go.Sx
open Go.RowKit (Below)
section
variable {P:Program} {w0 w:World} {mu:Fm} {bx:List Box} {E:Mem} {ρ:Env}
theorem mpDen_some {it:Bool} {b:Nat} {v:Value} (h:mpDen ρ it b=some v):
  ∃ a,ρ[b]? =some (some a)/\a.spot=some (cond it 1 0)/\v=cond it (.pointer (some ⟨a.block,0,none⟩)) (.map (some a.block)):=by
 unfold mpDen at h
 split at h
 ·rename_i a ha
  split at h
  ·rename_i hs;simp only [Option.some.injEq] at h;exact ⟨a,ha,hs,h.symm⟩
  ·cases h
 ·cases h
theorem Rel.ownMap (h:Rel w0 mu bx E ρ w) {it:Bool} {b:Nat} {x:Box} {v:Value} (hb:bx[b]? =some x) (ho:x.own=true) (hv:mpDen ρ it b=some v):
  ∃ a vs,ρ[b]? =some (some a)/\a.spot=some (cond it 1 0)/\v=cond it (.pointer (some ⟨a.block,0,none⟩)) (.map (some a.block))/\
   SV.denL ρ x.cells=some vs/\w.heap[a.block]? =some (objS a.spot vs)/\vs.length=x.total/\a.off=0/\x.elem=MAPE:=by
 obtain ⟨a,h1,h2,h3⟩:=mpDen_some hv
 obtain ⟨vs,h4,_,h5,_⟩:=(h.box b x _ hb h1).isMap (by rw [h2];simp)
 obtain ⟨h6,h7,h8,h9⟩:=h5 ho
 exact ⟨a,vs,h1,h2,h3,h4,h7,h8,h6,h9⟩
theorem Rel.allocObj (h:Rel w0 mu bx E ρ w) (r:Row) (vs:List Value) (sp:Nat) (hv:SV.denL ρ r.cells=some vs):
  Rel w0 mu (bx++[⟨MAPE,r,vs.length,true⟩]) E (ρ++[some ⟨w.heap.size,0,some sp⟩]) (w.alloc (objS (some sp) vs)):=by
 have hg:=h.grow (Keep.alloc [] w (objS (some sp) vs))
 refine hg.addBox _ _ (fun ρ' hp=>?_) fun a ha=>?_
 ·refine .inr ⟨by simp,vs,SV.denL_mono hp _ hv,fun _=>by simp,fun _=>⟨rfl,heap_alloc_new w _,rfl,rfl⟩,fun ho=>by cases ho⟩
 ·cases ha
  refine ⟨.inl h.keep.size,fun j b' a' h1 h2 h3=>?_,fun v cs hE hne hb=>?_⟩
  ·have:=(h.box j b' _ h1 h3).lt h2
   simp only;omega
  ·obtain ⟨b2,h3,h4⟩:=(h.hold v cs hE).lt hne
   rw [hb] at h3;cases h3
   exact absurd h4 (Nat.lt_irrefl _)
theorem Keep.putObj {mu:List Nat} {w0 w:World} (h:Keep mu w0 w) {g:Nat} (hg:w0.heap.size<=g\/g∈mu) (o:Obj):Keep mu w0 (w.putObj g o):=
 ⟨h.os,h.tape,h.output,by simpa using h.size,fun k hk hm=>by
  rw [World.putObj_heap_other (by rintro rfl;rcases hg with hg|hg;omega;exact hm hg)]
  exact h.block k hk hm⟩
theorem Rel.setMap (h:Rel w0 mu bx E ρ w) {i:Nat} {b:Box} (hb:bx[i]? =some b) (ho:b.own=true) {a:Addr}
  (hρ:ρ[i]? =some (some a)) (hsp:a.spot≠none) {r:Row} {vs:List Value} {n:Nat} (hv:SV.denL ρ r.cells=some vs) (hl:vs.length=n):
  Rel w0 mu (bx.set i ⟨b.elem,r,n,true⟩) E ρ (w.putObj a.block (objS a.spot vs)):=by
 obtain ⟨s1,s2,s3⟩:=h.sep i b _ hb ho hρ
 have hi:i<bx.length:=(List.getElem?_eq_some_iff.1 hb).1
 have hlt:=(h.box i b _ hb hρ).lt (by simp [Box.live,ho])
 refine ⟨h.keep.putObj s1 _,by simpa using h.len,?_,?_,?_,?_,h.src⟩
 ·intro j b' oa h1 h2
  by_cases hj:i=j
  ·subst hj
   rw [List.getElem?_set_self hi] at h1
   simp only [Option.some.injEq] at h1;subst h1
   rw [hρ] at h2;simp only [Option.some.injEq] at h2;subst h2
   obtain ⟨_,_,_,h5,_⟩:=(h.box i b _ hb hρ).isMap hsp
   exact .inr ⟨hsp,vs,hv,fun _=>by simpa using hlt,fun _=>⟨(h5 ho).1,World.putObj_heap_same hlt,hl,(h5 ho).2.2.2⟩,fun ho=>by cases ho⟩
  ·rw [List.getElem?_set_ne hj] at h1
   refine (h.box j b' oa h1 h2).of_block fun a' ha hlive=>?_
   subst ha
   exact World.putObj_heap_other (s2 j b' a' (Ne.symm hj) h1 hlive h2)
 ·intro j b' a' h1 ho' h2
  have key:∃ b2,bx[j]? =some b2/\b2.own=true:=by
   by_cases hj:i=j
   ·subst hj;exact ⟨b,hb,ho⟩
   ·rw [List.getElem?_set_ne hj] at h1;exact ⟨b',h1,ho'⟩
  obtain ⟨b2,hb2,ho2⟩:=key
  obtain ⟨t1,t2,t3⟩:=h.sep j b2 a' hb2 ho2 h2
  refine ⟨t1,?_,t3⟩
  intro k b3 a3 hkj hk1 hl3 hk2
  by_cases hk:i=k
  ·subst hk
   exact t2 i b _ hkj hb (by simp [Box.live,ho]) hk2
  ·rw [List.getElem?_set_ne hk] at hk1
   exact t2 k b3 a3 hkj hk1 hl3 hk2
 ·intro v cs hE
  exact (h.hold v cs hE).of_block fun bb hne hbb=>World.putObj_heap_other (by
   rintro rfl
   exact s3 v cs hE hne hbb)
 ·intro j b' a' h1 hl h2
  by_cases hj:i=j
  ·subst hj;exact h.bsrc i b a' hb (by simp [Box.live,ho]) h2
  ·rw [List.getElem?_set_ne hj] at h1
   exact h.bsrc j b' a' h1 hl h2
theorem mapEs_set:∀ (m:Nat) (vs:List Value) (j:Nat) (k v':Value),vs[2*m]? =some k->
  mapEs (vs.set (2*m+1) v') j=(mapEs vs j).modify m (fun e=>{ e with key:=k,val:=v' })
 | 0,[],_,_,_,h=>by simp at h
 | 0,[_],_,_,_,_=>rfl
 | 0,x::y::l,j,k,v',h=>by simp at h;subst h;simp [mapEs]
 | m+1,[],_,_,_,h=>by simp at h
 | m+1,[_],_,_,_,h=>by simp [Nat.mul_add] at h
 | m+1,x::y::l,j,k,v',h=>by
  have e1:2*(m+1)=2*m+1+1:=by omega
  have e2:2*(m+1)+1=(2*m+1)+1+1:=by omega
  rw [e1] at h
  simp only [List.getElem?_cons_succ] at h
  rw [e2]
  simp only [List.set_cons_succ,mapEs,List.modify_succ_cons,mapEs_set m l (j+1) k v' h]
theorem mapEs_push:∀ (vs:List Value) (j:Nat) (k v:Value),vs.length % 2=0->mapEs (vs++[k,v]) j=mapEs vs j++[⟨k,v,j+vs.length / 2⟩]
 | [],j,k,v,_=>by simp [mapEs]
 | [_],_,_,_,h=>by simp at h
 | x::y::l,j,k,v,h=>by
  have h':l.length % 2=0:=by simp only [List.length_cons] at h;omega
  simp only [List.cons_append,mapEs,mapEs_push l (j+1) k v h',List.length_cons]
  congr 4;omega
theorem mapEs_get:∀ (m:Nat) (vs:List Value) (j:Nat) (k v:Value),vs[2*m]? =some k->vs[2*m+1]? =some v->(mapEs vs j)[m]? =some ⟨k,v,j+m⟩
 | 0,[],_,_,_,h,_=>by simp at h
 | 0,[_],_,_,_,_,h=>by simp at h
 | 0,x::y::l,j,k,v,h,h'=>by simp at h h';subst h;subst h';simp [mapEs]
 | m+1,[],_,_,_,h,_=>by simp at h
 | m+1,[_],_,_,_,h,_=>by simp [Nat.mul_add] at h
 | m+1,x::y::l,j,k,v,h,h'=>by
  have e1:2*(m+1)=2*m+1+1:=by omega
  have e2:2*(m+1)+1=(2*m+1)+1+1:=by omega
  rw [e2] at h'
  rw [e1] at h
  simp only [List.getElem?_cons_succ] at h h'
  simp only [mapEs,List.getElem?_cons_succ,mapEs_get m l (j+1) k v h h']
  congr 2;omega
theorem findK_sound {k q:IntKind} {n:Int} {F:Nat->SV->Prop} {N:Prop}:∀ (cells:List SV) (vs:List Value) (i j:Nat),SV.denL ρ cells=some vs->findK k n cells i F N->
  (∃ m v s,Instr.findNow (.int q) (.int k n) (mapEs vs j) i=some (some (i+m,v))/\vs[2*m]? =some (.int k n)/\vs[2*m+1]? =some v/\s.den ρ=some v/\F (i+m) s)\/
  (Instr.findNow (.int q) (.int k n) (mapEs vs j) i=some none/\vs.length % 2=0/\N)
 | [],vs,i,j,hd,h=>by
  simp only [SV.denL,Option.some.injEq] at hd;subst hd
  exact .inr ⟨rfl,rfl,h⟩
 | .raw (.int k' a)::s::l,vs,i,j,hd,h=>by
  simp only [SV.denL,SV.den] at hd
  split at hd
  case h_2=>cases hd
  rename_i v ws h1 h2
  simp only [Option.some.injEq] at h1;subst h1
  split at h2
  case h_2=>cases h2
  rename_i v us h3 h4
  simp only [Option.some.injEq] at h2 hd;subst h2;subst hd
  simp only [findK] at h
  split at h
  case isFalse=>exact h.elim
  rename_i hk
  subst hk
  simp only [mapEs,Instr.findNow,Instr.sameNow,if_true]
  cases hn:(n==a) with
  | true=>
   rw [hn] at h
   have e:n=a:=by simpa using hn
   subst e
   exact .inl ⟨0,v,s,rfl,by simp,by simp,h3,h⟩
  | false=>
   rw [hn] at h
   rcases findK_sound l us (i+1) (j+1) h4 h with ⟨m,v',s',g1,g2,g3,g4,g5⟩|⟨g1,g2,g3⟩
   ·have e1:2*(m+1)=2*m+1+1:=by omega
    have e2:2*(m+1)+1=(2*m+1)+1+1:=by omega
    have e3:i+(m+1)=i+1+m:=by omega
    refine .inl ⟨m+1,v',s',?_,?_,?_,g4,by rw [e3];exact g5⟩
    ·rw [g1,e3]
    ·rw [e1];simpa using g2
    ·rw [e2];simpa using g3
   ·exact .inr ⟨g1,by simp only [List.length_cons];omega,g3⟩
 | [.raw (.int ..)],_,_,_,_,h=>by simp only [findK] at h
 | .raw (.bool _)::_,_,_,_,_,h| .raw (.float ..)::_,_,_,_,_,h| .raw (.complex ..)::_,_,_,_,_,h| .raw (.string _)::_,_,_,_,_,h| .raw (.pointer _)::_,_,_,_,_,h
 | .raw (.slice ..)::_,_,_,_,_,h| .raw (.map _)::_,_,_,_,_,h| .raw (.chan _)::_,_,_,_,_,h| .raw (.func ..)::_,_,_,_,_,h| .raw .nilFunc::_,_,_,_,_,h
 | .raw (.iface ..)::_,_,_,_,_,h| .raw .nilIface::_,_,_,_,_,h| .raw (.agg _)::_,_,_,_,_,h| .raw (.tuple _)::_,_,_,_,_,h=>by simp only [findK] at h
 | .loc .. ::_,_,_,_,_,h| .slc .. ::_,_,_,_,_,h| .rp .. ::_,_,_,_,_,h| .agg _::_,_,_,_,_,h| .tup _::_,_,_,_,_,h| .clo .. ::_,_,_,_,_,h
 | .ifc .. ::_,_,_,_,_,h| .mth .. ::_,_,_,_,_,h| .mp .. ::_,_,_,_,_,h=>by simp only [findK] at h
theorem run_checkKey_int {T:TypeId} {q:IntKind} (h:P.underlying T=some (.int q)) (e:Bool) (v:Value) (w:World):(Instr.checkKey e 10000 T v).run P w= .ok () w:=by
 unfold Instr.checkKey
 simp only [Sem.run_bind,run_underlying h,Result.andThen_ok]
 rfl
theorem run_findKey_int {T:TypeId} {q:IntKind} (h:P.underlying T=some (.int q)) {k:Value} {es:List MapEntry} {r:Option (Nat×Value)} (hf:Instr.findNow (.int q) k es 0=some r) (w:World):
  (Instr.findKey T k es).run P w= .ok r w:=by
 unfold Instr.findKey
 simp only [Sem.run_bind,run_underlying h,Result.andThen_ok,hf]
 rfl
theorem run_getMap {r:Nat} {es:Array MapEntry} {c:Nat} (hb:w.heap[r]? =some (.map es c)):(getObj r).run P w= .ok (.map es c) w:=by simp [getObj,Sem.run,hb]
theorem run_setMap' {r:Nat} {es:Array MapEntry} {c:Nat} (o:Obj) (hb:w.heap[r]? =some (.map es c)):(setObj r o).run P w= .ok () (w.putObj r o):=by simp [setObj,Sem.run,hb,World.putObj]
theorem mapB_some {T:TypeId} {s:SV} {b:Nat} {elem e:TypeId} {cells:List SV} {tot:Nat} (h:mapB P T s bx=some (b,elem,e,cells,tot)):
  ∃ key q,s= .mp false b/\P.underlying T=some (.map key elem)/\P.underlying key=some (.int q)/\bx[b]? =some ⟨e,.lst cells,tot,true⟩:=by
 unfold mapB at h
 split at h
 case h_2=>cases h
 rename_i b' key el hu
 split at h
 case h_2=>cases h
 rename_i q e' cs t' hk hb
 simp only [Option.some.injEq,Prod.mk.injEq] at h
 obtain ⟨rfl,rfl,rfl,rfl,rfl⟩:=h
 exact ⟨key,q,rfl,hu,hk,hb⟩
theorem keyK_some {s:SV} {k:IntKind} {n:Int} (h:keyK s=some (k,n)):s= .raw (.int k n):=by
 unfold keyK at h
 split at h
 ·simp only [Option.some.injEq,Prod.mk.injEq] at h;obtain ⟨rfl,rfl⟩:=h;rfl
 ·cases h
theorem lookupW_sound {T:TypeId} {x ix:SV} {ok:Bool} {K:SV->Prop} (h:lookupW P T x ix ok bx K) (hR:Rel w0 mu bx E ρ w) {xv iv:Value} (hx:x.den ρ=some xv) (hi:ix.den ρ=some iv):
  ∃ v s,(∀ w,Rel w0 mu bx E ρ w->(Instr.lookup T xv iv ok).run P w= .ok v w)/\s.den ρ=some v/\K s:=by
 unfold lookupW at h
 split at h
 case h_2=>exact h.elim
 rename_i b elem e cells tot k n hm hk
 obtain ⟨key,q,rfl,hu,hq,hb⟩:=mapB_some hm
 obtain rfl:=keyK_some hk
 split at h
 case h_2=>exact h.elim
 rename_i z hz
 obtain ⟨info,hinf,hz⟩:=Option.bind_eq_some_iff.1 hz
 simp only [SV.den,Option.some.injEq] at hi;subst hi
 simp only [SV.den] at hx
 obtain ⟨a,vs,h1,h2,h3,h4,h5,h6,_⟩:=hR.ownMap hb rfl hx
 simp only [cond] at h2 h3
 subst h3
 have hobj:∀ {w},Rel w0 mu bx E ρ w->w.heap[a.block]? =some (.map (mapEs vs 0).toArray (vs.length / 2)):=fun {w} hR=>by
  obtain ⟨a',vs',k1,k2,_,k4,k5,_⟩:=hR.ownMap hb rfl hx
  rw [h1] at k1;cases k1
  rw [h4] at k4;cases k4
  rw [k5,k2];rfl
 rcases findK_sound (q:=q) cells vs 0 0 h4 h with ⟨m,v,s,g1,g2,g3,g4,g5⟩|⟨g1,g2,g3⟩
 ·refine ⟨cond ok (.tuple #[v,.bool true]) v,_,fun w hR=>?_,?_,g5⟩
  ·unfold Instr.lookup
   have hf:=run_findKey_int (P:=P) hq (k:=.int k n) g1 w
   simp only [Sem.run_bind,run_underlying hu,Result.andThen_ok,run_getMap (hobj hR),Sem.run_pure,run_checkKey_int hq,hf]
   cases ok<;>rfl
  ·cases ok
   ·exact g4
   ·simp [SV.den,SV.denL,g4]
 ·refine ⟨cond ok (.tuple #[z,.bool false]) z,_,fun w hR=>?_,?_,g3⟩
  ·unfold Instr.lookup
   have hf:=run_findKey_int (P:=P) hq (k:=.int k n) g1 w
   simp only [Sem.run_bind,run_underlying hu,Result.andThen_ok,run_getMap (hobj hR),Sem.run_pure,run_checkKey_int hq,hf,run_zeroValue' hinf hz]
   cases ok<;>rfl
  ·cases ok
   ·rfl
   ·simp [SV.den,SV.denL]
theorem updateW_sound {T:TypeId} {x ix s:SV} {K:List Box->Prop} (h:updateW P T x ix s bx K) (hR:Rel w0 mu bx E ρ w) {xv iv sv:Value} (hx:x.den ρ=some xv) (hi:ix.den ρ=some iv) (hs:s.den ρ=some sv):
  ∃ w' bx',(Instr.mapUpdate T xv iv sv).run P w= .ok () w'/\Rel w0 mu bx' E ρ w'/\K bx':=by
 unfold updateW at h
 split at h
 case h_2=>exact h.elim
 rename_i b elem e cells tot k n hm hk
 obtain ⟨key,q,rfl,hu,hq,hb⟩:=mapB_some hm
 obtain rfl:=keyK_some hk
 simp only [SV.den,Option.some.injEq] at hi;subst hi
 simp only [SV.den] at hx
 obtain ⟨a,vs,h1,h2,h3,h4,h5,h6,_⟩:=hR.ownMap hb rfl hx
 simp only [cond] at h2 h3
 subst h3
 simp only at h6
 have hobj:w.heap[a.block]? =some (.map (mapEs vs 0).toArray (vs.length / 2)):=by rw [h5,h2];rfl
 rcases findK_sound (q:=q) cells vs 0 0 h4 h with ⟨m,v,s',g1,g2,g3,g4,g5⟩|⟨g1,g2,g3⟩
 ·have hset:=hR.setMap hb rfl h1 (by rw [h2];simp) (r:=.lst (cells.set (2*m+1) s)) (denL_set h4 (2*m+1) hs) (n:=tot) (by simpa using h6)
  refine ⟨_,_,?_,hset,by simpa using g5⟩
  unfold Instr.mapUpdate
  have hf:=run_findKey_int (P:=P) hq (k:=.int k n) g1 w
  have hge:=mapEs_get m vs 0 _ _ g2 g3
  have hkey:(((mapEs vs 0).toArray[0+m]?.map fun e=>e.key).getD (.int k n))= .int k n:=by
   rw [Nat.zero_add,List.getElem?_toArray,hge];rfl
  have hks:∀ w,(Instr.keyThatStays (.int k n) (.int k n)).run P w= .ok (.int k n) w:=fun w=>by
   unfold Instr.keyThatStays
   simp [Instr.sameBits]
  simp only [Sem.run_bind,run_underlying hu,Result.andThen_ok,run_getMap hobj,run_checkKey_int hq,hf,hkey,hks,run_setMap' _ hobj]
  congr 2
  rw [h2]
  simp only [objS,if_true,mapObj,List.length_set,mapEs_set m vs 0 _ sv g2,Nat.zero_add]
  congr 1
  apply Array.ext'
  simp
 ·have hset:=hR.setMap hb rfl h1 (by rw [h2];simp) (r:=.lst (cells++[.raw (.int k n),s])) (vs:=vs++[.int k n,sv]) (denL_append h4 (by simp [SV.denL,SV.den,hs])) (n:=tot+2) (by simpa using h6)
  refine ⟨_,_,?_,hset,g3⟩
  unfold Instr.mapUpdate
  have hf:=run_findKey_int (P:=P) hq (k:=.int k n) g1 w
  simp only [Sem.run_bind,run_underlying hu,Result.andThen_ok,run_getMap hobj,run_checkKey_int hq,hf,run_setMap' _ hobj]
  congr 2
  rw [h2]
  simp only [objS,if_true,mapObj,List.length_append,List.length_cons,List.length_nil,mapEs_push vs 0 _ sv g2,Nat.zero_add]
  congr 1
  ·apply Array.ext'
   simp
  ·omega
theorem makeMapW_sound {T:TypeId} {r:Option (Option SV)} {rv:Option Value} {K:SV->List Box->Prop} (h:makeMapW P T r bx K) (hR:Rel w0 mu bx E ρ w) (hr:∀ s,r=some (some s)->∃ v,rv=some v/\s.den ρ=some v) (hn:r=none->rv=none):
  ∃ v w' s bx' ρ',(Instr.makeMap T rv).run P w= .ok v w'/\ρ<+:ρ'/\s.den ρ'=some v/\Rel w0 mu bx' E ρ' w'/\K s bx'/\bx<+:bx':=by
 have hal:=hR.allocObj (.lst []) [] 0 rfl
 have fin:K (.mp false bx.length) (bx++[⟨MAPE,.lst [],0,true⟩])->(Instr.makeMap T rv).run P w= .ok (.map (some w.heap.size)) (w.alloc (.map #[] 0))->
   ∃ v w' s bx' ρ',(Instr.makeMap T rv).run P w= .ok v w'/\ρ<+:ρ'/\s.den ρ'=some v/\Rel w0 mu bx' E ρ' w'/\K s bx'/\bx<+:bx':=fun hK hrun=>
  ⟨_,_,.mp false bx.length,_,_,hrun,List.prefix_append _ _,by simp [SV.den,mpDen,← hR.len],hal,hK,List.prefix_append _ _⟩
 unfold makeMapW at h
 split at h
 ·obtain rfl:=hn rfl
  exact fin h (by simp [Instr.makeMap])
 ·rename_i k n key elem hu
  obtain ⟨v,rfl,hv⟩:=hr _ rfl
  simp only [SV.den,Option.some.injEq] at hv;subst hv
  refine fin h ?_
  simp [Instr.makeMap,run_underlying hu,asInt,asIntOf]
 ·exact h.elim
theorem mapEs_born:∀ (vs:List Value) (j:Nat),vs.length % 2=0->(mapEs vs j).map (·.born)=(List.range (vs.length / 2)).map (j+·)
 | [],j,_=>by simp [mapEs]
 | [_],_,h=>by simp at h
 | x::y::l,j,h=>by
  have h':l.length % 2=0:=by simp only [List.length_cons] at h;omega
  have e:(x::y::l).length / 2=l.length / 2+1:=by simp only [List.length_cons];omega
  rw [e,List.range_succ_eq_map]
  simp only [mapEs,List.map_cons,mapEs_born l (j+1) h',List.map_map,Nat.add_zero]
  congr 1
  apply List.map_congr_left
  intro i _
  simp only [Function.comp];omega
theorem mapEs_length (vs:List Value) (h:vs.length % 2=0):(mapEs vs 0).length=vs.length / 2:=by
 have:=congrArg List.length (mapEs_born vs 0 h)
 simpa using this
theorem mapEs_at {vs:List Value} (h:vs.length % 2=0) {i:Nat} {e:MapEntry} (he:(mapEs vs 0)[i]? =some e):e.born=i:=by
 have h1:=congrArg (·[i]?) (mapEs_born vs 0 h)
 have hi:i<vs.length / 2:=by rw [← mapEs_length vs h];exact (List.getElem?_eq_some_iff.1 he).1
 simp only [List.getElem?_map,he,Option.map_some,List.getElem?_range hi,Option.some.injEq] at h1
 omega
theorem seenO_den:∀ {seen:List SV} {l:List Nat} {vs:List Value},seenO seen=some l->SV.denL ρ seen=some vs->vs.map asNat=l
 | [],l,vs,h,hd=>by simp only [seenO,Option.some.injEq] at h;simp only [SV.denL,Option.some.injEq] at hd;subst h;subst hd;rfl
 | x::s,l,vs,h,hd=>by
  unfold seenO at h
  split at h
  ·rename_i e;cases e
  ·rename_i k n s' e
   cases e
   rw [Option.map_eq_some_iff] at h
   obtain ⟨l',h1,rfl⟩:=h
   simp only [SV.denL,SV.den] at hd
   split at hd
   case h_2=>cases hd
   rename_i v ws g1 g2
   simp only [Option.some.injEq] at g1 hd;subst g1;subst hd
   simp only [List.map_cons,seenO_den h1 g2]
   rfl
  ·cases h
theorem allK_all {f:Nat->Prop}:∀ {l:List Nat},allK f l->∀ i∈l,f i
 | [],_,i,hi=>by simp at hi
 | [j],h,i,hi=>by simp at hi;subst hi;exact h
 | j::k::l,h,i,hi=>by
  simp only [allK] at h
  rcases List.mem_cons.1 hi with rfl|hi
  ·exact h.1
  ·exact allK_all (l:=k::l) h.2 i hi
theorem rangeW_sound {T:TypeId} {x:SV} {K:SV->List Box->Prop} (h:rangeW P T x bx K) (hR:Rel w0 mu bx E ρ w) {xv:Value} (hx:x.den ρ=some xv):
  ∃ v w' s bx' ρ',(Instr.range T xv).run P w= .ok v w'/\ρ<+:ρ'/\s.den ρ'=some v/\Rel w0 mu bx' E ρ' w'/\K s bx'/\bx<+:bx':=by
 unfold rangeW at h
 split at h
 case h_2=>exact h.elim
 rename_i b key elem hu
 split at h
 case h_2=>exact h.elim
 rename_i e cells tot hb
 simp only [SV.den] at hx
 obtain ⟨a,vs,h1,h2,h3,h4,h5,h6,_⟩:=hR.ownMap hb rfl hx
 simp only [cond] at h2 h3
 subst h3
 have hobj:w.heap[a.block]? =some (.map (mapEs vs 0).toArray (vs.length / 2)):=by rw [h5,h2];rfl
 have hl:vs.length=cells.length:=denL_length h4
 have hal:=hR.allocObj (.lst [.mp false b,.raw (.int .i64 (cells.length / 2:Nat))]) [.map (some a.block),.int .i64 (cells.length / 2:Nat)] 1 (by simp [Row.cells,SV.denL,SV.den,hx])
 refine ⟨.pointer (some ⟨w.heap.size,0,none⟩),_,.mp true bx.length,_,_,?_,List.prefix_append _ _,?_,hal,h,List.prefix_append _ _⟩
 ·unfold Instr.range
  simp only [Sem.run_bind,run_underlying hu,Result.andThen_ok,run_getMap hobj,Sem.run_pure,run_newObj_alloc]
  rw [hl]
  simp only [objS,itObj,refOf,asNat,Int.toNat_natCast]
  rfl
 ·simp [SV.den,mpDen,← hR.len]
theorem iterB_some {s:SV} {j b:Nat} {cells ic:List SV} {l:List Nat} {tot:Nat} (h:iterB s bx=some (j,b,cells,ic,l,tot)):
  ∃ e e' k n seen t',s= .mp true j/\bx[j]? =some ⟨e,.lst ic,tot,true⟩/\ic= .mp false b::.raw (.int k n)::seen/\bx[b]? =some ⟨e',.lst cells,t',true⟩/\seenO seen=some l/\n.toNat=cells.length / 2/\cells.length % 2=0:=by
 unfold iterB at h
 split at h
 case h_2=>cases h
 rename_i j'
 split at h
 case h_2=>cases h
 rename_i e b' k n seen tot' hj
 split at h
 case h_2=>cases h
 rename_i e' cells' t' l' hb hs
 split at h
 case isFalse=>cases h
 rename_i hc
 simp only [Option.some.injEq,Prod.mk.injEq] at h
 obtain ⟨rfl,rfl,rfl,rfl,rfl,rfl⟩:=h
 exact ⟨e,e',k,n,seen,t',rfl,hj,rfl,hb,hs,hc.1,hc.2⟩
theorem Rel.iter (hR:Rel w0 mu bx E ρ w) {s:SV} {j b:Nat} {cells ic:List SV} {l:List Nat} {tot:Nat} (h:iterB s bx=some (j,b,cells,ic,l,tot)) {sv:Value} (hs:s.den ρ=some sv):
  ∃ a am vs ivs e,sv= .pointer (some ⟨a.block,0,none⟩)/\bx[j]? =some ⟨e,.lst ic,tot,true⟩/\e=MAPE/\ρ[j]? =some (some a)/\a.spot=some 1/\SV.denL ρ ic=some ivs/\SV.denL ρ cells=some vs/\vs.length=cells.length/\vs.length % 2=0/\ivs.length=tot/\
   w.heap[am]? =some (.map (mapEs vs 0).toArray (vs.length / 2))/\w.heap[a.block]? =some (.mapIter (some am) (vs.length / 2) l.toArray (vs.length / 2))/\
   ∀ i,objS a.spot (ivs++[.int .i64 (i:Nat)])= .mapIter (some am) (vs.length / 2) (l.toArray.push i) (vs.length / 2):=by
 obtain ⟨e,e',k,n,seen,t',rfl,hj,hic,hb,hse,hn,hev⟩:=iterB_some h
 simp only [SV.den] at hs
 obtain ⟨a,ivs,h1,h2,h3,h4,h5,h6,_,h7⟩:=hR.ownMap hj rfl hs
 simp only [cond] at h2 h3
 have h4':=h4
 simp only [Box.cells,Row.cells] at h4 h4'
 rw [hic] at h4
 simp only [SV.denL,SV.den] at h4
 split at h4
 case h_2=>cases h4
 rename_i mv r1 g1 g2
 split at g2
 case h_2=>cases g2
 rename_i nv svs g3 g4
 simp only [Option.some.injEq] at g2 g3 h4
 subst g3;subst g2;subst h4
 obtain ⟨am,vs,m1,m2,m3,m4,m5,m6,_⟩:=hR.ownMap hb rfl g1
 simp only [cond] at m2 m3
 subst m3
 have hvl:vs.length=cells.length:=denL_length m4
 have hsn:=seenO_den hse g4
 have key:∀ sq,objS a.spot (.map (some am.block)::.int k n::sq)= .mapIter (some am.block) (vs.length / 2) (sq.map asNat).toArray (vs.length / 2):=fun sq=>by
  rw [h2,hvl,← hn]
  simp [objS,itObj,refOf,asNat]
 refine ⟨a,am.block,vs,_,e,h3,hj,h7,h1,h2,h4',m4,hvl,by omega,h6,by rw [m5,m2];rfl,by rw [h5,key,hsn],fun i=>?_⟩
 rw [List.cons_append,List.cons_append,key]
 congr 1
 rw [List.map_append,hsn]
 simp [asNat]
theorem nextW_sound {ty:TypeId} {it:SV} {K:SV->List Box->Prop} (h:nextW it bx K) (hR:Rel w0 mu bx E ρ w) {iv:Value} (hi:it.den ρ=some iv):
  ∃ v w' s bx',(Instr.next iv false ty).run P w= .ok v w'/\s.den ρ=some v/\Rel w0 mu bx' E ρ w'/\K s bx':=by
 unfold nextW at h
 split at h
 case h_2=>exact h.elim
 rename_i j b cells ic l tot hit
 obtain ⟨a,am,vs,ivs,e,rfl,hj,he,hρ,hsp,hic,hcs,hvl,hev,htot,hm,ho,hpush⟩:=hR.iter hit hi
 have hborn:∀ x∈(mapEs vs 0).toArray.toList,x.born<vs.length / 2:=fun x hx=>by
  obtain ⟨i,hi2⟩:=List.getElem?_of_mem (show x∈mapEs vs 0 by simpa using hx)
  rw [mapEs_at hev hi2,← mapEs_length vs hev]
  exact (List.getElem?_eq_some_iff.1 hi2).1
 have hleft:∀ i,i∈(List.range (cells.length / 2)).filter (fun i=> !l.contains i)->∀ x,(mapEs vs 0)[i]? =some x->x∈(leftOf (mapEs vs 0).toArray l.toArray).toList:=fun i hi2 x hx=>by
  have:=(List.mem_filter.1 hi2).2
  have hb2:=mapEs_at hev hx
  simp only [leftOf,Array.toList_filter,List.mem_filter]
  refine ⟨List.mem_of_getElem? hx,?_⟩
  rw [hb2]
  simpa using this
 rcases run_next_at (P:=P) w ty a.block am (vs.length / 2) (vs.length / 2) l.toArray (mapEs vs 0).toArray (vs.length / 2) ho hm hborn (Nat.le_refl _) with ⟨h0,hrun⟩|⟨x,hx,w1,hw1,hrun⟩
 ·have hnil:(List.range (cells.length / 2)).filter (fun i=> !l.contains i)=[]:=by
   cases hf:(List.range (cells.length / 2)).filter (fun i=> !l.contains i) with
   | nil=>rfl
   | cons i r=>
    have hi2:i∈(List.range (cells.length / 2)).filter (fun i=> !l.contains i):=by rw [hf];simp
    have hlt:i<(mapEs vs 0).length:=by
     rw [mapEs_length vs hev,hvl]
     exact List.mem_range.1 (List.mem_filter.1 hi2).1
    have:=hleft i hi2 _ (List.getElem?_eq_getElem hlt)
    have h9:(leftOf (mapEs vs 0).toArray l.toArray).toList.length=0:=by rw [Array.length_toList];exact h0
    rw [List.eq_nil_of_length_eq_zero h9] at this
    cases this
  rw [hnil] at h
  exact ⟨_,w,_,bx,hrun,by simp [SV.den,SV.denL],hR,h⟩
 ·-- an entry that is left
  have hx':x∈mapEs vs 0/\¬ x.born∈l:=by
   simp only [leftOf,Array.toList_filter,List.mem_filter] at hx
   exact ⟨hx.1,by simpa using hx.2⟩
  obtain ⟨i,hi2⟩:=List.getElem?_of_mem hx'.1
  have hbi:=mapEs_at hev hi2
  have hlt:i<cells.length / 2:=by
   have:=(List.getElem?_eq_some_iff.1 hi2).1
   rw [mapEs_length vs hev,hvl] at this;exact this
  have hmem:i∈(List.range (cells.length / 2)).filter (fun i=> !l.contains i):=by
   refine List.mem_filter.2 ⟨List.mem_range.2 hlt,?_⟩
   have:=hx'.2
   rw [hbi] at this
   simpa using this
  have h':∃ k v,cells[2*i]? =some k/\cells[2*i+1]? =some v/\K (.tup [.raw (.bool true),k,v]) (bx.set j ⟨MAPE,.lst (ic++[.raw (.int .i64 i)]),tot+1,true⟩):=by
   have hall:∀ r,(List.range (cells.length / 2)).filter (fun i=> !l.contains i)=r->r≠[]:=fun r e q=>by rw [e,q] at hmem;simp at hmem
   split at h
   ·rename_i q;exact absurd rfl (hall _ q)
   ·have:=allK_all h i hmem
    split at this
    ·rename_i k v q1 q2;exact ⟨k,v,q1,q2,this⟩
    ·exact this.elim
  obtain ⟨k,v,q1,q2,hK⟩:=h'
  obtain ⟨kv,k1,k2⟩:=denL_get hcs q1
  obtain ⟨vv,v1,v2⟩:=denL_get hcs q2
  have hent:=mapEs_get i vs 0 _ _ k1 v1
  rw [hi2] at hent
  simp only [Option.some.injEq,Nat.zero_add] at hent
  subst hent
  have hR1:Rel w0 mu bx E ρ w1:=by rcases hw1 with rfl|rfl;exact hR;exact hR.drew _
  have hset:=hR1.setMap hj rfl hρ (by rw [hsp];simp) (r:=.lst (ic++[.raw (.int .i64 i)])) (vs:=ivs++[.int .i64 (i:Nat)]) (denL_append hic (by simp [SV.denL,SV.den])) (n:=tot+1) (by simp [htot])
  rw [hpush i,he] at hset
  exact ⟨_,_,_,_,hrun,by simp [SV.den,SV.denL,k2,v2],hset,hK⟩
theorem entryW_sound {it:SV} {K:SV->Prop} (h:entryW it bx K) (hR:Rel w0 mu bx E ρ w) {iv:Value} (hi:it.den ρ=some iv):
  ∃ v s,(Instr.entry iv).run P w= .ok v w/\s.den ρ=some v/\K s:=by
 unfold entryW at h
 split at h
 case h_2=>exact h.elim
 rename_i j b cells ic l tot hit
 obtain ⟨a,am,vs,ivs,e,rfl,hj,he,hρ,hsp,hic,hcs,hvl,hev,htot,hm,ho,hpush⟩:=hR.iter hit hi
 split at h
 case h_2=>exact h.elim
 rename_i i hl
 split at h
 case h_2=>exact h.elim
 rename_i k v q1 q2
 obtain ⟨kv,k1,k2⟩:=denL_get hcs q1
 obtain ⟨vv,v1,v2⟩:=denL_get hcs q2
 have hent:=mapEs_get i vs 0 _ _ k1 v1
 have hlp:l.toArray=l.dropLast.toArray.push i:=by
  obtain ⟨l',hl'⟩:=List.getLast?_eq_some_iff.1 hl
  subst hl'
  simp
 refine ⟨_,_,run_entry_at w a.block am (vs.length / 2) l.dropLast.toArray _ _ ⟨kv,vv,i⟩ ?_ hm ?_ ?_,?_,h⟩
 ·rw [ho,hlp]
 ·have:=List.mem_of_getElem? hent
  simpa using this
 ·have:=mapEs_born vs 0 hev
  simp only at this ⊢
  rw [this]
  simp only [Nat.zero_add,List.map_id']
  exact List.nodup_range
 ·simp [SV.den,SV.denL,k2,v2]
theorem mapLen_sound {t t':TypeId} {b:Nat} {key elem:TypeId} {e:TypeId} {cells:List SV} {tot:Nat} (hu:P.underlying t=some (.map key elem)) (hb:bx[b]? =some ⟨e,.lst cells,tot,true⟩) (hR:Rel w0 mu bx E ρ w) {v:Value} (hv:mpDen ρ false b=some v) (ts:Array TypeId) (ht:ts[0]? =some t):
  (Builtin.len_ ts t' #[v]).run P w= .ok (.int .i64 (cells.length / 2:Nat)) w:=by
 obtain ⟨a,vs,h1,h2,h3,h4,h5,h6,_⟩:=hR.ownMap hb rfl hv
 simp only [cond] at h2 h3
 subst h3
 have hobj:w.heap[a.block]? =some (.map (mapEs vs 0).toArray (vs.length / 2)):=by rw [h5,h2];rfl
 have hl:∀ (n:Nat) (vs:List Value) (j:Nat),vs.length<n->(mapEs vs j).length=vs.length / 2:=by
  intro n
  induction n with
  | zero=>intro vs j h;omega
  | succ n ih=>
   intro vs j h
   match vs with
   | []=>rfl
   | [_]=>simp [mapEs]
   | x::y::l=>
    simp only [List.length_cons] at h
    simp only [mapEs,List.length_cons,ih l (j+1) (by omega)];omega
 have hc:vs.length=cells.length:=denL_length h4
 unfold Builtin.len_
 simp [ht,run_underlying hu,run_getMap hobj,goInt,hl _ vs 0 (Nat.lt_succ_self _),hc]
end
end Go.Sx
