/- The symbolic evaluator: a part of it; generic over programs. Conditions: none. -/
import Derived.Test.YtnjmojacdkjfoaaSyH
namespace Go.Sx
open Go.RowKit (Below)
variable {mu:Fm} {w0 w:World} {ρ0 ρ:Env} {K:St->Prop} {a:Act} {S:St} {ro:Option Nat} {Q:Exit->Act->World->Prop} {o:Oper} {Ω:Option Rc}
inductive Ex where
 | normal|exit (id:Nat)|ret
def St.put (S:St) (dst:Option Tmp) (s:SV):St:=
 match dst with
 | some d=>{ S with fr:=S.fr.set d (some s) }
 | none=>S
def guardW (all:Array Oper) (o:Oper) (S:St) (exec skip:St->Prop):Prop:=
 match o.guard with
 | none=>exec S
 | some (j,want)=>
  match (all[j]?).bind (·.dst) with
  | none=>False
  | some d=>match S.fr[d]? with
   | some (some (.raw (.bool b)))=>match want with
    | true=>cond b (exec (S.put (some d) (.raw (.bool true)))) (skip (S.put (some d) (.raw (.bool false))))
    | false=>cond b (skip (S.put (some d) (.raw (.bool true)))) (exec (S.put (some d) (.raw (.bool false))))
   | some (some (.raw (.tuple _)))=>skip S
   | _=>False
def stepW (P:Program) (callW:CallT) (all:Array Oper) (o:Oper) (S:St) (K:St->Prop):Prop:=
 guardW all o S (fun S=>opW P callW o.op S fun s bx E=>K (({ S with bx:=bx,E:=E }:St).put o.dst s)) (fun S=>K (S.put o.dst (.raw undef)))
def stepGW (P:Program) (callW:CallT) (all:Array Oper) (o:Oper) (S:St) (K:St->Prop):Prop:=
 guardW all o S (fun S=>if growOp o.op S then opW P callW o.op S fun s bx E=>K (({ S with bx:=bx,E:=E }:St).put o.dst s) else False) (fun S=>K (S.put o.dst (.raw undef)))
def opsW (P:Program) (callW:CallT) (all:Array Oper):List Oper->St->(St->Prop)->Prop
 | [],S,K=>K S
 | o::r,S,K=>stepW P callW all o S fun S'=>opsW P callW all r S' K
def Lift (w0:World) (mu:Fm) (ρ0:Env) (K:St->Prop):Act->World->Prop:=fun a w=>
 (a.defers=mu.ds/\okO w0 mu)/\∃ S ρ,ρ0<+:ρ/\Rel w0 mu S.bx S.E ρ w/\FrRel ρ S.fr a.tmps/\K S
def okD (w0:World) (mu:Fm):Prop:=mu.ds.Nodup/\∀ d∈mu.ds,∃ D,d={ target:=.collected D,args:=#[] }/\w0.heap[D]? =some (.deferred (some []))/\D ∉ mu.mu
structure Base (w0:World) (mu:Fm) (w1:World) (mu1:Fm):Prop where
 om:mu1.om=mu.om
 back:∀ bx E ρ w,Rel w1 mu1 bx E ρ w->Rel w0 mu bx E ρ w
 backX:∀ c o bx E ρ w,mu.om=some c->okO w0 mu->Rel (w1.putObj c.l (.loop o)) mu1 bx E ρ w->Rel (w0.putObj c.l (.loop o)) mu bx E ρ w
 okX:okO w0 mu->okO w1 mu1
 size:w0.heap.size<=w1.heap.size
 mark:okD w0 mu->okD w1 mu1
 fresh:∀ d∈mu1.ds,d∈mu.ds\/∃ D,d={ target:=.collected D,args:=#[] }/\w0.heap.size<=D
theorem Base.refl (w0:World) (mu:Fm):Base w0 mu w0 mu:=⟨rfl,fun _ _ _ _ h=>h,fun _ _ _ _ _ _ _ _ h=>h,fun h=>h,Nat.le_refl _,fun h=>h,fun _ h=>.inl h⟩
theorem Base.trans {w1 w2:World} {mu1 mu2:Fm} (h:Base w0 mu w1 mu1) (k:Base w1 mu1 w2 mu2):Base w0 mu w2 mu2:=
 ⟨k.om.trans h.om,fun bx E ρ w x=>h.back bx E ρ w (k.back bx E ρ w x),fun c o bx E ρ w e ho x=>h.backX c o bx E ρ w e ho (k.backX c o bx E ρ w (h.om.trans e) (h.okX ho) x),fun x=>k.okX (h.okX x),Nat.le_trans h.size k.size,fun x=>k.mark (h.mark x),fun d hd=>by
  rcases k.fresh d hd with q|⟨D,e,q⟩
  ·exact h.fresh d q
  ·exact .inr ⟨D,e,Nat.le_trans h.size q⟩⟩
def LiftR (w0:World) (mu:Fm) (ρ0:Env) (K:St->Prop):Act->World->Prop:=fun a w=>∃ w1 mu1,Base w0 mu w1 mu1/\Lift w1 mu1 ρ0 K a w
def LiftX (w0:World) (mu:Fm) (ρ0:Env):Act->World->Prop:=fun a w=>∃ c,mu.om=some c/\okO w0 mu/\∃ w1 mu1,Base w0 mu w1 mu1/\a.defers=mu1.ds/\∃ bx E ρ,ρ0<+:ρ/\Rel (w1.putObj c.l (.loop c.stop)) mu1 bx E ρ w/\c.q bx E
def LiftQ (w0:World) (mu:Fm) (ρ0:Env) (Q:Ex->St->Prop):Exit->Act->World->Prop
 | .normal=>LiftR w0 mu ρ0 (Q .normal)
 | .exit id=>LiftR w0 mu ρ0 (Q (.exit id))
 | .ret=>fun a w=>LiftR w0 mu ρ0 (Q .ret) a w\/LiftX w0 mu ρ0 a w
 | _=>fun _ _=>False
theorem Lift.mono {K':St->Prop} (h:Lift w0 mu ρ0 K a w) (hk:∀ S,K S->K' S):Lift w0 mu ρ0 K' a w:=
 let ⟨h1,S,ρ,h2,h3,h4,h5⟩:=h;⟨h1,S,ρ,h2,h3,h4,hk S h5⟩
theorem LiftR.mono {K':St->Prop} (h:LiftR w0 mu ρ0 K a w) (hk:∀ S,K S->K' S):LiftR w0 mu ρ0 K' a w:=
 let ⟨w1,mu1,h1,h2⟩:=h;⟨w1,mu1,h1,h2.mono hk⟩
theorem LiftR.of (h:Lift w0 mu ρ0 K a w):LiftR w0 mu ρ0 K a w:=⟨w0,mu,Base.refl w0 mu,h⟩
theorem LiftR.base {w1:World} {mu1:Fm} (hb:Base w0 mu w1 mu1) (h:LiftR w1 mu1 ρ0 K a w):LiftR w0 mu ρ0 K a w:=
 let ⟨w2,mu2,h1,h2⟩:=h;⟨w2,mu2,hb.trans h1,h2⟩
theorem FrRel.put (h:FrRel ρ S.fr a.tmps) (dst:Option Tmp) {s:SV} {v:Value} (hv:s.den ρ=some v):FrRel ρ (S.put dst s).fr (a.put dst v).tmps:=by
 cases dst with
 | none=>exact h
 | some d=>exact h.set d hv
theorem put_defers (a:Act) (dst:Option Tmp) (v:Value):(a.put dst v).defers=a.defers:=by cases dst<;>rfl
theorem St.put_bx (S:St) (dst:Option Tmp) (s:SV):(S.put dst s).bx=S.bx:=by cases dst<;>rfl
theorem St.put_E (S:St) (dst:Option Tmp) (s:SV):(S.put dst s).E=S.E:=by cases dst<;>rfl
theorem FrRel.lit {d:Nat} {b c:Bool} (hF:FrRel ρ S.fr a.tmps) (h1:a.tmps[d]? =some (.bool b)) (e:b=c):FrRel ρ (S.put (some d) (.raw (.bool c))).fr a.tmps:=by
 subst e
 have:=FrRel.put (S:=S) (a:=a) hF (some d) (s:=.raw (.bool b)) (v:=.bool b) rfl
 have e2:(a.put (some d) (.bool b)).tmps=a.tmps:=by
  simp only [Act.put]
  apply Array.ext_getElem?
  intro i
  by_cases hi:d=i
  ·subst hi
   have hlt:d<a.tmps.size:=by
    rcases Nat.lt_or_ge d a.tmps.size with h'|h'
    ·exact h'
    ·simp [Array.getElem?_eq_none h'] at h1
   simp [hlt]
   simpa [hlt] using h1.symm
  ·rw [Array.getElem?_setIfInBounds_ne hi]
 rw [e2] at this;exact this
section
variable {P:Program} {callW:CallT} {all:Array Oper}
theorem wpInW {next:Act->World->Prop} (hnd:∀ c,o.op≠.defer c) (h:o.uponIn (fW ro) 0 P a next Q ((execOp a.eval o).run P w)):o.wpIn (fW ro) 0 P a w next Q:=
 ⟨fun _ _=>trivial,by rw [Oper.semAt_eq _ _ _ hnd];exact h⟩
theorem opW_defer {K:KT} {op:Op} (h:opW P callW op S K):∀ c,op≠.defer c:=by
 rintro c rfl;exact h
theorem stepW_sound (hcall:CallOK Ω P callW)
  (hom:mu.om=Ω/\okE Ω ρ0) (h:Lift w0 mu ρ0 (fun S=>stepW P callW all o S K) a w):
  if Region.wanted o (yielded all a.tmps)=true then o.wpIn (fW ro) 0 P a w (Lift w0 mu ρ0 K) Q else Lift w0 mu ρ0 K (a.put o.dst undef) w:=by
 obtain ⟨hd,S,ρ,hp,hR,hF,h⟩:=h
 have hex:∀ S':St,S'.bx=S.bx->S'.E=S.E->FrRel ρ S'.fr a.tmps->(opW P callW o.op S' fun s bx E=>K (({ S' with bx:=bx,E:=E }:St).put o.dst s))->o.wpIn (fW ro) 0 P a w (Lift w0 mu ρ0 K) Q:=by
  intro S' h1 h2 hF' hop
  have hR':Rel w0 mu S'.bx S'.E ρ w:=by rw [h1,h2];exact hR
  have hk:NextOK o.op S' o.dst a ρ w0 mu (fun s bx E=>K (({ S' with bx:=bx,E:=E }:St).put o.dst s)) (Lift w0 mu ρ0 K):=by
   intro s v bx E ρ' w' hp' hs hR2 _ hK
   refine ⟨by rw [put_defers];exact hd,_,ρ',hp.trans hp',?_,?_,hK⟩
   ·rw [St.put_bx,St.put_E];exact hR2
   ·exact FrRel.put (S:={ S' with bx:=bx,E:=E }) (hF'.mono hp') o.dst hs
  exact wpInW (opW_defer hop) (opW_sound hcall ⟨⟨hom.1,hom.2.mono hp⟩,hd.2⟩ hR' hF' hop hk)
 have hsk:∀ S':St,S'.bx=S.bx->S'.E=S.E->FrRel ρ S'.fr a.tmps->K (S'.put o.dst (.raw undef))->Lift w0 mu ρ0 K (a.put o.dst undef) w:=by
  intro S' h1 h2 hF' hK
  refine ⟨by rw [put_defers];exact hd,_,ρ,hp,?_,FrRel.put hF' o.dst rfl,hK⟩
  rw [St.put_bx,St.put_E,h1,h2];exact hR
 unfold stepW guardW at h
 split at h
 ·rename_i hg
  rw [if_pos (by simp [Region.wanted,hg])]
  exact hex S rfl rfl hF h
 ·rename_i j want hg
  split at h
  ·exact h.elim
  ·rename_i d hj
   split at h
   ·rename_i b hb
    obtain ⟨v,h1,h2⟩:=hF.2 d _ hb
    simp only [SV.den,Option.some.injEq] at h2;subst h2
    have hy:yielded all a.tmps j=some b:=by simp [yielded,hj,h1]
    have hset:∀ c:Bool,b=c->FrRel ρ (S.put (some d) (.raw (.bool c))).fr a.tmps:=fun c e=>FrRel.lit hF h1 e
    cases want<;>cases b<;>simp only [cond] at h
    ·rw [if_pos (by simp [Region.wanted,hg,hy])]
     exact hex (S.put (some d) (.raw (.bool false))) rfl rfl (hset false rfl) h
    ·rw [if_neg (by simp [Region.wanted,hg,hy])]
     exact hsk (S.put (some d) (.raw (.bool true))) rfl rfl (hset true rfl) h
    ·rw [if_neg (by simp [Region.wanted,hg,hy])]
     exact hsk (S.put (some d) (.raw (.bool false))) rfl rfl (hset false rfl) h
    ·rw [if_pos (by simp [Region.wanted,hg,hy])]
     exact hex (S.put (some d) (.raw (.bool true))) rfl rfl (hset true rfl) h
   ·rename_i vs hb
    obtain ⟨v,h1,h2⟩:=hF.2 d _ hb
    simp only [SV.den,Option.some.injEq] at h2;subst h2
    have hy:yielded all a.tmps j=none:=by simp [yielded,hj,h1]
    rw [if_neg (by simp [Region.wanted,hg,hy])]
    exact hsk S rfl rfl hF h
   ·exact h.elim
theorem stepGW_sound (hcall:CallOK Ω P callW)
  (hom:mu.om=Ω/\okE Ω ρ0) (hd:a.defers=mu.ds/\okO w0 mu) (hp:ρ0<+:ρ) (hR:Rel w0 mu S.bx S.E ρ w) (hF:FrRel ρ S.fr a.tmps) (h:stepGW P callW all o S K):
  if Region.wanted o (yielded all a.tmps)=true then o.wpIn (fW ro) 0 P a w (Lift w0 mu ρ0 fun S'=>(S.bx<+:S'.bx/\Mem.le S.E S'.E)/\K S') Q
  else Lift w0 mu ρ0 (fun S'=>(S.bx<+:S'.bx/\Mem.le S.E S'.E)/\K S') (a.put o.dst undef) w:=by
 have hex:∀ S':St,S'.bx=S.bx->S'.E=S.E->FrRel ρ S'.fr a.tmps->(if growOp o.op S' then opW P callW o.op S' fun s bx E=>K (({ S' with bx:=bx,E:=E }:St).put o.dst s) else False)->o.wpIn (fW ro) 0 P a w (Lift w0 mu ρ0 fun S'=>(S.bx<+:S'.bx/\Mem.le S.E S'.E)/\K S') Q:=by
  intro S' h1 h2 hF' hop
  split at hop
  case isFalse=>exact hop.elim
  rename_i hgrow
  have hR':Rel w0 mu S'.bx S'.E ρ w:=by rw [h1,h2];exact hR
  have hk:NextOK o.op S' o.dst a ρ w0 mu (fun s bx E=>K (({ S' with bx:=bx,E:=E }:St).put o.dst s)) (Lift w0 mu ρ0 fun S'=>(S.bx<+:S'.bx/\Mem.le S.E S'.E)/\K S'):=by
   intro s v bx E ρ' w' hp' hs hR2 hgr hK
   refine ⟨by rw [put_defers];exact hd,_,ρ',hp.trans hp',?_,?_,?_,hK⟩
   rotate_right
   ·rw [St.put_bx,St.put_E,← h1,← h2];exact hgr hgrow
   ·rw [St.put_bx,St.put_E];exact hR2
   ·exact FrRel.put (S:={ S' with bx:=bx,E:=E }) (hF'.mono hp') o.dst hs
  exact wpInW (opW_defer hop) (opW_sound hcall ⟨⟨hom.1,hom.2.mono hp⟩,hd.2⟩ hR' hF' hop hk)
 have hsk:∀ S':St,S'.bx=S.bx->S'.E=S.E->FrRel ρ S'.fr a.tmps->K (S'.put o.dst (.raw undef))->Lift w0 mu ρ0 (fun S'=>(S.bx<+:S'.bx/\Mem.le S.E S'.E)/\K S') (a.put o.dst undef) w:=by
  intro S' h1 h2 hF' hK
  refine ⟨by rw [put_defers];exact hd,_,ρ,hp,?_,FrRel.put hF' o.dst rfl,⟨by rw [St.put_bx,h1];exact List.prefix_refl _,by rw [St.put_E,h2];exact Mem.le_refl _⟩,hK⟩
  rw [St.put_bx,St.put_E,h1,h2];exact hR
 unfold stepGW guardW at h
 split at h
 ·rename_i hg
  rw [if_pos (by simp [Region.wanted,hg])]
  exact hex S rfl rfl hF h
 ·rename_i j want hg
  split at h
  ·exact h.elim
  ·rename_i d hj
   split at h
   ·rename_i b hb
    obtain ⟨v,h1,h2⟩:=hF.2 d _ hb
    simp only [SV.den,Option.some.injEq] at h2;subst h2
    have hy:yielded all a.tmps j=some b:=by simp [yielded,hj,h1]
    have hset:∀ c:Bool,b=c->FrRel ρ (S.put (some d) (.raw (.bool c))).fr a.tmps:=fun c e=>FrRel.lit hF h1 e
    cases want<;>cases b<;>simp only [cond] at h
    ·rw [if_pos (by simp [Region.wanted,hg,hy])]
     exact hex (S.put (some d) (.raw (.bool false))) rfl rfl (hset false rfl) h
    ·rw [if_neg (by simp [Region.wanted,hg,hy])]
     exact hsk (S.put (some d) (.raw (.bool true))) rfl rfl (hset true rfl) h
    ·rw [if_neg (by simp [Region.wanted,hg,hy])]
     exact hsk (S.put (some d) (.raw (.bool false))) rfl rfl (hset false rfl) h
    ·rw [if_pos (by simp [Region.wanted,hg,hy])]
     exact hex (S.put (some d) (.raw (.bool true))) rfl rfl (hset true rfl) h
   ·rename_i vs hb
    obtain ⟨v,h1,h2⟩:=hF.2 d _ hb
    simp only [SV.den,Option.some.injEq] at h2;subst h2
    have hy:yielded all a.tmps j=none:=by simp [yielded,hj,h1]
    rw [if_neg (by simp [Region.wanted,hg,hy])]
    exact hsk S rfl rfl hF h
   ·exact h.elim
theorem opsW_sound {ro:Option Nat} {Ω:Option Rc} (hcall:CallOK Ω P callW) {w0:World} {mu:Fm} {ρ0:Env} {K:St->Prop} {Q:Exit->Act->World->Prop} (hom:mu.om=Ω/\okE Ω ρ0) (hQ:∀ a w,Lift w0 mu ρ0 K a w->Q .normal a w):
  ∀ (l:List Oper) (a:Act) (w:World),Lift w0 mu ρ0 (fun S=>opsW P callW all l S K) a w->wpListIn (fW ro) 0 P all Q l a w
 | [],a,w,h=>hQ a w h
 | o::l,a,w,h=>by
  have:=stepW_sound (ro:=ro) (Q:=Q) hcall (o:=o) (K:=fun S'=>opsW P callW all l S' K) hom h
  simp only [wpListIn]
  split
  ·rename_i hw
   rw [if_pos hw] at this
   exact Oper.wpIn_mono (fun a w h=>opsW_sound hcall hom hQ l a w h) this
  ·rename_i hw
   rw [if_neg hw] at this
   exact ⟨fun _ _=>trivial,opsW_sound hcall hom hQ l _ _ this⟩
end
def isDet:Op->Bool
 | .move _| .assign _| .pick .. | .build .. | .load .. | .nilCheck _| .binOp .. | .unOp .. | .makeInterface .. | .makeFunc .. | .fieldAddr .. | .field .. | .indexAddr .. | .index .. | .extract .. | .typeAssert .. =>true
 | .slice .. =>true
 | .convert src dst _=>src !=dst
 | .call { callee:=.builtin .len,.. }| .call { callee:=.builtin .min,.. }| .call { callee:=.builtin .max,.. }| .call { callee:=.builtin .cap,.. }=>true
 | _=>false
def isLoad:Op->Bool
 | .load .. =>true
 | _=>false
def waitsOn (ops:Array Oper) (listed:Array Bool) (k:Nat):Nat->List Nat->List Nat
 | 0,acc=>acc
 | n+1,acc=>
  match (List.range ops.size).find? (fun j=> !listed.getD j true&&j !=k&& !acc.contains j&&((ops[j]?).map (·.after.any fun e=>Region.binds .any e&&(e.on==k||acc.contains e.on))).getD false) with
  | some j=>waitsOn ops listed k n (j::acc)
  | none=>acc
def forgetL (ds:List Nat):Nat->List (Option SV)->List (Option SV)
 | _,[]=>[]
 | k,o::l=>(if ds.contains k then none else o)::forgetL ds (k+1) l
def St.forget (S:St) (ds:List Nat):St:={ S with fr:=forgetL ds 0 S.fr }
def detAt (all:Array Oper) (i:Nat):Bool:=((all[i]?).map (isDet ·.op)).getD false
def loadAtI (all:Array Oper) (i:Nat):Bool:=((all[i]?).map (isLoad ·.op)).getD true
def allocAt (okT:TypeId->Bool) (all:Array Oper) (i:Nat):Bool:=
 match all[i]? with
 | some ⟨some d,.alloc T,_,_,_,none⟩=>okT T&&(List.range all.size).all fun k=>k==i||decide (((all[k]?).bind (·.dst))≠some d)
 | _=>false
def setAllB (listed:Array Bool):List Nat->Array Bool
 | []=>listed
 | i::l=>setAllB (listed.setIfInBounds i true) l
inductive PT where
 | nil|bad|fin
 | q (i:Nat) (t:PT)
 | g (i:Nat) (t:PT)
 | al (i:Nat) (t:PT)
 | br (i:Nat) (t rest:PT)
 | brg (i:Nat) (t rest:PT)
def branches (f:Nat->PT):List Nat->PT
 | []=>.fin
 | [i]=>.q i (f i)
 | i::l=>.br i (f i) (branches f l)
def branchesG (D:Nat->Bool) (f:Nat->PT):List Nat->PT
 | []=>.fin
 | [i]=>match D i with
  | true=>.q i (f i)
  | false=>.g i (f i)
 | i::l=>match D i with
  | true=>.br i (f i) (branchesG D f l)
  | false=>.brg i (f i) (branchesG D f l)
def quietFirst (all:Array Oper) (tail:List Nat) (listed:Array Bool) (i:Nat):Bool:=
 detAt all i&& !tail.contains i&&Region.free .any all listed i&&(!loadAtI all i||tail.all fun j=>listed.getD j true||(waitsOn all listed i all.size []).contains j)
def planW (okT:TypeId->Bool) (all:Array Oper) (tail:List Nat):Nat->Array Bool->PT
 | 0,listed=>match Region.ready .any all listed with
  | []=>.nil
  | _=>.bad
 | n+1,listed=>
  match Region.ready .any all listed with
  | []=>.nil
  | r::rs=>
   match (r::rs).find? (quietFirst all tail listed) with
   | some i=>.q i (planW okT all tail n (listed.setIfInBounds i true))
   | none=>
    if ((List.range all.size).all fun j=>listed.getD j true||tail.contains j||detAt all j)=true then
     branches (fun i=>planW okT all tail n (listed.setIfInBounds i true)) (r::rs)
    else match (r::rs).filter (allocAt okT all) with
    | []=>match rs with
      | []=>if (tail.contains r||detAt all r)=true then .bad else .g r (planW okT all tail n (listed.setIfInBounds r true))
      | _::_=>.bad
    | x::xs=>
     match (r::rs).filter (fun i=> !allocAt okT all i) with
     | []=>if ((x::xs).all fun y=> !tail.contains y&&(Region.ready .any all (setAllB listed ((x::xs).filter (· !=y)))).all (· ==y))=true then
       .al x (planW okT all tail n (listed.setIfInBounds x true)) else .bad
     | [g]=>if (!(tail.contains g||detAt all g)&&((x::xs).all fun y=> !tail.contains y)&&(Region.ready .any all (setAllB listed (x::xs))).all (· ==g))=true then
       .g g (planW okT all tail n (listed.setIfInBounds g true)) else .bad
     | _=>.bad
def stuckW (okT:TypeId->Bool) (all:Array Oper) (tail:List Nat) (listed:Array Bool) (r:Nat) (rs:List Nat):Bool:=
 match (r::rs).filter (allocAt okT all) with
 | []=>match rs with
   | []=>false
   | _::_=>true
 | x::xs=>
  match (r::rs).filter (fun i=> !allocAt okT all i) with
  | []=> !((x::xs).all fun y=> !tail.contains y&&(Region.ready .any all (setAllB listed ((x::xs).filter (· !=y)))).all (· ==y))
  | [g]=> !(!(tail.contains g||detAt all g)&&((x::xs).all fun y=> !tail.contains y)&&(Region.ready .any all (setAllB listed (x::xs))).all (· ==g))
  | _=>true
def planF (okT:TypeId->Bool) (all:Array Oper) (tail:List Nat):Nat->Array Bool->PT
 | 0,listed=>match Region.ready .any all listed with
  | []=>.nil
  | _=>.bad
 | n+1,listed=>
  match Region.ready .any all listed with
  | []=>.nil
  | r::rs=>
   match (r::rs).find? (quietFirst all tail listed) with
   | some i=>.q i (planF okT all tail n (listed.setIfInBounds i true))
   | none=>
    if ((List.range all.size).all fun j=>listed.getD j true||tail.contains j||detAt all j)=true then
     branches (fun i=>planF okT all tail n (listed.setIfInBounds i true)) (r::rs)
    else if ((r::rs).all (fun i=> !tail.contains i)&&(stuckW okT all tail listed r rs||(rs.isEmpty&&(List.filter (allocAt okT all) [r]).isEmpty&& !detAt all r)))=true then
     branchesG (detAt all) (fun i=>planF okT all tail n (listed.setIfInBounds i true)) (r::rs)
    else planW okT all tail (n+1) listed
def runW (P:Program) (callW:CallT) (all:Array Oper):PT->St->(St->Prop)->Prop
 | .nil,S,K=>K S
 | .bad,_,_=>False
 | .fin,_,_=>True
 | .q i t,S,K=>match all[i]? with
  | some o=>stepW P callW all o S fun S'=>runW P callW all t S' K
  | none=>False
 | .al i t,S,K=>match all[i]? with
  | some o=>opW P callW o.op S fun s bx E=>runW P callW all t (({ S with bx:=bx,E:=E }:St).put o.dst s) K
  | none=>False
 | .g i t,S,K=>match all[i]? with
  | some o=>stepGW P callW all o S fun S'=>runW P callW all t S' K
  | none=>False
 | .br i t rest,S,K=>(match all[i]? with
  | some o=>stepW P callW all o S fun S'=>runW P callW all t S' K
  | none=>False)/\runW P callW all rest S K
 | .brg i t rest,S,K=>(match all[i]? with
  | some o=>stepGW P callW all o S fun S'=>runW P callW all t S' K
  | none=>False)/\runW P callW all rest S K
def okTy (P:Program) (T:TypeId):Bool:=match P.info? T with
 | some i=>match i.zero with
  | some z=>oneOrAgg (.raw z)
  | none=>false
 | none=>false
def allocDsts (P:Program) (all:Array Oper):List Nat:=(List.range all.size).filterMap fun i=>if allocAt (okTy P) all i then (all[i]?).bind (·.dst) else none
def drawW (P:Program) (callW:CallT) (all:Array Oper) (tail:List Nat) (n:Nat) (listed:Array Bool) (S:St) (K:St->Prop):Prop:=
 runW P callW all (planF (okTy P) all tail n listed) (S.forget (allocDsts P all)) K
theorem runW_branches {P:Program} {callW:CallT} {all:Array Oper} {f:Nat->PT} {S:St} {K:St->Prop}:∀ {l:List Nat},runW P callW all (branches f l) S K->∀ i∈l,∃ o,all[i]? =some o/\stepW P callW all o S fun S'=>runW P callW all (f i) S' K
 | [],_,i,hi=>by simp at hi
 | [j],h,i,hi=>by
  simp only [List.mem_singleton] at hi;subst hi
  simp only [branches,runW] at h
  split at h
  ·rename_i o ho;exact ⟨o,ho,h⟩
  ·exact h.elim
 | j::k::l,h,i,hi=>by
  simp only [branches,runW] at h
  obtain ⟨h1,h2⟩:=h
  rcases List.mem_cons.1 hi with rfl|hi
  ·split at h1
   ·rename_i o ho;exact ⟨o,ho,h1⟩
   ·exact h1.elim
  ·exact runW_branches (l:=k::l) h2 i hi
theorem runW_branchesG {P:Program} {callW:CallT} {all:Array Oper} {D:Nat->Bool} {f:Nat->PT} {S:St} {K:St->Prop}:∀ {l:List Nat},runW P callW all (branchesG D f l) S K->∀ i∈l,∃ o,all[i]? =some o/\
  (D i=true->stepW P callW all o S fun S'=>runW P callW all (f i) S' K)/\(D i=false->stepGW P callW all o S fun S'=>runW P callW all (f i) S' K)
 | [],_,i,hi=>by simp at hi
 | [j],h,i,hi=>by
  simp only [List.mem_singleton] at hi;subst hi
  simp only [branchesG] at h
  cases hD:D i with
  | true=>
   rw [hD] at h
   simp only [runW] at h
   split at h
   ·rename_i o ho;exact ⟨o,ho,fun _=>h,fun e=>(by cases e)⟩
   ·exact h.elim
  | false=>
   rw [hD] at h
   simp only [runW] at h
   split at h
   ·rename_i o ho;exact ⟨o,ho,fun e=>(by cases e),fun _=>h⟩
   ·exact h.elim
 | j::k::l,h,i,hi=>by
  simp only [branchesG] at h
  cases hD:D j with
  | true=>
   rw [hD] at h
   simp only [runW] at h
   obtain ⟨h1,h2⟩:=h
   rcases List.mem_cons.1 hi with rfl|hi
   ·split at h1
    ·rename_i o ho;exact ⟨o,ho,fun _=>h1,fun e=>by rw [hD] at e;cases e⟩
    ·exact h1.elim
   ·exact runW_branchesG (l:=k::l) h2 i hi
  | false=>
   rw [hD] at h
   simp only [runW] at h
   obtain ⟨h1,h2⟩:=h
   rcases List.mem_cons.1 hi with rfl|hi
   ·split at h1
    ·rename_i o ho;exact ⟨o,ho,fun e=>(by rw [hD] at e;cases e),fun _=>h1⟩
    ·exact h1.elim
   ·exact runW_branchesG (l:=k::l) h2 i hi
def tailOf (muts:Op->Bool) (all:Array Oper):List Nat:=
 let m:=(List.range all.size).filter fun i=>((all[i]?).map (muts ·.op)).getD false
 (List.range all.size).filter fun i=>m.contains i||m.any fun k=>(waitsOn all (Array.replicate all.size false) k all.size []).contains i
def sub:Code->List Nat->Code
 | c,[]=>c
 | .seq x _,0::p=>sub x p
 | .seq _ y,_::p=>sub y p
 | .cond _ x _,0::p=>sub x p
 | .cond _ _ y,_::p=>sub y p
 | .block _ x,_::p=>sub x p
 | .loop x,_::p=>sub x p
 | _,_=>.skip
def mutsD:Op->Bool
 | .store .. =>true
 | .call { callee:=.builtin .append,.. }| .call { callee:=.builtin .copy,.. }| .call { callee:=.builtin .clear,.. }=>true
 | _=>false
def LoopLfp (P:Program) (body:Code) (R:Exit->Act->World->Prop) (a:Act) (w:World):Prop:=
 ∀ I:Act->World->Prop,(∀ a w,body.wpIn Fence.wide 0 P (Exit.then I R) a w->I a w)->I a w
structure LoopP (P:Program) (Ω:Option Rc) (n0:Nat) (body:Code) (Q:Ex->St->Prop) (S:St):Prop where
 out:∀ w0 mu (ρ0:Env) a w,ρ0.length<=n0->Lift w0 mu ρ0 (fun S'=>S'=S) a w->mu.om=Ω/\okE Ω ρ0->LoopLfp P body (LiftQ w0 mu ρ0 Q) a w
structure CutP (P:Program) (Ω:Option Rc) (n0:Nat) (c:Code) (Q:Ex->St->Prop) (S:St):Prop where
 out:∀ w0 mu (ρ0:Env) a w,ρ0.length<=n0->Lift w0 mu ρ0 (fun S'=>S'=S) a w->mu.om=Ω/\okE Ω ρ0->c.wpIn Fence.wide 0 P (LiftQ w0 mu ρ0 Q) a w
def assigned:Code->List Nat
 | .region _ ops _=>ops.toList.filterMap (·.dst)
 | .seq x y=>assigned x++assigned y
 | .cond _ x y=>assigned x++assigned y
 | .block _ x=>assigned x
 | .loop x=>assigned x
 | _=>[]
structure Opt where
 /-- how often a loop is unrolled -/
 unroll:Nat
 /-- the slots that a loop's rounds hand on -/
 carry:List Nat
 /-- the boxes that were there when the function was entered -/
 base:Nat:=0
 /-- the regions at which a text is cut -/
 cuts:List Nat:=[]
 /-- the record of the loop whose rounds a call of yield runs -/
 om:Option Rc:=none
 /-- the text of a round -/
 rnd:Bool:=false
def headId:Code->Option Nat
 | .region id _ _=>some id
 | .seq x _=>headId x
 | .block _ x=>headId x
 | .loop x=>headId x
 | _=>none
def cutAt (o:Opt) (y:Code):Bool:=
 match o.cuts with
 | []=>false
 | l=>match headId y with
  | some id=>l.contains id
  | none=>false
def cutC (o:Opt) (x:Code):Bool:=o.om.isSome&& !o.rnd&&cutAt o x
def dropOf (o:Opt) (body:Code):List Nat:=(assigned body).filter fun d=> !o.carry.contains d
structure Cx where
 P:Program
 /-- calls of these functions are walked in place -/
 inl:FuncId->Bool
 tab:FuncId->List SV->Mem->(SV->Mem->Prop)->Prop
 /-- functions that are handed boxes, and their contracts -/
 isB:FuncId->Bool
 tabB:CallT
 opt:Opt
 /-- which operations may change memory that is read beside them -/
 muts:Op->Bool
 /-- the round of a loop over a function -/
 tabY:List SV->List Box->Mem->KT->Prop:=fun _ _ _ _=>False
def iterW (bodyW:(Ex->St->Prop)->St->Prop) (fb:(Ex->St->Prop)->St->Prop):Nat->(Ex->St->Prop)->St->Prop
 | 0,Q,S=>fb Q S
 | n+1,Q,S=>bodyW (fun e S'=>match e with | .normal=>iterW bodyW fb n Q S'| .exit id=>Q (.exit id) S'| .ret=>Q .ret S') S
def noDefer (ops:Array Oper):Bool:=ops.toList.all fun o=>match o.op with
 | .defer _=>false
 | _=>true
def codeW (P:Program) (callW:CallT) (inl:Op->Bool) (un:Opt):Code->(Ex->St->Prop)->St->Prop
 | .skip,Q,S=>Q .normal S
 | .region _ ops false,Q,S=>opsW P callW ops ops.toList S (Q .normal)
 | .region _ ops true,Q,S=>bif un.rnd&& !noDefer ops then False else if Region.noSelect ops then drawW P callW ops (tailOf inl ops) ops.size (Array.replicate ops.size false) S (Q .normal) else False
 | .seq x y,Q,S=>codeW P callW inl un x (fun e S'=>match e with | .normal=>(bif cutAt un y&& !un.rnd then CutP P un.om un.base y Q S' else codeW P callW inl un y Q S')| .exit id=>Q (.exit id) S'| .ret=>Q .ret S') S
 | .cond c x y,Q,S=>match opd S c with
  | some (.raw (.bool b))=>cond b (bif cutC un x then CutP P un.om un.base x Q S else codeW P callW inl un x Q S) (codeW P callW inl un y Q S)
  | _=>False
 | .block id body,Q,S=>codeW P callW inl un body (fun e S'=>match e with | .normal=>Q .normal S'| .exit i=>if i=id then Q .normal S' else Q (.exit i) S'| .ret=>Q .ret S') S
 | .loop body,Q,S=>bif un.rnd then False else iterW (codeW P callW inl un body) (fun Q S=>LoopP P un.om un.base body Q (S.forget (dropOf un body))) un.unroll Q S
 | .exit id,Q,S=>Q (.exit id) S
 | .ret,Q,S=>Q .ret S
 | .rangeFunc g ps assign body,Q,S=>bif un.rnd then False else CutP P un.om un.base (.rangeFunc g ps assign body) Q S
 | _,_,_=>False
def contQ (P:Program) (callW:CallT) (inl:Op->Bool) (un:Opt):Code->List Nat->(Ex->St->Prop)->(Ex->St->Prop)
 | _,[],Q=>Q
 | .seq x y,0::p,Q=>contQ P callW inl un x p (fun e S'=>match e with | .normal=>(bif cutAt un y&& !un.rnd then CutP P un.om un.base y Q S' else codeW P callW inl un y Q S')| .exit id=>Q (.exit id) S'| .ret=>Q .ret S')
 | .seq _ y,_::p,Q=>contQ P callW inl un y p Q
 | .cond _ x _,0::p,Q=>contQ P callW inl un x p Q
 | .cond _ _ y,_::p,Q=>contQ P callW inl un y p Q
 | .block id x,_::p,Q=>contQ P callW inl un x p (fun e S'=>match e with | .normal=>Q .normal S'| .exit i=>if i=id then Q .normal S' else Q (.exit i) S'| .ret=>Q .ret S')
 | .loop x,_::p,Q=>contQ P callW inl un x p (fun e S'=>match e with | .normal=>LoopP P un.om un.base x Q (S'.forget (dropOf un x))| .exit id=>Q (.exit id) S'| .ret=>Q .ret S')
 | _,_,Q=>Q
def bodyOf (fn:Func):Code:=match fn.body with |some c=>c|none=>.skip
def retVar (P:Program) (S:St):ResultVar->Option SV
 | .tmp t=>opd S (.tmp t)
 | .cell t T=>match opd S (.tmp t) with
  | some (.loc b off)=>match S.bx[b]? with
   | some y=>loadW P T y.cells off
   | none=>none
  | _=>none
def retVars (P:Program) (S:St):List ResultVar->Option (List SV)
 | []=>some []
 | x::l=>match retVar P S x,retVars P S l with
  | some s,some ss=>some (s::ss)
  | _,_=>none
def retW (P:Program) (fn:Func) (S:St) (K:KT):Prop:=
 match retVars P S fn.results.toList with
 | some [s]=>K s S.bx S.E
 | some ss=>K (.tup ss) S.bx S.E
 | none=>False
def bodyQ (P:Program) (fn:Func) (K:KT):Ex->St->Prop
 | .normal,S| .ret,S=>retW P fn S K
 | .exit _,_=>False
def enterW (P:Program) (callW:CallT) (inl:Op->Bool) (un:Opt) (fn:Func) (args:List SV) (bx:List Box) (E:Mem) (K:KT):Prop:=
 match fn.body with
 | some c=>if (args.length<=fn.ntmps/\(un.om.isNone||fn.results.toList.isEmpty)=true) then codeW P callW inl { un with base:=bx.length,rnd:=false } c (bodyQ P fn K) { fr:=args.map some++List.replicate (fn.ntmps-args.length) none,bx:=bx,E:=E } else False
 | none=>False
def tabF (C:Cx):CallT:=fun f args bx E K=>
 if f=YID then (match C.opt.om with |none=>False|some _=>C.tabY args bx E K) else if C.isB f=true then C.tabB f args bx E K else pubW 16 args bx E fun args' bx' E'=>C.tab f args' E' fun s E''=>K s bx' E''
def Cx.noY (C:Cx):Cx:=match C.opt.om with
 | none=>C
 | some _=>{ C with opt:={ C.opt with om:=none } }
def callF (C:Cx):Nat->CallT
 | 0=>tabF C
 | n+1=>fun f args bx E K=>
  if (C.inl f&&f !=YID)=true then
   match C.P.funcs[f]? with
   | some fn=>enterW C.P (callF C.noY n) C.muts { C.opt with cuts:=[],om:=none } fn args bx E K
   | none=>False
  else tabF C f args bx E K
end Go.Sx
