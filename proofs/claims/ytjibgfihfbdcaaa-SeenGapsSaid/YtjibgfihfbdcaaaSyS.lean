/- The symbolic evaluator, part S: loops over functions. Conditions: none; generic over programs. -/
import Derived.Test.YtjibgfihfbdcaaaSyM
namespace Go.Sx
open Go

/-- The frame of a round: the loop's, with yield's arguments. -/
def setPs : List Nat → List SV → List (Option SV) → List (Option SV)
  | t :: ps, s :: ss, fr => setPs ps ss (fr.set t (some s))
  | _, _, fr => fr

/-- A round. -/
def RoundW (P : Program) (callW : CallT) (inl : Op → Bool) (un : Opt) (fr : List (Option SV)) (ps : List Nat) (assign body : Code) (rest : List SV) (bx : List Box) (E : Mem) (K : KT) : Prop :=
  codeW P callW inl { un with om := none, rnd := true, base := bx.length, cuts := [] } assign (fun e S' => match e with
    | .normal => codeW P callW inl { un with om := none, rnd := true, base := bx.length, cuts := [] } body (fun e S' => match e with
      | .normal => K (.raw (.bool true)) S'.bx S'.E
      | .exit _ => False
      | .ret => False) S'
    | .exit _ => False
    | .ret => False) ⟨setPs ps rest fr, bx, E⟩

/-- The same, for the kernel. -/
def RoundN (P : Program) (callW : CallT) (inl : Op → Bool) (un : Opt) (fr : List (Option SV)) (ps : List Nat) (assign body : Code) (rest : List SV) (bx : List Box) (E : Mem) (K : KT) : Prop :=
  nSt ⟨setPs ps rest fr, bx, E⟩ (codeN P callW inl { un with om := none, rnd := true, base := bx.length, cuts := [] } assign (fun e S' => match e with
    | .normal => codeN P callW inl { un with om := none, rnd := true, base := bx.length, cuts := [] } body (fun e S' => match e with
      | .normal => K (.raw (.bool true)) S'.bx S'.E
      | .exit _ => False
      | .ret => False) S'
    | .exit _ => False
    | .ret => False))

theorem RoundN_eq : RoundN = RoundW := by
  funext P callW inl un fr ps assign body rest bx E K
  simp only [RoundN, RoundW, nSt_eq, codeN_eq]

/-- The record of a loop. -/
structure RcOK (c : Rc) (fr : List (Option SV)) (ps : List Nat) (assign body : Code) (q : List Box → Mem → Prop) : Prop where
  q : c.q = q
  ps : c.r.params.toList = ps
  assign : c.r.assign = assign
  body : c.r.body = body
  fr : FrRel c.ρ fr c.r.tmps

theorem setPs_rel {ρ : Env} : ∀ (ps : List Nat) (ss : List SV) (vs : List Value) (fr : List (Option SV)) (tmps : Array Value), SV.denL ρ ss = some vs → ps.length = ss.length → FrRel ρ fr tmps →
    FrRel ρ (setPs ps ss fr) ((ps.zip vs).foldl (fun tmps (x : Nat × Value) => tmps.setIfInBounds x.1 x.2) tmps)
  | [], [], vs, fr, tmps, h, _, hF => by simpa [setPs] using hF
  | t :: ps, s :: ss, vs, fr, tmps, h, hl, hF => by
    simp only [SV.denL] at h
    split at h
    · rename_i v ws h1 h2
      simp only [Option.some.injEq] at h; subst h
      exact setPs_rel ps ss ws _ _ h2 (by simpa using hl) (hF.set t h1)
    · cases h
  | [], _ :: _, _, _, _, _, h, _ => by simp at h
  | _ :: _, [], _, _, _, _, h, _ => by simp at h

/-- A block without cells that was another meanwhile. -/
theorem Rel.swap {w1 w3 : World} {m : List Nat} {E0 : Mem} {om om' : Option Rc} {ds ds' : List Deferred} {bx : List Box} {E : Mem} {ρ : Env} {l : Nat} {o o1 : Obj} (h : Rel (w1.putObj l o1) ⟨m, E0, om, ds⟩ bx E ρ w3)
    (h1 : w1.heap[l]? = some o) (h3 : w3.heap[l]? = some o1) (ho1 : Obj.flat o1 = true) : Rel w1 ⟨m, E0, om', ds'⟩ bx E ρ (w3.putObj l o) := by
  have hk := h.keep
  have hl3 : l < w3.heap.size := (Array.getElem?_eq_some_iff.1 h3).1
  refine ⟨⟨hk.os, hk.tape, hk.output, by have := hk.size; simpa using this, fun k g1 g2 => ?_⟩, h.len, fun i b oa g1 g2 => (h.box i b oa g1 g2).of_block fun a ha hl' => ?_, ?_, fun v cs hE => (h.hold v cs hE).of_block fun b hne hb => ?_, ?_, ?_⟩
  · by_cases hkl : k = l
    · subst hkl
      rw [World.putObj_heap_same hl3, h1]
    · rw [World.putObj_heap_other hkl, hk.block k (by simpa using g1) g2, World.putObj_heap_other hkl]
  · subst ha
    exact World.putObj_heap_other ((h.box i b _ g1 g2).flat hl' h3 ho1)
  · intro i b a g1 g2 g3
    have := h.sep i b a g1 g2 g3
    simpa using this
  · refine World.putObj_heap_other ?_
    rintro rfl
    exact (h.hold v cs hE).flat hne h3 ho1 hb
  · intro i b a g1 g2 g3
    have := h.bsrc i b a g1 g2 g3
    simpa using this
  · intro v cs g1 g2
    have := h.src v cs g1 g2
    simpa using this

/-- A state, as one that an activation begins with, a block without cells written. -/
theorem Rel.herePut {w0 w : World} {mu : Fm} {bx : List Box} {E : Mem} {ρ : Env} {om : Option Rc} {ds : List Deferred} (h : Rel w0 mu bx E ρ w) {l : Nat} {o : Obj} (hw : w.heap[l]? = some o) (ho : Obj.flat o = true) (o' : Obj) :
    Rel (w.putObj l o') ⟨lvB bx ρ, E, om, ds⟩ bx E ρ (w.putObj l o') :=
  ⟨Keep.refl _ _, h.len, fun i b oa h1 h2 => (h.box i b oa h1 h2).of_block fun a ha hl' => by
      subst ha; exact World.putObj_heap_other ((h.box i b _ h1 h2).flat hl' hw ho),
    fun i b a h1 ho h2 => ⟨.inr (lvB_mem h1 h2 (by simp [Box.live, ho])), (h.sep i b a h1 ho h2).2⟩,
    fun v cs hE => (h.hold v cs hE).of_block fun b hne hb => World.putObj_heap_other (by rintro rfl; exact (h.hold v cs hE).flat hne hw ho hb),
    fun i b a h1 hl h2 => .inr (lvB_mem h1 h2 hl), fun v cs g hne => .inr ⟨v, cs, g, hne, rfl⟩⟩

section
variable {P : Program} {callW : CallT}

theorem round_sound {c : Rc} {fr : List (Option SV)} {ps : List Nat} {assign body : Code} {q0 : List Box → Mem → Prop} (hc : RcOK c fr ps assign body q0) {un : Opt} (hcall : CallOK none P callW) (hm : P.follows .mixedOrders = true) {inl : Op → Bool}
    {rest : List SV} {bx : List Box} {E : Mem} {K : KT} (hps : ps.length = rest.length) (h : RoundW P callW inl un fr ps assign body rest bx E K) :
    YieldSem (some c) P (.raw (.func (.yield c.l) #[] #[]) :: rest) bx E K := by
  refine ⟨c.l, #[], #[], rest, rfl, fun w0 mu ρ w vs hΩ hR hd => ?_⟩
  obtain ⟨⟨hom, hE⟩, hO⟩ := hΩ
  unfold okO at hO
  rw [hom] at hO
  obtain ⟨hl, ⟨hst, hpd⟩, hlm⟩ := hO
  have hl0 : c.l < w0.heap.size := (Array.getElem?_eq_some_iff.1 hl).1
  have hlw : w.heap[c.l]? = some (.loop c.r) := by rw [hR.keep.block c.l hl0 hlm]; exact hl
  have hvl := denL_length hd
  have hsz : (#[] ++ vs.toArray : Array Value).size = c.r.params.size := by
    have := congrArg List.length hc.ps
    simp only [Array.length_toList] at this
    simp; omega
  refine ⟨_, _, _, _, run_yield hlw hsz, ?_⟩
  have hfold : (c.r.params.zip (#[] ++ vs.toArray)).foldl (fun tmps (x : Tmp × Value) => tmps.setIfInBounds x.1 x.2) c.r.tmps = (ps.zip vs).foldl (fun tmps (x : Nat × Value) => tmps.setIfInBounds x.1 x.2) c.r.tmps := by
    rw [← Array.foldl_toList, Array.toList_zip, hc.ps]; simp
  have hF0 : FrRel ρ (setPs ps rest fr) ((ps.zip vs).foldl (fun tmps (x : Nat × Value) => tmps.setIfInBounds x.1 x.2) c.r.tmps) := setPs_rel ps rest vs fr _ hd hps (hc.fr.mono hE)
  rw [hc.assign, hc.body]
  refine roundIn_of_wpIn trivial ?_
  have h1 := codeW_sound (P := P) (callW := callW) (un := { un with om := none, rnd := true, base := bx.length, cuts := [] }) (inl := inl) (ro := some c.l) hcall hm (fun e => by cases e) assign _ w ⟨lvB bx ρ, E, none, []⟩ ρ
    { tmps := (ps.zip vs).foldl (fun tmps (x : Nat × Value) => tmps.setIfInBounds x.1 x.2) c.r.tmps, defers := [] } w (Nat.le_of_eq hR.len) ⟨rfl, trivial⟩ ⟨⟨rfl, trivial⟩, _, ρ, List.prefix_refl _, hR.here, hF0, h⟩
  refine Code.wpIn_mono (fun e a1 w1 he => ?_) (hfold ▸ h1)
  cases e with
  | exit _ => obtain ⟨_, _, _, _, _, _, _, _, _, x⟩ := he; exact x.elim
  | ret =>
    rcases he with ⟨_, _, _, _, _, _, _, _, _, x⟩ | ⟨_, q, _⟩
    · exact x.elim
    · cases q
  | goto _ => exact he.elim
  | panic _ => exact he.elim
  | outgrown => exact he.elim
  | normal =>
  obtain ⟨w2, mu2, hB, hd1, S1, ρ1, hp1, hR1, hF1, hbody⟩ := he
  have hR1 := hB.back _ _ _ _ hR1
  have hl1 : w1.heap[c.l]? = some (.loop c.r) := by
    rw [hR1.keep.block c.l (Array.getElem?_eq_some_iff.1 hlw).1 (lvB_flat hR hlw rfl)]; exact hlw
  have hC1 := hR.compose hR1
  refine ⟨_, run_beginRound hl1 hst, ?_⟩
  have hbusy : (w1.putObj c.l (.loop { c.r with state := .busy })).heap[c.l]? = some (.loop { c.r with state := .busy }) := World.putObj_heap_same (Array.getElem?_eq_some_iff.1 hl1).1
  have hRb : Rel (w1.putObj c.l (.loop { c.r with state := .busy })) ⟨lvB S1.bx ρ1, S1.E, none, mu2.ds⟩ S1.bx S1.E ρ1 (w1.putObj c.l (.loop { c.r with state := .busy })) := hR1.herePut hl1 rfl _
  have h2 := codeW_sound (P := P) (callW := callW) (un := { un with om := none, rnd := true, base := bx.length, cuts := [] }) (inl := inl) (ro := some c.l) hcall hm (fun e => by cases e) body _ _ ⟨lvB S1.bx ρ1, S1.E, none, mu2.ds⟩ ρ
    a1 _ (Nat.le_of_eq hR.len) ⟨rfl, trivial⟩ ⟨⟨hd1.1, trivial⟩, S1, ρ1, hp1, hRb, hF1, hbody⟩
  refine Code.wpIn_mono (fun e a2 w3 he => ?_) h2
  cases e with
  | exit _ => obtain ⟨_, _, _, _, _, _, _, _, _, x⟩ := he; exact x.elim
  | ret =>
    rcases he with ⟨_, _, _, _, _, _, _, _, _, x⟩ | ⟨_, q, _⟩
    · exact x.elim
    · cases q
  | goto _ => exact he.elim
  | panic _ => exact he.elim
  | outgrown => exact he.elim
  | normal =>
  obtain ⟨w4, mu4, hB2, hd2, S2, ρ2, hp2, hR2, hF2, hK⟩ := he
  have hR2 := hB2.back _ _ _ _ hR2
  have hl3 : w3.heap[c.l]? = some (.loop { c.r with state := .busy }) := by
    rw [hR2.keep.block c.l (Array.getElem?_eq_some_iff.1 hbusy).1 (lvB_flat (hR1.herePut (om := none) (ds := []) hl1 rfl _) hbusy rfl)]; exact hbusy
  refine ⟨_, _, run_endRound none hl3, .bool true, .raw (.bool true), S2.bx, S2.E, ρ2, rfl, hp2, rfl, ?_, hK⟩
  have hre : ({ ({ c.r with state := .busy } : Loop) with state := if (none : Option Code).isNone then .ready else .done, pending := none } : Loop) = c.r := by
    have : c.r = { c.r with state := .ready, pending := none } := by rw [← hst, ← hpd]
    rw [this]; rfl
  rw [hre]
  exact hC1.compose (Rel.swap (om' := none) (ds' := []) hR2 hl1 hl3 rfl)

/-- A round that ends by a return. -/
def RoundQ (P : Program) (callW : CallT) (inl : Op → Bool) (un : Opt) (fr : List (Option SV)) (ps : List Nat) (assign body : Code) (rest : List SV) (bx : List Box) (E : Mem) (q : List Box → Mem → Prop) : Prop :=
  codeW P callW inl { un with om := none, rnd := true, base := bx.length, cuts := [] } assign (fun e S' => match e with
    | .normal => codeW P callW inl { un with om := none, rnd := true, base := bx.length, cuts := [] } body (fun e S' => match e with
      | .ret => q S'.bx S'.E
      | .exit _ => False
      | .normal => False) S'
    | .exit _ => False
    | .ret => False) ⟨setPs ps rest fr, bx, E⟩
def RoundQN (P : Program) (callW : CallT) (inl : Op → Bool) (un : Opt) (fr : List (Option SV)) (ps : List Nat) (assign body : Code) (rest : List SV) (bx : List Box) (E : Mem) (q : List Box → Mem → Prop) : Prop :=
  nSt ⟨setPs ps rest fr, bx, E⟩ (codeN P callW inl { un with om := none, rnd := true, base := bx.length, cuts := [] } assign (fun e S' => match e with
    | .normal => codeN P callW inl { un with om := none, rnd := true, base := bx.length, cuts := [] } body (fun e S' => match e with
      | .ret => q S'.bx S'.E
      | .exit _ => False
      | .normal => False) S'
    | .exit _ => False
    | .ret => False))
theorem RoundQN_eq : RoundQN = RoundQ := by
  funext P callW inl un fr ps assign body rest bx E K
  simp only [RoundQN, RoundQ, nSt_eq, codeN_eq]

theorem roundQ_sound {c : Rc} {fr : List (Option SV)} {ps : List Nat} {assign body : Code} {q0 : List Box → Mem → Prop} (hc : RcOK c fr ps assign body q0) {un : Opt} (hcall : CallOK none P callW) (hm : P.follows .mixedOrders = true) {inl : Op → Bool}
    {rest : List SV} {bx : List Box} {E : Mem} (hps : ps.length = rest.length) (h : RoundQ P callW inl un fr ps assign body rest bx E c.q)
    {w0 : World} {mu : Fm} {ρ : Env} {w : World} {vs : List Value} (hΩ : okR (some c) w0 mu ρ) (hR : Rel w0 mu bx E ρ w) (hd : SV.denL ρ rest = some vs) :
    ∃ fn tmps assign body, (Instr.yield c.l (#[] ++ vs.toArray)).run P w = .ok (.round c.l fn tmps assign body) w ∧ RoundIn Fence.wide 0 P c.l fn tmps assign body w fun e w' =>
      ∃ bx' E' ρ', e = .returned (.bool false) ∧ ρ <+: ρ' ∧ Rel (w0.putObj c.l (.loop c.stop)) mu bx' E' ρ' w' ∧ c.q bx' E' := by
  obtain ⟨⟨hom, hE⟩, hO⟩ := hΩ
  unfold okO at hO
  rw [hom] at hO
  obtain ⟨hl, ⟨hst, hpd⟩, hlm⟩ := hO
  have hl0 : c.l < w0.heap.size := (Array.getElem?_eq_some_iff.1 hl).1
  have hlw : w.heap[c.l]? = some (.loop c.r) := by rw [hR.keep.block c.l hl0 hlm]; exact hl
  have hvl := denL_length hd
  have hsz : (#[] ++ vs.toArray : Array Value).size = c.r.params.size := by
    have := congrArg List.length hc.ps
    simp only [Array.length_toList] at this
    simp; omega
  refine ⟨_, _, _, _, run_yield hlw hsz, ?_⟩
  have hfold : (c.r.params.zip (#[] ++ vs.toArray)).foldl (fun tmps (x : Tmp × Value) => tmps.setIfInBounds x.1 x.2) c.r.tmps = (ps.zip vs).foldl (fun tmps (x : Nat × Value) => tmps.setIfInBounds x.1 x.2) c.r.tmps := by
    rw [← Array.foldl_toList, Array.toList_zip, hc.ps]; simp
  have hF0 : FrRel ρ (setPs ps rest fr) ((ps.zip vs).foldl (fun tmps (x : Nat × Value) => tmps.setIfInBounds x.1 x.2) c.r.tmps) := setPs_rel ps rest vs fr _ hd hps (hc.fr.mono hE)
  rw [hc.assign, hc.body]
  refine roundIn_of_wpIn trivial ?_
  have h1 := codeW_sound (P := P) (callW := callW) (un := { un with om := none, rnd := true, base := bx.length, cuts := [] }) (inl := inl) (ro := some c.l) hcall hm (fun e => by cases e) assign _ w ⟨lvB bx ρ, E, none, []⟩ ρ
    { tmps := (ps.zip vs).foldl (fun tmps (x : Nat × Value) => tmps.setIfInBounds x.1 x.2) c.r.tmps, defers := [] } w (Nat.le_of_eq hR.len) ⟨rfl, trivial⟩ ⟨⟨rfl, trivial⟩, _, ρ, List.prefix_refl _, hR.here, hF0, h⟩
  refine Code.wpIn_mono (fun e a1 w1 he => ?_) (hfold ▸ h1)
  cases e with
  | exit _ => obtain ⟨_, _, _, _, _, _, _, _, _, x⟩ := he; exact x.elim
  | ret =>
    rcases he with ⟨_, _, _, _, _, _, _, _, _, x⟩ | ⟨_, q, _⟩
    · exact x.elim
    · cases q
  | goto _ => exact he.elim
  | panic _ => exact he.elim
  | outgrown => exact he.elim
  | normal =>
  obtain ⟨w2, mu2, hB, hd1, S1, ρ1, hp1, hR1, hF1, hbody⟩ := he
  have hR1 := hB.back _ _ _ _ hR1
  have hl1 : w1.heap[c.l]? = some (.loop c.r) := by
    rw [hR1.keep.block c.l (Array.getElem?_eq_some_iff.1 hlw).1 (lvB_flat hR hlw rfl)]; exact hlw
  have hC1 := hR.compose hR1
  refine ⟨_, run_beginRound hl1 hst, ?_⟩
  have hbusy : (w1.putObj c.l (.loop { c.r with state := .busy })).heap[c.l]? = some (.loop { c.r with state := .busy }) := World.putObj_heap_same (Array.getElem?_eq_some_iff.1 hl1).1
  have hRb : Rel (w1.putObj c.l (.loop { c.r with state := .busy })) ⟨lvB S1.bx ρ1, S1.E, none, mu2.ds⟩ S1.bx S1.E ρ1 (w1.putObj c.l (.loop { c.r with state := .busy })) := hR1.herePut hl1 rfl _
  have h2 := codeW_sound (P := P) (callW := callW) (un := { un with om := none, rnd := true, base := bx.length, cuts := [] }) (inl := inl) (ro := some c.l) hcall hm (fun e => by cases e) body _ _ ⟨lvB S1.bx ρ1, S1.E, none, mu2.ds⟩ ρ
    a1 _ (Nat.le_of_eq hR.len) ⟨rfl, trivial⟩ ⟨⟨hd1.1, trivial⟩, S1, ρ1, hp1, hRb, hF1, hbody⟩
  refine Code.wpIn_mono (fun e a2 w3 he => ?_) h2
  cases e with
  | exit _ => obtain ⟨_, _, _, _, _, _, _, _, _, x⟩ := he; exact x.elim
  | normal => obtain ⟨_, _, _, _, _, _, _, _, _, x⟩ := he; exact x.elim
  | goto _ => exact he.elim
  | panic _ => exact he.elim
  | outgrown => exact he.elim
  | ret =>
  rcases he with he | ⟨_, q, _⟩
  case inr => cases q
  obtain ⟨w4, mu4, hB2, hd2, S2, ρ2, hp2, hR2, hF2, hK⟩ := he
  have hR2 := hB2.back _ _ _ _ hR2
  have hl3 : w3.heap[c.l]? = some (.loop { c.r with state := .busy }) := by
    rw [hR2.keep.block c.l (Array.getElem?_eq_some_iff.1 hbusy).1 (lvB_flat (hR1.herePut (om := none) (ds := []) hl1 rfl _) hbusy rfl)]; exact hbusy
  refine ⟨_, _, run_endRound (some .ret) hl3, S2.bx, S2.E, ρ2, rfl, hp2, ?_, hK⟩
  have hre : ({ ({ c.r with state := .busy } : Loop) with state := if (some Code.ret).isNone then .ready else .done, pending := some .ret } : Loop) = c.stop := rfl
  rw [hre]
  have h3 := hC1.compose (Rel.swap (om' := none) (ds' := []) hR2 hl1 hl3 rfl)
  have hlw3 : c.l < w3.heap.size := (Array.getElem?_eq_some_iff.1 hl3).1
  have h4 := h3.putBoth (l := c.l) (o := .loop c.r) hl0 (World.putObj_heap_same hlw3) rfl (.loop c.stop)
  rw [show (w3.putObj c.l (.loop c.r)).putObj c.l (.loop c.stop) = w3.putObj c.l (.loop c.stop) from by simp [World.putObj]] at h4
  exact h4

/-- The call of yield, at the end of a region. -/
def quitArgs (S : St) (o : Oper) : Option (Nat × List SV) :=
  match o.guard, o.op with
  | none, .call c => match c.callee, opds S c.args.toList with
    | .value f, some args => match opd S f with
      | some (.raw (.func (.yield l) m b)) => match m.toList, b.toList with
        | [], [] => some (l, args)
        | _, _ => none
      | _ => none
    | _, _ => none
  | _, _ => none
theorem quitArgs_spec {S : St} {o : Oper} {l : Nat} {args : List SV} (h : quitArgs S o = some (l, args)) : o.guard = none ∧ ∃ c f, o.op = .call c ∧ c.callee = .value f ∧ opds S c.args.toList = some args ∧ opd S f = some (.raw (.func (.yield l) #[] #[])) := by
  unfold quitArgs at h
  split at h
  case h_2 => cases h
  rename_i c h1 h2
  split at h
  case h_2 => cases h
  rename_i f args' h3 h4
  split at h
  case h_2 => cases h
  rename_i l' m b h5
  split at h
  case h_2 => cases h
  rename_i h6 h7
  simp only [Option.some.injEq, Prod.mk.injEq] at h
  obtain ⟨rfl, rfl⟩ := h
  have e6 : m = #[] := by rw [← Array.toList_inj]; exact h6
  have e7 : b = #[] := by rw [← Array.toList_inj]; exact h7
  subst e6; subst e7
  exact ⟨h1, c, f, h2, h3, h4, h5⟩

def quitW (P : Program) (callW : CallT) (all : Array Oper) (R : Nat → List SV → St → Prop) : List Oper → St → Prop
  | [], _ => False
  | o :: r, S => match r with
    | [] => match quitArgs S o with
      | some (l, args) => R l args S
      | none => False
    | o2 :: r2 => stepW P callW all o S fun S' => quitW P callW all R (o2 :: r2) S'
def quitN (P : Program) (callW : CallT) (all : Array Oper) (R : Nat → List SV → St → Prop) : List Oper → St → Prop
  | [], _ => False
  | o :: r, S => match r with
    | [] => match quitArgs S o with
      | some (l, args) => R l args S
      | none => False
    | o2 :: r2 => stepN P callW all o S fun S' => quitN P callW all R (o2 :: r2) S'
theorem quitN_eq (P : Program) (callW : CallT) (all : Array Oper) (R : Nat → List SV → St → Prop) : ∀ (l : List Oper) (S : St), quitN P callW all R l S = quitW P callW all R l S
  | [], _ => rfl
  | [o], _ => rfl
  | o :: o2 :: r, S => by
    simp only [quitN, quitW, stepN_eq]
    congr 1
    funext S'
    exact quitN_eq P callW all R (o2 :: r) S'

theorem quitW_sound {c : Rc} {all : Array Oper} (hcall : CallOK (some c) P callW) {w0 : World} {mu : Fm} {ρ0 : Env} (hom : mu.om = some c ∧ okE (some c) ρ0) {R : Nat → List SV → St → Prop}
    (hRd : ∀ l rest S ρ w vs, R l rest S → ρ0 <+: ρ → Rel w0 mu S.bx S.E ρ w → SV.denL ρ rest = some vs → okO w0 mu → l = c.l ∧ ∃ fn tmps assign body, (Instr.yield c.l (#[] ++ vs.toArray)).run P w = .ok (.round c.l fn tmps assign body) w ∧ RoundIn Fence.wide 0 P c.l fn tmps assign body w fun e w' =>
      ∃ bx' E' ρ', e = .returned (.bool false) ∧ ρ <+: ρ' ∧ Rel (w0.putObj c.l (.loop c.stop)) mu bx' E' ρ' w' ∧ c.q bx' E') :
    ∀ (l : List Oper) (a : Act) (w : World), Lift w0 mu ρ0 (fun S => quitW P callW all R l S) a w → wpListIn Fence.wide 0 P all (fun e a w => match e with | .normal => LiftX w0 mu ρ0 a w | _ => False) l a w
  | [], a, w, h => h.no fun S x => x
  | [o], a, w, h => by
    obtain ⟨hd, S, ρ, hp, hR, hF, h⟩ := h
    simp only [quitW] at h
    split at h
    case h_2 => exact h.elim
    rename_i l args hq
    obtain ⟨hg, cl, f, ho, hf, hargs, hy⟩ := quitArgs_spec hq
    have ea := opds_den hF hargs
    have eg := opd_den hF hy
    simp only [SV.den, Option.some.injEq] at eg
    obtain ⟨rfl, fn', tmps, assign, body, hyr, hround⟩ := hRd l args S ρ w _ h hp hR ea hd.2
    have hargs' : cl.args.map a.eval = (cl.args.toList.map a.eval).toArray := by apply Array.ext'; simp
    have hrun : (execOp a.eval o).run P w = .ok (.round c.l fn' tmps assign body) w := by
      rw [← hyr]
      obtain ⟨dst, op, type, pos, after, guard⟩ := o
      simp only at ho
      subst ho
      show Sem.run P (do let d ← resolve a.eval cl type; invoke d.target d.args) w = _
      simp only [resolve, hf, ← eg, Deferred.ofValue, Sem.run_bind, Sem.run_pure, Result.andThen_ok, invoke, hargs']
    simp only [wpListIn, Region.wanted, hg, if_true]
    refine wpInW (ro := none) (fun cc e => by rw [ho] at e; cases e) ?_
    rw [hrun]
    refine ⟨(fun q => by cases q), RoundIn.mono hround fun e w' he => ?_⟩
    obtain ⟨bx', E', ρ', rfl, h1, h2, h3⟩ := he
    exact ⟨c, hom.1, hd.2, w0, mu, Base.refl _ _, by rw [put_defers]; exact hd.1, bx', E', ρ', hp.trans h1, h2, h3⟩
  | o :: o2 :: r, a, w, h => by
    have := stepW_sound (ro := none) (Q := fun e a w => match e with | .normal => LiftX w0 mu ρ0 a w | _ => False) hcall (o := o) (K := fun S' => quitW P callW all R (o2 :: r) S') hom h
    show if Region.wanted o (yielded all a.tmps) then o.wpIn Fence.wide 0 P a w (wpListIn Fence.wide 0 P all _ (o2 :: r)) _ else (∀ f, o.about P w a.eval = some f → Fence.wide.fn f) ∧ wpListIn Fence.wide 0 P all _ (o2 :: r) (a.put o.dst undef) w
    split
    · rename_i hw
      rw [if_pos hw] at this
      exact Oper.wpIn_mono (fun a w h => quitW_sound hcall hom hRd (o2 :: r) a w h) this
    · rename_i hw
      rw [if_neg hw] at this
      exact ⟨fun _ _ => trivial, quitW_sound hcall hom hRd (o2 :: r) _ _ this⟩

theorem CutP_quit {c : Rc} {n0 : Nat} {id : Nat} {ops : Array Oper} {Q : Ex → St → Prop} {S : St} (hcall : CallOK (some c) P callW) {R : Nat → List SV → St → Prop}
    (hRd : ∀ l rest S w0 mu ρ w vs, R l rest S → okR (some c) w0 mu ρ → Rel w0 mu S.bx S.E ρ w → SV.denL ρ rest = some vs → l = c.l ∧ ∃ fn tmps assign body, (Instr.yield c.l (#[] ++ vs.toArray)).run P w = .ok (.round c.l fn tmps assign body) w ∧ RoundIn Fence.wide 0 P c.l fn tmps assign body w fun e w' =>
      ∃ bx' E' ρ', e = .returned (.bool false) ∧ ρ <+: ρ' ∧ Rel (w0.putObj c.l (.loop c.stop)) mu bx' E' ρ' w' ∧ c.q bx' E')
    (h : quitW P callW ops R ops.toList S) : CutP P (some c) n0 (.seq (.region id ops false) .ret) Q S := by
  refine ⟨fun w0 mu ρ0 a w hn hl ho => wpIn_seq (Code.wpIn_mono (fun e a w x => ?_) (wpIn_region_list (quitW_sound hcall ho (fun l rest S ρ w vs h1 hp h2 h3 h4 => hRd l rest S w0 mu ρ w vs h1 ⟨⟨ho.1, ho.2.mono hp⟩, h4⟩ h2 h3) ops.toList a w (hl.mono fun S' e => e ▸ h))))⟩
  cases e with
  | normal => exact wpIn_ret (.inr x)
  | _ => exact x.elim

theorem rangeFunc_sound {Ω : Option Rc} {n0 : Nat} {g : Operand} {ps : Array Tmp} {assign body : Code} {Q : Ex → St → Prop} {S : St} {gf : FuncId} {first caps : List SV}
    (hg : opd S g = some (.clo gf first caps))
    (hsem : ∀ c : Rc, RcOK c S.fr ps.toList assign body (fun bx E => Q .ret { S with bx := bx, E := E }) → CallSemO (some c) P gf (first ++ [.raw (.func (.yield c.l) #[] #[])] ++ caps) S.bx S.E fun _ bx E => Q .normal { S with bx := bx, E := E }) :
    CutP P Ω n0 (.rangeFunc g ps assign body) Q S := by
  refine ⟨fun w0 mu ρ0 a w hn hl hom => ?_⟩
  obtain ⟨⟨hd, hO⟩, S', ρ, hp, hR, hF, rfl⟩ := hl
  have eg := opd_den hF hg
  simp only [SV.den] at eg
  split at eg
  case h_2 => cases eg
  rename_i us vs e1 e2
  simp only [Option.some.injEq] at eg
  refine wpIn_rangeFunc fun fn' _ => ?_
  obtain ⟨D, hD⟩ : ∃ D, D = w.heap.size := ⟨_, rfl⟩
  obtain ⟨r, hr⟩ : ∃ r : Loop, r = { state := .ready, pending := none, fn := fn', tmps := a.tmps, params := ps, assign := assign, body := body, defers := D } := ⟨_, rfl⟩
  obtain ⟨wb, hwb⟩ : ∃ wb, wb = (w.alloc (.deferred (some []))).alloc (.loop r) := ⟨_, rfl⟩
  have hDa : (w.alloc (.deferred (some []))).heap.size = D + 1 := by rw [hD]; simp [World.size_alloc]
  have hlb : wb.heap[D + 1]? = some (.loop r) := by
    have := World.alloc_heap_new (w.alloc (.deferred (some []))) (.loop r)
    rwa [hDa, ← hwb] at this
  have hDb : wb.heap[D]? = some (.deferred (some [])) := by
    have h1 := World.alloc_heap_new w (.deferred (some []))
    rw [hwb, heap_alloc_old _ _ D (by rw [hDa]; omega), hD]; exact h1
  have hszb : wb.heap.size = D + 2 := by rw [hwb, World.size_alloc, hDa]
  have hRb : Rel w0 mu S'.bx S'.E ρ wb := by rw [hwb]; exact (hR.grow (Keep.alloc [] w _)).grow (Keep.alloc [] _ _)
  have hw0 : w0.heap.size ≤ D := by rw [hD]; exact hR.keep.size
  have hrp : r.state = .ready ∧ r.pending = none := by rw [hr]; exact ⟨rfl, rfl⟩
  obtain ⟨hen, hcalls⟩ := hsem ⟨D + 1, r, ρ, fun bx E => Q .ret { S' with bx := bx, E := E }⟩ ⟨rfl, by rw [hr], by rw [hr], by rw [hr], by rw [hr]; exact hF⟩
  have hnl : ∀ k, D ≤ k → k ∉ lvB S'.bx ρ := by
    intro k hk hg
    obtain ⟨j, b, ad, q1, q2, q3, rfl⟩ := lvB_of hg
    have := (hR.box j b _ q1 q2).lt q3
    omega
  have hcall := hcalls wb ⟨lvB S'.bx ρ, S'.E, some ⟨D + 1, r, ρ, fun bx E => Q .ret { S' with bx := bx, E := E }⟩, []⟩ ρ wb (us ++ [Value.func (.yield (D + 1)) #[] #[]] ++ vs) ⟨⟨rfl, List.prefix_refl _⟩, hlb, hrp, hnl (D + 1) (by omega)⟩ hRb.here
    (denL_append (denL_append e1 (by simp [SV.denL, SV.den])) e2)
  have hinv : (invoke (.fn (.func gf) vs.toArray) (us.toArray ++ #[Value.func (.yield (D + 1)) #[] #[]])).run P wb = .ok (.enter gf (us ++ [Value.func (.yield (D + 1)) #[] #[]] ++ vs).toArray) wb := by
    have := hen.run (us ++ [Value.func (.yield (D + 1)) #[] #[]] ++ vs).toArray wb
    rw [← this]
    simp only [invoke]
    congr 2
    simp
  have hres : (resolve a.eval (rangeCall g (D + 1)) 0).run P wb = .ok { target := .fn (.func gf) vs.toArray, args := us.toArray ++ #[Value.func (.yield (D + 1)) #[] #[]] } wb := by
    have hev : a.eval (.const (.func (.yield (D + 1)) #[] #[])) = .func (.yield (D + 1)) #[] #[] := rfl
    simp only [resolve, ← eg, Deferred.ofValue, Sem.run_pure, List.map_toArray, List.map_cons, List.map_nil, hev]
  refine ⟨D + 1, [{ target := .collected D, args := #[] }], wb, _, wb, gf, _, wb, ?_, hres, fun _ _ => trivial, hinv, (fun e => by cases e), callsIn_wide.2 (hcall.mono ?_)⟩
  · rw [hwb, hr, hD]; exact run_enterLoop_outer fn' a.tmps ps assign body
  have fin : ∀ (bx' : List Box) (E' : Mem) (ρ' : Env) (w4 : World), ρ <+: ρ' → Rel w0 mu bx' E' ρ' w4 → w4.heap[D]? = some (.deferred (some [])) → ∀ K : St → Prop, K { S' with bx := bx', E := E' } → LiftR w0 mu ρ0 K { a with defers := [{ target := .collected D, args := #[] }] ++ a.defers } w4 := by
    intro bx' E' ρ' w4 hp' hR4 hD4 K hK
    have hDm : D ∉ lvB bx' ρ' := lvB_flat hR4 hD4 rfl
    have hlv : ∀ g, g ∈ lvB bx' ρ' → w0.heap.size ≤ g ∨ g ∈ mu.mu := fun g hg => by
      obtain ⟨j, b, ad, q1, q2, q3, rfl⟩ := lvB_of hg
      exact hR4.bsrc j b ad q1 q3 q2
    refine ⟨w4, ⟨lvB bx' ρ', E', mu.om, { target := .collected D, args := #[] } :: mu.ds⟩, ⟨rfl, fun bx E ρ w x => hR4.compose x, fun c o bx E ρ w hc hO x => ?_, fun hO => okO.at hO hR4.keep hlv, hR4.keep.size, fun hdd => ?_, fun d hdm => ?_⟩, ⟨?_, ?_⟩, { S' with bx := bx', E := E' }, ρ', hp.trans hp', hR4.here, hF.mono hp', hK⟩
    · unfold okO at hO
      rw [hc] at hO
      obtain ⟨g1, g2, g3⟩ := hO
      have g0 : c.l < w0.heap.size := (Array.getElem?_eq_some_iff.1 g1).1
      have g4 : w4.heap[c.l]? = some (.loop c.r) := by rw [hR4.keep.block c.l g0 g3]; exact g1
      exact (hR4.putBoth g0 g4 rfl (.loop o)).compose x
    · refine ⟨List.nodup_cons.2 ⟨fun hm' => ?_, hdd.1⟩, fun d hdm => ?_⟩
      · obtain ⟨D', q1, q2, _⟩ := hdd.2 _ hm'
        cases q1
        have := (Array.getElem?_eq_some_iff.1 q2).1
        omega
      · rcases List.mem_cons.1 hdm with rfl | hdm
        · exact ⟨D, rfl, hD4, hDm⟩
        · obtain ⟨D', q1, q2, q3⟩ := hdd.2 _ hdm
          have hD' : w4.heap[D']? = some (.deferred (some [])) := by rw [hR4.keep.block D' (Array.getElem?_eq_some_iff.1 q2).1 q3]; exact q2
          exact ⟨D', q1, hD', lvB_flat hR4 hD' rfl⟩
    · rcases List.mem_cons.1 hdm with rfl | hdm
      · exact .inr ⟨D, rfl, hw0⟩
      · exact .inl hdm
    · show [({ target := .collected D, args := #[] } : Deferred)] ++ a.defers = _
      rw [hd]; rfl
    · exact okO.at hO hR4.keep hlv
  rintro e w3 (⟨v, s, bx', E', ρ', rfl, hp', hs, hR3, hK⟩ | ⟨c, hc, v, bx', E', ρ', rfl, hp', hR3, hK⟩)
  · have hl3 : w3.heap[D + 1]? = some (.loop r) := by rw [hR3.keep.block (D + 1) (by omega) (hnl _ (by omega))]; exact hlb
    have hD3 : w3.heap[D]? = some (.deferred (some [])) := by rw [hR3.keep.block D (by omega) (hnl _ (by omega))]; exact hDb
    have hR4 := (hRb.compose hR3).putObj hl3 rfl (by omega) (.loop { r with state := .exhausted })
    have hend : (Instr.endLoop (D + 1)).run P w3 = .ok none (w3.putObj (D + 1) (.loop { r with state := .exhausted })) := by
      have := run_endLoop (P := P) hl3 (by rw [hrp.1]; intro e; cases e)
      rw [this, hrp.2]
    exact ⟨none, _, hend, fin bx' E' ρ' _ hp' hR4 (by rw [World.putObj_heap_other (by omega)]; exact hD3) _ hK⟩
  · cases hc
    obtain ⟨st, hst⟩ : ∃ st, st = (Rc.stop ⟨D + 1, r, ρ, fun bx E => Q .ret { S' with bx := bx, E := E }⟩) := ⟨_, rfl⟩
    have hst2 : st.state = .done ∧ st.pending = some .ret := by rw [hst]; exact ⟨rfl, rfl⟩
    rw [← hst] at hR3
    have hsl : (wb.putObj (D + 1) (.loop st)).heap[D + 1]? = some (.loop st) := World.putObj_heap_same (by omega)
    have hl3 : w3.heap[D + 1]? = some (.loop st) := by rw [hR3.keep.block (D + 1) (by rw [World.putObj_size]; omega) (hnl (D + 1) (Nat.le_succ D))]; exact hsl
    have hD3 : w3.heap[D]? = some (.deferred (some [])) := by rw [hR3.keep.block D (by rw [World.putObj_size]; omega) (hnl D (Nat.le_refl D)), World.putObj_heap_other (Nat.ne_of_lt (Nat.lt_succ_self D))]; exact hDb
    have hR4 := ((hRb.putObj hlb rfl (Nat.le_succ_of_le hw0) (.loop st)).compose hR3).putObj hl3 rfl (Nat.le_succ_of_le hw0) (.loop { st with state := .exhausted })
    have hend : (Instr.endLoop (D + 1)).run P w3 = .ok (some .ret) (w3.putObj (D + 1) (.loop { st with state := .exhausted })) := by
      have := run_endLoop (P := P) hl3 (by rw [hst2.1]; intro e; cases e)
      rw [this, hst2.2]
    exact ⟨some .ret, _, hend, wpIn_ret (.inl (fin bx' E' ρ' _ hp' hR4 (by rw [World.putObj_heap_other (by omega)]; exact hD3) (Q .ret) hK))⟩
end

/-- What follows a loop over a function. -/
def Pn (C : Cx) (n : Nat) (fn : Func) (p : List Nat) (n0 : Nat) (K : KT) (S : St) : Prop :=
  nSt S (contN C.P (callN C n) C.muts { C.opt with base := n0 } (bodyOf fn) p (bodyN C.P fn K) .normal)
/-- The same, as one lump. -/
structure Cn (C : Cx) (n : Nat) (fn : Func) (p : List Nat) (n0 : Nat) (K : KT) (S : St) : Prop where
  out : contN C.P (callN C n) C.muts { C.opt with base := n0 } (bodyOf fn) p (bodyN C.P fn K) .normal S

theorem Cn_intro {C : Cx} {n : Nat} {fn : Func} {p : List Nat} {n0 : Nat} {K : KT} {S : St} (h : Pn C n fn p n0 K S) : Cn C n fn p n0 K S := by
  unfold Pn at h
  rw [nSt_eq] at h
  exact ⟨h⟩

/-- The function that is ranged over is walked in C', the rounds in C. -/
def Cx.inY (C' C : Cx) (n : Nat) (c : Rc) (fr : List (Option SV)) (ps : List Nat) (assign body : Code) : Cx :=
  { C' with opt := { C'.opt with om := some c }, tabY := fun args bx E K => match args with
    | .raw (.func (.yield l) m b) :: rest => match m.toList, b.toList with
      | [], [] => l = c.l ∧ cond (ps.length == rest.length) (RoundN C.P (callN C n) C.muts C.opt fr ps assign body rest bx E K) False
      | _, _ => False
    | _ => False }

theorem CxOK.inY {C' C : Cx} (hC' : CxOK C') (hC : CxOK C) (hP : C.P = C'.P := by rfl) (hom : C.opt.om = none := by rfl) (n : Nat) {c : Rc} {fr : List (Option SV)} {ps : List Nat} {assign body : Code} {q0 : List Box → Mem → Prop} (hc : RcOK c fr ps assign body q0) :
    CxOK (Cx.inY C' C n c fr ps assign body) := by
  refine ⟨hC'.tab, hC'.wide, hC'.inl, hC'.tabB, fun c2 args bx E K h1 h2 => ?_⟩
  simp only [Cx.inY, Option.some.injEq] at h1
  subst h1
  simp only [Cx.inY] at h2
  split at h2
  case h_2 => exact h2.elim
  rename_i l m b rest
  split at h2
  case h_2 => exact h2.elim
  rename_i hm hb
  obtain ⟨rfl, h2⟩ := h2
  cases hl : ps.length == rest.length with
  | false => rw [hl] at h2; exact h2.elim
  | true =>
    rw [hl] at h2
    simp only [cond] at h2
    have hl : ps.length = rest.length := by simpa using hl
    rw [RoundN_eq, callN_eq] at h2
    have em : m = #[] := by rw [← Array.toList_inj]; exact hm
    have eb : b = #[] := by rw [← Array.toList_inj]; exact hb
    subst em; subst eb
    have hcall := callF_sound n hC
    rw [hom] at hcall
    have := round_sound hc hcall hC.wide hl h2
    rw [hP] at this
    exact this

theorem CxOK.four {C : Cx} (h1 : TabOK C.P C.tab) (h2 : C.P.follows .mixedOrders = true) (h3 : ∀ f fn, C.inl f = true → C.P.funcs[f]? = some fn → okFn fn) (h4 : ∀ f args bx E K, C.tabB f args bx E K → CallSem C.P f args bx E K) (ho : C.opt.om = none := by rfl) : CxOK C :=
  ⟨h1, h2, h3, h4, fun c args bx E K h => by rw [ho] at h; cases h⟩

/-- What follows a return out of a loop over a function. -/
def PnR (C : Cx) (n : Nat) (fn : Func) (p : List Nat) (n0 : Nat) (K : KT) (S : St) : Prop :=
  nSt S (contN C.P (callN C n) C.muts { C.opt with base := n0 } (bodyOf fn) p (bodyN C.P fn K) .ret)
structure CnR (C : Cx) (n : Nat) (fn : Func) (p : List Nat) (n0 : Nat) (K : KT) (S : St) : Prop where
  out : contN C.P (callN C n) C.muts { C.opt with base := n0 } (bodyOf fn) p (bodyN C.P fn K) .ret S
theorem CnR_intro {C : Cx} {n : Nat} {fn : Func} {p : List Nat} {n0 : Nat} {K : KT} {S : St} (h : PnR C n fn p n0 K S) : CnR C n fn p n0 K S := by
  unfold PnR at h
  rw [nSt_eq] at h
  exact ⟨h⟩

/-- A loop over a function. -/
theorem Rf {C : Cx} {n : Nat} {fn : Func} {p : List Nat} {n0 : Nat} {K : KT} {S : St} {g : Operand} {ps : Array Tmp} {assign body : Code} {gf : FuncId} {gfn : Func} {first caps : List SV} {Cy : Rc → Cx} {m : Nat}
    (hcode : sub (bodyOf fn) p = .rangeFunc g ps assign body) (hg : opd S g = some (.clo gf first caps)) (hf : C.P.funcs[gf]? = some gfn) (hok : okFn gfn)
    (hCy : ∀ c q, RcOK c S.fr ps.toList assign body q → CxOK (Cy c)) (hP : ∀ c, (Cy c).P = C.P) (hom : ∀ c, (Cy c).opt.om = some c)
    (h : ∀ c : Rc, CxOK (Cy c) → RcOK c S.fr ps.toList assign body (fun bx E => contN C.P (callN C n) C.muts { C.opt with base := n0 } (bodyOf fn) p (bodyN C.P fn K) .ret { S with bx := bx, E := E }) → EntB (Cy c) m gfn (first ++ [.raw (.func (.yield c.l) #[] #[])] ++ caps) S.bx S.E fun _ bx E => Cn C n fn p n0 K { S with bx := bx, E := E }) : Ct C n fn p n0 K S := by
  unfold Ct
  rw [hcode]
  refine rangeFunc_sound hg fun c hc => ?_
  have := EntB.semO (hCy c _ hc) (by rw [hP]; exact hf) hok (h c (hCy c _ hc) hc)
  rw [hP, hom] at this
  refine ⟨this.1, fun w0 mu ρ w vs h1 h2 h3 => (this.2 w0 mu ρ w vs h1 h2 h3).mono ?_⟩
  rintro e w' (⟨v, s, bx', E', ρ', e1, e2, e3, e4, e5⟩ | he)
  · exact .inl ⟨v, s, bx', E', ρ', e1, e2, e3, e4, e5.out⟩
  · exact .inr he

def isRf : Code → Bool
  | .rangeFunc .. => true
  | _ => false
def rfG : Code → Operand
  | .rangeFunc g _ _ _ => g
  | _ => .tmp 0
def rfPs : Code → Array Tmp
  | .rangeFunc _ ps _ _ => ps
  | _ => #[]
def rfA : Code → Code
  | .rangeFunc _ _ a _ => a
  | _ => .skip
def rfB : Code → Code
  | .rangeFunc _ _ _ b => b
  | _ => .skip
/-- The function that the loop x ranges over is walked in C', its rounds in C. -/
def YCx (C' C : Cx) (n : Nat) (fr : List (Option SV)) (x : Code) (c : Rc) : Cx := Cx.inY C' C n c fr (rfPs x).toList (rfA x) (rfB x)

/-- The record of the loop x in the frame of S, with what holds where a round has returned. -/
abbrev RcX (C : Cx) (n : Nat) (fn : Func) (p : List Nat) (n0 : Nat) (K : KT) (S : St) (c : Rc) : Prop :=
  RcOK c S.fr (rfPs (sub (bodyOf fn) p)).toList (rfA (sub (bodyOf fn) p)) (rfB (sub (bodyOf fn) p)) (fun bx E => contN C.P (callN C n) C.muts { C.opt with base := n0 } (bodyOf fn) p (bodyN C.P fn K) .ret { S with bx := bx, E := E })

theorem RfQ {C C' : Cx} (hC : CxOK C) (hC' : CxOK C') {n m : Nat} {fn : Func} {p : List Nat} {n0 : Nat} {K : KT} {S : St} {gf : FuncId} {gfn : Func} {first caps : List SV}
    (hx : isRf (sub (bodyOf fn) p) = true) (hg : opd S (rfG (sub (bodyOf fn) p)) = some (.clo gf first caps)) (hf : C.P.funcs[gf]? = some gfn) (hok : okFn gfn)
    (h : ∀ c : Rc, CxOK (YCx C' C n S.fr (sub (bodyOf fn) p) c) → RcX C n fn p n0 K S c → EntB (YCx C' C n S.fr (sub (bodyOf fn) p) c) m gfn (first ++ [.raw (.func (.yield c.l) #[] #[])] ++ caps) S.bx S.E fun _ bx E => Cn C n fn p n0 K { S with bx := bx, E := E })
    (hP : C.P = C'.P := by rfl) (hom : C.opt.om = none := by rfl) : Ct C n fn p n0 K S := by
  obtain ⟨x, e⟩ : ∃ x, x = sub (bodyOf fn) p := ⟨_, rfl⟩
  unfold RcX at h
  rw [← e] at hx hg h
  cases x with
  | rangeFunc g ps assign body =>
    exact Rf (Cy := YCx C' C n S.fr (.rangeFunc g ps assign body)) e.symm hg hf hok (fun c q hc => CxOK.inY hC' hC hP hom n hc) (fun c => hP.symm) (fun c => rfl) h
  | _ => cases hx

theorem RfY {C C' : Cx} (hC : CxOK C) (hC' : CxOK C') {n m : Nat} {fn : Func} {p : List Nat} {n0 : Nat} {K : KT} {S : St} {gf : FuncId} {gfn : Func} {first caps : List SV}
    (hx : isRf (sub (bodyOf fn) p) = true) (hg : opd S (rfG (sub (bodyOf fn) p)) = some (.clo gf first caps)) (hf : C.P.funcs[gf]? = some gfn) (hok : okFn gfn)
    (h : ∀ c : Rc, CxOK (YCx C' C n S.fr (sub (bodyOf fn) p) c) → EntB (YCx C' C n S.fr (sub (bodyOf fn) p) c) m gfn (first ++ [.raw (.func (.yield c.l) #[] #[])] ++ caps) S.bx S.E fun _ bx E => Cn C n fn p n0 K { S with bx := bx, E := E })
    (hP : C.P = C'.P := by rfl) (hom : C.opt.om = none := by rfl) : Ct C n fn p n0 K S :=
  RfQ hC hC' hx hg hf hok (fun c hc _ => h c hc) hP hom

/-- The last call of yield: its round returns, and so does the function that is ranged over. -/
def Pq (C' C : Cx) (n m : Nat) (fr : List (Option SV)) (x : Code) (c : Rc) (gfn : Func) (p : List Nat) (q : List Box → Mem → Prop) (S : St) : Prop :=
  match sub (bodyOf gfn) p with
  | .seq (.region _ ops false) .ret => quitN C.P (callN (YCx C' C n fr x c) m) ops (fun l rest S => l = c.l ∧ cond ((rfPs x).toList.length == rest.length) (RoundQN C.P (callN C n) C.muts C.opt fr (rfPs x).toList (rfA x) (rfB x) rest S.bx S.E q) False) ops.toList S
  | _ => False

theorem Ct_quit {C' C : Cx} {n m : Nat} {fr : List (Option SV)} {x : Code} {c : Rc} {q : List Box → Mem → Prop} (hC : CxOK C) (hY : CxOK (YCx C' C n fr x c)) (hc : RcOK c fr (rfPs x).toList (rfA x) (rfB x) q) {gfn : Func} {p : List Nat} {n0 : Nat} {K : KT} {S : St}
    (h : Pq C' C n m fr x c gfn p q S) (hP : C.P = C'.P := by rfl) (hom : C.opt.om = none := by rfl) : Ct (YCx C' C n fr x c) m gfn p n0 K S := by
  unfold Pq at h
  split at h
  case h_2 => exact h.elim
  rename_i id ops hsub
  unfold Ct
  rw [hsub]
  rw [quitN_eq, callN_eq] at h
  have hcall := callF_sound m hY
  have hcall2 := callF_sound n hC
  rw [hom] at hcall2
  have e1 : (YCx C' C n fr x c).P = C.P := hP.symm
  rw [e1] at hcall ⊢
  refine CutP_quit (c := c) hcall (fun l rest S w0 mu ρ w vs hR ho hrel hd => ?_) h
  obtain ⟨rfl, hR⟩ := hR
  cases hl : (rfPs x).toList.length == rest.length with
  | false => rw [hl] at hR; exact hR.elim
  | true =>
    rw [hl] at hR
    simp only [cond] at hR
    rw [RoundQN_eq, callN_eq, ← hc.q] at hR
    exact ⟨rfl, roundQ_sound hc hcall2 hC.wide (by simpa using hl) hR ho hrel hd⟩

end Go.Sx
