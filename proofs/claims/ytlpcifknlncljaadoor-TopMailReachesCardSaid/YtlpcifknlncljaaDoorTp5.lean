/- What functions of the program compute; plain lemmas on it. Conditions: none. -/
import Derived.Test.YtlpcifknlncljaaDoorTm2
namespace Go.Proofs.YtlpcifknlncljaaDoor.TopOwn
open Go Go.Sx
set_option maxRecDepth 100000
set_option maxHeartbeats 4000000
set_option linter.unusedVariables false
set_option linter.unusedSimpArgs false
variable {E : Mem} {K : SV → Mem → Prop}
theorem takeT_lt {t : Int} {y : Dn} {ys : List Dn} (h : y.t < t) : takeT t (y :: ys) = y :: takeT t ys := by simp [takeT, h]
theorem dropT_lt {t : Int} {y : Dn} {ys : List Dn} (h : y.t < t) : dropT t (y :: ys) = dropT t ys := by simp [dropT, h]
theorem takeT_ge {t : Int} {rs : List Dn} (h : rs = [] ∨ ∃ y ys, rs = y :: ys ∧ ¬ y.t < t) : takeT t rs = [] ∧ dropT t rs = rs := by
  rcases h with rfl | ⟨y, ys, rfl, h⟩
  · exact ⟨rfl, rfl⟩
  · simp [takeT, dropT, h]
theorem list_ind {P : List Dn → Prop} (h : ∀ rs, (∀ y ys, rs = y :: ys → P ys) → P rs) : ∀ rs, P rs
  | [] => h [] (fun _ _ e => nomatch e)
  | y :: ys => h _ (fun _ _ e => by cases e; exact list_ind h ys)
theorem lrA1 {ch fr sq : Int} {bb : Option Addr} {bl bc : Nat} {ow dd : Dn} {x : Dn} {KK : KT} (hfr : 0 ≤ fr ∧ fr ≤ 1000) : ∀ (rs os : List Dn) (rb : Option Addr) (rl rc n cap tot : Nat) (vs : List Value) (E : Mem), SL Dw E rb rl rc rs → OutV os n cap tot vs → rl + n ≤ 900 → (∀ y ∈ rs, y.t ≠ x.t) → (∀ (rb' : Option Addr) (rl' rc' n' cap' tot' : Nat) (vs' : List Value) (E' : Mem), Mem.le E E' → SL Dw E' rb' rl' rc' (dropT x.t rs) → OutV (os ++ takeT x.t rs ++ [⟨x.t, ch, x.sq, fr + 3⟩]) n' cap' tot' vs' → KK (B true) [⟨3, .lst [I ch], 1, true⟩, ⟨3, .lst [I fr], 1, true⟩, ⟨39, .lst [.slc 10 0 n' cap'], 1, true⟩, ⟨39, .lst [L rb' rl' rc'], 1, true⟩, ⟨3, .lst [I ch], 1, true⟩, ⟨3, .lst [I sq], 1, true⟩, ⟨39, .lst [L bb bl bc], 1, true⟩, ⟨72, .lst [I ow.t, I ow.nx, I ow.sq, I ow.un], 4, true⟩, ⟨72, .lst [], 0, false⟩, ⟨72, .lst [I dd.t, I dd.nx, I dd.sq, I dd.un], 4, true⟩, ⟨72, .vals vs', tot', true⟩] E') → Lr N0 8 Tryd.f11 [1, 0, 1, 1, 1, 1, 1, 0, 1, 0] [0, 0, 0] 10 (cloK 10 KK) (sA1 ch fr sq bb bl bc ow dd x rb rl rc n cap tot vs E) := by
  refine list_ind fun rs ih os rb rl rc n cap tot vs E R O hs hne hK => ?_
  exact Lr_one okN0 (rA1 R O hs hne hfr (fun y ys e hlt b' c' cap' tot' vs' E' k R' O' => by
    subst e
    have hl := R.len
    refine ih y ys rfl (os ++ [y]) b' (rl - 1) c' (n + 1) cap' tot' vs' E' R' O' (by simp at hl; omega) (fun z hz => hne z (List.mem_cons_of_mem _ hz)) (fun rb' rl' rc' n' cap'' tot'' vs'' E'' k2 R2 O2 => hK rb' rl' rc' n' cap'' tot'' vs'' E'' (Mem.le_trans k k2) (by rw [dropT_lt hlt]; exact R2) (by rw [takeT_lt hlt]; simpa using O2))) (fun hd B1 B2 cap' tot' c1 c2 => by
    obtain ⟨e1, e2⟩ := takeT_ge hd
    refine cloK_intro (n0 := 10) [some 0, some 1, some 2, some 3, some 4, some 5, some 6, some 7, some 8, some 9, some 13] (hK rb rl rc (n + 1) cap' tot' _ E (Mem.le_refl _) (by rw [e2]; exact R) (by rw [e1, List.append_nil]; exact O.snoc ⟨x.t, ch, x.sq, fr + 3⟩ c1 c2)) ⟨⟨by first | (simp; done) | (simp [St.pub]; done), by first | (simp; done) | (simp [St.pub]; done), fun j h => (by have e : j = 0 ∨ j = 1 ∨ j = 2 ∨ j = 3 ∨ j = 4 ∨ j = 5 ∨ j = 6 ∨ j = 7 ∨ j = 8 ∨ j = 9 := (by omega); rcases e with rfl | rfl | rfl | rfl | rfl | rfl | rfl | rfl | rfl | rfl <;> rfl)⟩, rfl, (by repeat' first | exact True.intro | refine And.intro (Or.inl rfl) ?_ | refine And.intro (Or.inr ⟨rfl, rfl⟩) ?_), (by repeat' first | exact True.intro | exact rfl | exact Or.inl rfl | exact (by decide : 8 < 14) | refine And.intro ?_ ?_), (show List.Nodup [0, 1, 2, 3, 4, 5, 6, 7, 9, 13] from by decide), Mem.le_refl _⟩))
theorem lrA0 {ch fr sq : Int} {bb : Option Addr} {bl bc : Nat} {ow dd : Dn} {x : Dn} {rb : Option Addr} {rl rc n cap tot : Nat} {vs : List Value} {KK : KT} {rs os : List Dn} (R : SL Dw E rb rl rc rs) (O : OutV os n cap tot vs) (hs : rl + n ≤ 900) (hne : ∀ y ∈ rs, y.t ≠ x.t) (hfr : 0 ≤ fr ∧ fr ≤ 1000) (hK : ∀ (rb' : Option Addr) (rl' rc' n' cap' tot' : Nat) (vs' : List Value) (E' : Mem), Mem.le E E' → SL Dw E' rb' rl' rc' (dropT x.t rs) → OutV (os ++ takeT x.t rs ++ [⟨x.t, ch, x.sq, fr + 3⟩]) n' cap' tot' vs' → KK (B true) [⟨3, .lst [I ch], 1, true⟩, ⟨3, .lst [I fr], 1, true⟩, ⟨39, .lst [.slc 10 0 n' cap'], 1, true⟩, ⟨39, .lst [L rb' rl' rc'], 1, true⟩, ⟨3, .lst [I ch], 1, true⟩, ⟨3, .lst [I sq], 1, true⟩, ⟨39, .lst [L bb bl bc], 1, true⟩, ⟨72, .lst [I ow.t, I ow.nx, I ow.sq, I ow.un], 4, true⟩, ⟨72, .lst [], 0, false⟩, ⟨72, .lst [I dd.t, I dd.nx, I dd.sq, I dd.un], 4, true⟩, ⟨72, .vals vs', tot', true⟩] E') : Lr N0 8 Tryd.f11 [1, 0, 1, 1, 1, 1, 1, 0, 1, 0] [0, 0, 0] 10 (cloK 10 KK) (sA0 ch fr sq bb bl bc ow dd x rb rl rc n cap tot vs E) := by
  exact Lr_one okN0 (rA0 R O hs hne hfr (fun y ys e hlt b' c' cap' tot' vs' E' k R' O' => by
    subst e
    have hl := R.len
    refine lrA1 hfr ys (os ++ [y]) b' (rl - 1) c' (n + 1) cap' tot' vs' E' R' O' (by simp at hl; omega) (fun z hz => hne z (List.mem_cons_of_mem _ hz)) (fun rb' rl' rc' n' cap'' tot'' vs'' E'' k2 R2 O2 => hK rb' rl' rc' n' cap'' tot'' vs'' E'' (Mem.le_trans k k2) (by rw [dropT_lt hlt]; exact R2) (by rw [takeT_lt hlt]; simpa using O2))) (fun hd B1 B2 cap' tot' c1 c2 => by
    obtain ⟨e1, e2⟩ := takeT_ge hd
    refine cloK_intro (n0 := 10) [some 0, some 1, some 2, some 3, some 4, some 5, some 6, some 7, some 8, some 9, some 12] (hK rb rl rc (n + 1) cap' tot' _ E (Mem.le_refl _) (by rw [e2]; exact R) (by rw [e1, List.append_nil]; exact O.snoc ⟨x.t, ch, x.sq, fr + 3⟩ c1 c2)) ⟨⟨by first | (simp; done) | (simp [St.pub]; done), by first | (simp; done) | (simp [St.pub]; done), fun j h => (by have e : j = 0 ∨ j = 1 ∨ j = 2 ∨ j = 3 ∨ j = 4 ∨ j = 5 ∨ j = 6 ∨ j = 7 ∨ j = 8 ∨ j = 9 := (by omega); rcases e with rfl | rfl | rfl | rfl | rfl | rfl | rfl | rfl | rfl | rfl <;> rfl)⟩, rfl, (by repeat' first | exact True.intro | refine And.intro (Or.inl rfl) ?_ | refine And.intro (Or.inr ⟨rfl, rfl⟩) ?_), (by repeat' first | exact True.intro | exact rfl | exact Or.inl rfl | exact (by decide : 8 < 13) | refine And.intro ?_ ?_), (show List.Nodup [0, 1, 2, 3, 4, 5, 6, 7, 9, 12] from by decide), Mem.le_refl _⟩))
theorem lrC1 {ch fr sq : Int} {bb : Option Addr} {bl bc : Nat} {ow : Dn} {x : Dn} {KK : KT} (hfr : 0 ≤ fr ∧ fr ≤ 1000) : ∀ (rs os : List Dn) (rb : Option Addr) (rl rc n cap tot : Nat) (vs : List Value) (E : Mem), SL Dw E rb rl rc rs → OutV os n cap tot vs → rl + n ≤ 900 → (∀ y ∈ rs, y.t ≠ x.t) → (∀ (rb' : Option Addr) (rl' rc' n' cap' tot' : Nat) (vs' : List Value) (E' : Mem), Mem.le E E' → SL Dw E' rb' rl' rc' (dropT x.t rs) → OutV (os ++ takeT x.t rs ++ [⟨x.t, ch, x.sq, fr + 3⟩]) n' cap' tot' vs' → KK (B true) [⟨3, .lst [I ch], 1, true⟩, ⟨3, .lst [I fr], 1, true⟩, ⟨39, .lst [.slc 9 0 n' cap'], 1, true⟩, ⟨39, .lst [L rb' rl' rc'], 1, true⟩, ⟨3, .lst [I ch], 1, true⟩, ⟨3, .lst [I sq], 1, true⟩, ⟨39, .lst [L bb bl bc], 1, true⟩, ⟨72, .lst [I ow.t, I ow.nx, I ow.sq, I ow.un], 4, true⟩, ⟨72, .lst [], 0, false⟩, ⟨72, .vals vs', tot', true⟩] E') → Lr N0 8 Tryd.f11 [1, 0, 1, 1, 1, 1, 1, 0, 1, 0] [0, 0, 0] 9 (cloK 9 KK) (sC1 ch fr sq bb bl bc ow x rb rl rc n cap tot vs E) := by
  refine list_ind fun rs ih os rb rl rc n cap tot vs E R O hs hne hK => ?_
  exact Lr_one okN0 (rC1 R O hs hne hfr (fun y ys e hlt b' c' cap' tot' vs' E' k R' O' => by
    subst e
    have hl := R.len
    refine ih y ys rfl (os ++ [y]) b' (rl - 1) c' (n + 1) cap' tot' vs' E' R' O' (by simp at hl; omega) (fun z hz => hne z (List.mem_cons_of_mem _ hz)) (fun rb' rl' rc' n' cap'' tot'' vs'' E'' k2 R2 O2 => hK rb' rl' rc' n' cap'' tot'' vs'' E'' (Mem.le_trans k k2) (by rw [dropT_lt hlt]; exact R2) (by rw [takeT_lt hlt]; simpa using O2))) (fun hd B1 B2 cap' tot' c1 c2 => by
    obtain ⟨e1, e2⟩ := takeT_ge hd
    refine cloK_intro (n0 := 9) [some 0, some 1, some 2, some 3, some 4, some 5, some 6, some 7, some 8, some 12] (hK rb rl rc (n + 1) cap' tot' _ E (Mem.le_refl _) (by rw [e2]; exact R) (by rw [e1, List.append_nil]; exact O.snoc ⟨x.t, ch, x.sq, fr + 3⟩ c1 c2)) ⟨⟨by first | (simp; done) | (simp [St.pub]; done), by first | (simp; done) | (simp [St.pub]; done), fun j h => (by have e : j = 0 ∨ j = 1 ∨ j = 2 ∨ j = 3 ∨ j = 4 ∨ j = 5 ∨ j = 6 ∨ j = 7 ∨ j = 8 := (by omega); rcases e with rfl | rfl | rfl | rfl | rfl | rfl | rfl | rfl | rfl <;> rfl)⟩, rfl, (by repeat' first | exact True.intro | refine And.intro (Or.inl rfl) ?_ | refine And.intro (Or.inr ⟨rfl, rfl⟩) ?_), (by repeat' first | exact True.intro | exact rfl | exact Or.inl rfl | exact (by decide : 8 < 13) | refine And.intro ?_ ?_), (show List.Nodup [0, 1, 2, 3, 4, 5, 6, 7, 12] from by decide), Mem.le_refl _⟩))
theorem lrC0 {ch fr sq : Int} {bb : Option Addr} {bl bc : Nat} {ow : Dn} {x : Dn} {rb : Option Addr} {rl rc n cap tot : Nat} {vs : List Value} {KK : KT} {rs os : List Dn} (R : SL Dw E rb rl rc rs) (O : OutV os n cap tot vs) (hs : rl + n ≤ 900) (hne : ∀ y ∈ rs, y.t ≠ x.t) (hfr : 0 ≤ fr ∧ fr ≤ 1000) (hK : ∀ (rb' : Option Addr) (rl' rc' n' cap' tot' : Nat) (vs' : List Value) (E' : Mem), Mem.le E E' → SL Dw E' rb' rl' rc' (dropT x.t rs) → OutV (os ++ takeT x.t rs ++ [⟨x.t, ch, x.sq, fr + 3⟩]) n' cap' tot' vs' → KK (B true) [⟨3, .lst [I ch], 1, true⟩, ⟨3, .lst [I fr], 1, true⟩, ⟨39, .lst [.slc 9 0 n' cap'], 1, true⟩, ⟨39, .lst [L rb' rl' rc'], 1, true⟩, ⟨3, .lst [I ch], 1, true⟩, ⟨3, .lst [I sq], 1, true⟩, ⟨39, .lst [L bb bl bc], 1, true⟩, ⟨72, .lst [I ow.t, I ow.nx, I ow.sq, I ow.un], 4, true⟩, ⟨72, .lst [], 0, false⟩, ⟨72, .vals vs', tot', true⟩] E') : Lr N0 8 Tryd.f11 [1, 0, 1, 1, 1, 1, 1, 0, 1, 0] [0, 0, 0] 9 (cloK 9 KK) (sC0 ch fr sq bb bl bc ow x rb rl rc n cap tot vs E) := by
  exact Lr_one okN0 (rC0 R O hs hne hfr (fun y ys e hlt b' c' cap' tot' vs' E' k R' O' => by
    subst e
    have hl := R.len
    refine lrC1 hfr ys (os ++ [y]) b' (rl - 1) c' (n + 1) cap' tot' vs' E' R' O' (by simp at hl; omega) (fun z hz => hne z (List.mem_cons_of_mem _ hz)) (fun rb' rl' rc' n' cap'' tot'' vs'' E'' k2 R2 O2 => hK rb' rl' rc' n' cap'' tot'' vs'' E'' (Mem.le_trans k k2) (by rw [dropT_lt hlt]; exact R2) (by rw [takeT_lt hlt]; simpa using O2))) (fun hd B1 B2 cap' tot' c1 c2 => by
    obtain ⟨e1, e2⟩ := takeT_ge hd
    refine cloK_intro (n0 := 9) [some 0, some 1, some 2, some 3, some 4, some 5, some 6, some 7, some 8, some 11] (hK rb rl rc (n + 1) cap' tot' _ E (Mem.le_refl _) (by rw [e2]; exact R) (by rw [e1, List.append_nil]; exact O.snoc ⟨x.t, ch, x.sq, fr + 3⟩ c1 c2)) ⟨⟨by first | (simp; done) | (simp [St.pub]; done), by first | (simp; done) | (simp [St.pub]; done), fun j h => (by have e : j = 0 ∨ j = 1 ∨ j = 2 ∨ j = 3 ∨ j = 4 ∨ j = 5 ∨ j = 6 ∨ j = 7 ∨ j = 8 := (by omega); rcases e with rfl | rfl | rfl | rfl | rfl | rfl | rfl | rfl | rfl <;> rfl)⟩, rfl, (by repeat' first | exact True.intro | refine And.intro (Or.inl rfl) ?_ | refine And.intro (Or.inr ⟨rfl, rfl⟩) ?_), (by repeat' first | exact True.intro | exact rfl | exact Or.inl rfl | exact (by decide : 8 < 12) | refine And.intro ?_ ?_), (show List.Nodup [0, 1, 2, 3, 4, 5, 6, 7, 11] from by decide), Mem.le_refl _⟩))
def TN (rest : List SV) (bx : List Box) (E : Mem) (K : KT) : Prop := ∃ (ch fr sq : Int) (bb : Option Addr) (bl bc : Nat) (ow x : Dn) (rb : Option Addr) (rl rc n cap tot : Nat) (vs : List Value) (rs os : List Dn), (rest = [.agg [I x.t, I x.nx, I x.sq, I x.un]] ∧ SL Dw E rb rl rc rs ∧ OutV os n cap tot vs ∧ rl + n ≤ 900 ∧ (∀ y ∈ rs, y.t ≠ x.t) ∧ 0 ≤ fr ∧ fr ≤ 1000) ∧ ((∃ dd : Dn, bx = [⟨3, .lst [I ch], 1, true⟩, ⟨3, .lst [I fr], 1, true⟩, ⟨39, .lst [.slc 8 0 n cap], 1, true⟩, ⟨39, .lst [L rb rl rc], 1, true⟩, ⟨3, .lst [I ch], 1, true⟩, ⟨3, .lst [I sq], 1, true⟩, ⟨39, .lst [L bb bl bc], 1, true⟩, ⟨72, .lst [I ow.t, I ow.nx, I ow.sq, I ow.un], 4, true⟩, ⟨72, .vals vs, tot, true⟩, ⟨72, .lst [I dd.t, I dd.nx, I dd.sq, I dd.un], 4, true⟩] ∧ (∀ (rb' : Option Addr) (rl' rc' n' cap' tot' : Nat) (vs' : List Value) (E' : Mem), Mem.le E E' → SL Dw E' rb' rl' rc' (dropT x.t rs) → OutV (os ++ takeT x.t rs ++ [⟨x.t, ch, x.sq, fr + 3⟩]) n' cap' tot' vs' → K (B true) [⟨3, .lst [I ch], 1, true⟩, ⟨3, .lst [I fr], 1, true⟩, ⟨39, .lst [.slc 10 0 n' cap'], 1, true⟩, ⟨39, .lst [L rb' rl' rc'], 1, true⟩, ⟨3, .lst [I ch], 1, true⟩, ⟨3, .lst [I sq], 1, true⟩, ⟨39, .lst [L bb bl bc], 1, true⟩, ⟨72, .lst [I ow.t, I ow.nx, I ow.sq, I ow.un], 4, true⟩, ⟨72, .lst [], 0, false⟩, ⟨72, .lst [I dd.t, I dd.nx, I dd.sq, I dd.un], 4, true⟩, ⟨72, .vals vs', tot', true⟩] E')) ∨ (bx = [⟨3, .lst [I ch], 1, true⟩, ⟨3, .lst [I fr], 1, true⟩, ⟨39, .lst [.slc 8 0 n cap], 1, true⟩, ⟨39, .lst [L rb rl rc], 1, true⟩, ⟨3, .lst [I ch], 1, true⟩, ⟨3, .lst [I sq], 1, true⟩, ⟨39, .lst [L bb bl bc], 1, true⟩, ⟨72, .lst [I ow.t, I ow.nx, I ow.sq, I ow.un], 4, true⟩, ⟨72, .vals vs, tot, true⟩] ∧ (∀ (rb' : Option Addr) (rl' rc' n' cap' tot' : Nat) (vs' : List Value) (E' : Mem), Mem.le E E' → SL Dw E' rb' rl' rc' (dropT x.t rs) → OutV (os ++ takeT x.t rs ++ [⟨x.t, ch, x.sq, fr + 3⟩]) n' cap' tot' vs' → K (B true) [⟨3, .lst [I ch], 1, true⟩, ⟨3, .lst [I fr], 1, true⟩, ⟨39, .lst [.slc 9 0 n' cap'], 1, true⟩, ⟨39, .lst [L rb' rl' rc'], 1, true⟩, ⟨3, .lst [I ch], 1, true⟩, ⟨3, .lst [I sq], 1, true⟩, ⟨39, .lst [L bb bl bc], 1, true⟩, ⟨72, .lst [I ow.t, I ow.nx, I ow.sq, I ow.un], 4, true⟩, ⟨72, .lst [], 0, false⟩, ⟨72, .vals vs', tot', true⟩] E')))
theorem TN_ok (rest : List SV) (bx : List Box) (E : Mem) (K : KT) (h : TN rest bx E K) : (rfPs (sub (bodyOf Tryd.f11) [1, 0, 1, 1, 1, 1, 1, 0, 1, 0])).toList.length = rest.length ∧ RnF N0 8 Tryd.f11 [1, 0, 1, 1, 1, 1, 1, 0, 1, 0] fr11 rest bx E (cloK bx.length K) := by
  obtain ⟨ch, fr, sq, bb, bl, bc, ow, x, rb, rl, rc, n, cap, tot, vs, rs, os, ⟨rfl, R, O, hs, hne, hfr⟩, ⟨dd, rfl, hK⟩ | ⟨rfl, hK⟩⟩ := h
  · exact ⟨by kernel_rfl, rnA (lrA0 R O hs hne hfr hK)⟩
  · exact ⟨by kernel_rfl, rnC (lrC0 R O hs hne hfr hK)⟩
def stepN (ch fr : Int) (p : List Dn × List Dn) (x : Dn) : List Dn × List Dn := (p.1 ++ takeT x.t p.2 ++ [⟨x.t, ch, x.sq, fr + 3⟩], dropT x.t p.2)
def acc (ch fr : Int) (rs0 xs : List Dn) : List Dn × List Dn := xs.foldl (stepN ch fr) ([], rs0)
theorem acc_snoc {ch fr : Int} {rs0 xs : List Dn} {x : Dn} : acc ch fr rs0 (xs ++ [x]) = stepN ch fr (acc ch fr rs0 xs) x := by simp [acc]
theorem td_len (t : Int) (rs : List Dn) : (takeT t rs).length + (dropT t rs).length = rs.length := by
  unfold takeT dropT
  rw [← List.length_append, List.takeWhile_append_dropWhile]
theorem step_len {ch fr : Int} {x : Dn} {q : List Dn × List Dn} : (stepN ch fr q x).1.length + (stepN ch fr q x).2.length = q.1.length + q.2.length + 1 := by
  have := td_len x.t q.2
  simp [stepN]
  omega
theorem fold_len {ch fr : Int} : ∀ (xs : List Dn) (q : List Dn × List Dn), (xs.foldl (stepN ch fr) q).1.length + (xs.foldl (stepN ch fr) q).2.length = q.1.length + q.2.length + xs.length
  | [], q => by simp
  | x :: xs, q => by
    have := fold_len (ch := ch) (fr := fr) xs (stepN ch fr q x)
    have h2 := step_len (ch := ch) (fr := fr) (x := x) (q := q)
    simp only [List.foldl_cons, List.length_cons]
    omega
theorem acc_len (ch fr : Int) (rs0 xs : List Dn) : (acc ch fr rs0 xs).1.length + (acc ch fr rs0 xs).2.length = rs0.length + xs.length := by
  have := fold_len (ch := ch) (fr := fr) xs ([], rs0)
  simpa [acc] using this
theorem fold_sub {ch fr : Int} : ∀ (xs : List Dn) (q : List Dn × List Dn) (y : Dn), y ∈ (xs.foldl (stepN ch fr) q).2 → y ∈ q.2
  | [], q, y, h => h
  | x :: xs, q, y, h => (List.dropWhile_suffix _).subset (fold_sub (ch := ch) (fr := fr) xs (stepN ch fr q x) y h)
structure H50 (ch fr : Int) (rs0 zs : List Dn) (ow : Dn) (bl : Nat) : Prop where
  hz : zs.length = bl
  gt : ∀ z ∈ zs, ch < z.t
  ne : ∀ y ∈ rs0, ∀ x ∈ ow :: zs, y.t ≠ x.t
  sz : rs0.length + bl ≤ 800
  fr : 0 ≤ fr ∧ fr ≤ 1000
def pref (ow : Dn) (zs : List Dn) (i : Nat) : List Dn := if i = 0 then [] else ow :: zs.take i
structure J50 (E0 : Mem) (ch fr : Int) (rs0 zs : List Dn) (ow : Dn) (bb : Option Addr) (bl bc : Nat) (E : Mem) (rb : Option Addr) (rl rc n cap tot : Nat) (vs : List Value) (i : Nat) : Prop where
  R : SL Dw E rb rl rc (acc ch fr rs0 (pref ow zs i)).2
  O : OutV (acc ch fr rs0 (pref ow zs i)).1 n cap tot vs
  b : SL Dw E bb bl bc zs
  le : Mem.le E0 E
  hi : i ≤ bl
theorem H50.sub {ch fr : Int} {rs0 zs xs : List Dn} {ow x : Dn} {bl : Nat} (H : H50 ch fr rs0 zs ow bl) (hx : x ∈ ow :: zs) : ∀ y ∈ (acc ch fr rs0 xs).2, y.t ≠ x.t := fun y hy => H.ne y (fold_sub xs _ y hy) x hx
noncomputable def N1 : Cx := { P := Tryd.prog, inl := fun f => List.contains [] f, tab := fun _ _ _ _ => False, isB := fun _ => false, tabB := fun _ _ _ _ _ => False, opt := { unroll := 0, carry := [13], cuts := [5] }, muts := (fun o => match o with | .call { callee := .builtin .len, .. } => false | .call _ => true | o => mutsD o) }
theorem okN1 : CxOK N1 := CxOK.four (fun _ _ _ _ h => h.elim) (by kernel_rfl) (okInl (by kernel_rfl)) (fun _ _ _ _ _ h => h.elim)
def s50 (ch fr sq : Int) (rb : Option Addr) (rl rc : Nat) (bb : Option Addr) (bl bc : Nat) (ow : Dn) (n cap tot : Nat) (vs : List Value) (yc : Rc) (i : Nat) (E : Mem) : St := ⟨[some (.raw (.func (.yield yc.l) #[] #[])), some (.loc 4 0), some (.loc 5 0), some (.loc 6 0), none, some (.loc 7 0), none, none, none, none, none, some (L bb bl bc), some (I (bl : Nat)), some (I (i : Nat))] ++ List.replicate 50 none, [⟨3, .lst [I ch], 1, true⟩, ⟨3, .lst [I fr], 1, true⟩, ⟨39, .lst [.slc 8 0 n cap], 1, true⟩, ⟨39, .lst [L rb rl rc], 1, true⟩, ⟨3, .lst [I ch], 1, true⟩, ⟨3, .lst [I sq], 1, true⟩, ⟨39, .lst [L bb bl bc], 1, true⟩, ⟨72, .lst [I ow.t, I ow.nx, I ow.sq, I ow.un], 4, true⟩, ⟨72, .vals vs, tot, true⟩], E⟩
def c50 (ch fr sq : Int) (rb : Option Addr) (rl rc : Nat) (bb : Option Addr) (bl bc : Nat) (ow : Dn) (n cap tot : Nat) (vs : List Value) (yc : Rc) (dd : Dn) (i : Nat) (E : Mem) : St := ⟨[some (.raw (.func (.yield yc.l) #[] #[])), some (.loc 4 0), some (.loc 5 0), some (.loc 6 0), none, some (.loc 7 0), some (I (i : Nat)), some (.loc 9 0), none, none, none, some (L bb bl bc), some (I (bl : Nat)), some (I (i : Nat))] ++ List.replicate 50 none, [⟨3, .lst [I ch], 1, true⟩, ⟨3, .lst [I fr], 1, true⟩, ⟨39, .lst [.slc 8 0 n cap], 1, true⟩, ⟨39, .lst [L rb rl rc], 1, true⟩, ⟨3, .lst [I ch], 1, true⟩, ⟨3, .lst [I sq], 1, true⟩, ⟨39, .lst [L bb bl bc], 1, true⟩, ⟨72, .lst [I ow.t, I ow.nx, I ow.sq, I ow.un], 4, true⟩, ⟨72, .vals vs, tot, true⟩, ⟨72, .lst [I dd.t, I dd.nx, I dd.sq, I dd.un], 4, true⟩], E⟩
theorem p50 {ch fr sq : Int} {rb : Option Addr} {rl rc : Nat} {bb : Option Addr} {bl bc : Nat} {ow : Dn} {n cap tot : Nat} {vs : List Value} {yc : Rc} {dd : Dn} {i : Nat} {KK : KT} {rs os : List Dn} (hrc : CxOK (Cx.inT N1 TN yc)) (R : SL Dw E rb rl rc rs) (O : OutV os n cap tot vs) (hs : rl + n ≤ 900) (hne : ∀ y ∈ rs, y.t ≠ dd.t) (hfr : 0 ≤ fr ∧ fr ≤ 1000) (hi : i ≤ 1000)
    (ih : ∀ (rb' : Option Addr) (rl' rc' n' cap' tot' : Nat) (vs' : List Value) (E' : Mem), Mem.le E E' → SL Dw E' rb' rl' rc' (dropT dd.t rs) → OutV (os ++ takeT dd.t rs ++ [⟨dd.t, ch, dd.sq, fr + 3⟩]) n' cap' tot' vs' → Lp (Cx.inT N1 TN yc) 8 Tryd.f50 [1, 0, 1, 0] 7 KK (s50 ch fr sq rb' rl' rc' bb bl bc ow n' cap' tot' vs' yc (i + 1) E')) : Pc (Cx.inT N1 TN yc) 8 Tryd.f50 [1, 0, 1, 0, 0, 1, 1, 0, 0, 1, 1] 7 KK (c50 ch fr sq rb rl rc bb bl bc ow n cap tot vs yc dd i E) := by
  refine same (by kernel_rfl) (?_ : yc.l = yc.l ∧ ∃ (ch_1 : Int), ∃ (fr_1 : Int), ∃ (sq_1 : Int), ∃ (bb_1 : Option Addr), ∃ (bl_1 : Nat), ∃ (bc_1 : Nat), ∃ (ow_1 : Dn), ∃ (x : Dn), ∃ (rb_1 : Option Addr), ∃ (rl_1 : Nat), ∃ (rc_1 : Nat), ∃ (n_1 : Nat), ∃ (cap_1 : Nat), ∃ (tot_1 : Nat), ∃ (vs_1 : List Value), ∃ (rs : List Dn), ∃ (os : List Dn), ([SV.agg [I dd.t, I dd.nx, I dd.sq, I dd.un]] = [SV.agg [I x.t, I x.nx, I x.sq, I x.un]] ∧ SL Dw E rb_1 rl_1 rc_1 rs ∧ OutV os n_1 cap_1 tot_1 vs_1 ∧ rl_1 + n_1 ≤ 900 ∧ (∀ (y : Dn), List.Mem y rs → y.t = x.t → False) ∧ (0 : Int) ≤ fr_1 ∧ fr_1 ≤ (1000 : Int)) ∧ ((∃ (dd_1 : Dn), [(⟨3, Row.lst [I ch], 1, true⟩ : Box), ⟨3, Row.lst [I fr], 1, true⟩, ⟨39, Row.lst [SV.slc 8 0 n cap], 1, true⟩, ⟨39, Row.lst [L rb rl rc], 1, true⟩, ⟨3, Row.lst [I ch], 1, true⟩, ⟨3, Row.lst [I sq], 1, true⟩, ⟨39, Row.lst [L bb bl bc], 1, true⟩, ⟨72, Row.lst [I ow.t, I ow.nx, I ow.sq, I ow.un], 4, true⟩, ⟨72, Row.vals vs, tot, true⟩, ⟨72, Row.lst [I dd.t, I dd.nx, I dd.sq, I dd.un], 4, true⟩] = [(⟨3, Row.lst [I ch_1], 1, true⟩ : Box), ⟨3, Row.lst [I fr_1], 1, true⟩, ⟨39, Row.lst [SV.slc 8 0 n_1 cap_1], 1, true⟩, ⟨39, Row.lst [L rb_1 rl_1 rc_1], 1, true⟩, ⟨3, Row.lst [I ch_1], 1, true⟩, ⟨3, Row.lst [I sq_1], 1, true⟩, ⟨39, Row.lst [L bb_1 bl_1 bc_1], 1, true⟩, ⟨72, Row.lst [I ow_1.t, I ow_1.nx, I ow_1.sq, I ow_1.un], 4, true⟩, ⟨72, Row.vals vs_1, tot_1, true⟩, ⟨72, Row.lst [I dd_1.t, I dd_1.nx, I dd_1.sq, I dd_1.un], 4, true⟩] ∧ ∀ (rb' : Option Addr) (rl' rc' n' cap' tot' : Nat) (vs' : List Value) (E' : Mem), Mem.le E E' → SL Dw E' rb' rl' rc' (dropT x.t rs) → OutV (os ++ takeT x.t rs ++ [{ t := x.t, nx := ch_1, sq := x.sq, un := fr_1 + (3 : Int) : Dn }]) n' cap' tot' vs' → Lp (Cx.inT N1 TN yc) 8 Tryd.f50 [1, 0, 1, 0] 7 KK { fr := [some (SV.raw (Value.func (Fn.yield yc.l) #[] #[])), some (SV.loc 4 0), some (SV.loc 5 0), some (SV.loc 6 0), none, some (SV.loc 7 0), none, none, none, none, none, some (L bb bl bc), some (I (↑bl : Int)), some (I (IntKind.wrap IntKind.i64 ((↑i : Int) + (1 : Int)))), none, none, none, none, none, none, none, none, none, none, none, none, none, none, none, none, none, none, none, none, none, none, none, none, none, none, none, none, none, none, none, none, none, none, none, none, none, none, none, none, none, none, none, none, none, none, none, none, none, none], bx := [(⟨3, Row.lst [I ch_1], 1, true⟩ : Box), ⟨3, Row.lst [I fr_1], 1, true⟩, ⟨39, Row.lst [SV.slc 10 0 n' cap'], 1, true⟩, ⟨39, Row.lst [L rb' rl' rc'], 1, true⟩, ⟨3, Row.lst [I ch_1], 1, true⟩, ⟨3, Row.lst [I sq_1], 1, true⟩, ⟨39, Row.lst [L bb_1 bl_1 bc_1], 1, true⟩, ⟨72, Row.lst [I ow_1.t, I ow_1.nx, I ow_1.sq, I ow_1.un], 4, true⟩, ⟨72, Row.lst [], 0, false⟩, ⟨72, Row.lst [I dd_1.t, I dd_1.nx, I dd_1.sq, I dd_1.un], 4, true⟩, ⟨72, Row.vals vs', tot', true⟩], E := E' : St }) ∨ [(⟨3, Row.lst [I ch], 1, true⟩ : Box), ⟨3, Row.lst [I fr], 1, true⟩, ⟨39, Row.lst [SV.slc 8 0 n cap], 1, true⟩, ⟨39, Row.lst [L rb rl rc], 1, true⟩, ⟨3, Row.lst [I ch], 1, true⟩, ⟨3, Row.lst [I sq], 1, true⟩, ⟨39, Row.lst [L bb bl bc], 1, true⟩, ⟨72, Row.lst [I ow.t, I ow.nx, I ow.sq, I ow.un], 4, true⟩, ⟨72, Row.vals vs, tot, true⟩, ⟨72, Row.lst [I dd.t, I dd.nx, I dd.sq, I dd.un], 4, true⟩] = [(⟨3, Row.lst [I ch_1], 1, true⟩ : Box), ⟨3, Row.lst [I fr_1], 1, true⟩, ⟨39, Row.lst [SV.slc 8 0 n_1 cap_1], 1, true⟩, ⟨39, Row.lst [L rb_1 rl_1 rc_1], 1, true⟩, ⟨3, Row.lst [I ch_1], 1, true⟩, ⟨3, Row.lst [I sq_1], 1, true⟩, ⟨39, Row.lst [L bb_1 bl_1 bc_1], 1, true⟩, ⟨72, Row.lst [I ow_1.t, I ow_1.nx, I ow_1.sq, I ow_1.un], 4, true⟩, ⟨72, Row.vals vs_1, tot_1, true⟩] ∧ ∀ (rb' : Option Addr) (rl' rc' n' cap' tot' : Nat) (vs' : List Value) (E' : Mem), Mem.le E E' → SL Dw E' rb' rl' rc' (dropT x.t rs) → OutV (os ++ takeT x.t rs ++ [{ t := x.t, nx := ch_1, sq := x.sq, un := fr_1 + (3 : Int) : Dn }]) n' cap' tot' vs' → Lp (Cx.inT N1 TN yc) 8 Tryd.f50 [1, 0, 1, 0] 7 KK { fr := [some (SV.raw (Value.func (Fn.yield yc.l) #[] #[])), some (SV.loc 4 0), some (SV.loc 5 0), some (SV.loc 6 0), none, some (SV.loc 7 0), none, none, none, none, none, some (L bb bl bc), some (I (↑bl : Int)), some (I (IntKind.wrap IntKind.i64 ((↑i : Int) + (1 : Int)))), none, none, none, none, none, none, none, none, none, none, none, none, none, none, none, none, none, none, none, none, none, none, none, none, none, none, none, none, none, none, none, none, none, none, none, none, none, none, none, none, none, none, none, none, none, none, none, none, none, none], bx := [(⟨3, Row.lst [I ch_1], 1, true⟩ : Box), ⟨3, Row.lst [I fr_1], 1, true⟩, ⟨39, Row.lst [SV.slc 9 0 n' cap'], 1, true⟩, ⟨39, Row.lst [L rb' rl' rc'], 1, true⟩, ⟨3, Row.lst [I ch_1], 1, true⟩, ⟨3, Row.lst [I sq_1], 1, true⟩, ⟨39, Row.lst [L bb_1 bl_1 bc_1], 1, true⟩, ⟨72, Row.lst [I ow_1.t, I ow_1.nx, I ow_1.sq, I ow_1.un], 4, true⟩, ⟨72, Row.lst [], 0, false⟩, ⟨72, Row.vals vs', tot', true⟩], E := E' : St }))
  refine ⟨rfl, ch, fr, sq, bb, bl, bc, ow, dd, rb, rl, rc, n, cap, tot, vs, rs, os, ⟨rfl, R, O, hs, hne, hfr⟩, .inl ⟨dd, rfl, fun rb' rl' rc' n' cap' tot' vs' E' k R' O' => ?_⟩⟩
  rw [wrap_i64 (x := (i : Int) + 1) (by omega)]
  exact Lp_re [some 0, some 1, some 2, some 3, some 4, some 5, some 6, some 7, some 10] (ih rb' rl' rc' n' cap' tot' vs' E' k R' O') ⟨⟨by first | (simp; done) | (simp [St.pub]; done), by first | (simp; done) | (simp [St.pub]; done), fun j h => (by have e : j = 0 ∨ j = 1 ∨ j = 2 ∨ j = 3 ∨ j = 4 ∨ j = 5 ∨ j = 6 := (by omega); rcases e with rfl | rfl | rfl | rfl | rfl | rfl | rfl <;> rfl)⟩, rfl, (by repeat' first | exact True.intro | refine And.intro (Or.inl rfl) ?_ | refine And.intro (Or.inr ⟨rfl, rfl⟩) ?_), (by repeat' first | exact True.intro | exact rfl | exact Or.inl rfl | fail | refine And.intro ?_ ?_), (show List.Nodup [0, 1, 2, 3, 4, 5, 6, 7, 10] from by decide), Mem.le_refl _⟩
theorem r50 {ch fr sq : Int} {rb : Option Addr} {rl rc : Nat} {bb : Option Addr} {bl bc : Nat} {ow : Dn} {n cap tot : Nat} {vs : List Value} {yc : Rc} {E0 : Mem} {i : Nat} {KK : KT} {rs0 zs : List Dn} (hrc : CxOK (Cx.inT N1 TN yc)) (H : H50 ch fr rs0 zs ow bl) (J : J50 E0 ch fr rs0 zs ow bb bl bc E rb rl rc n cap tot vs i) (hQ : ∀ (rb : Option Addr) (rl rc n cap tot : Nat) (vs : List Value) (E : Mem), Mem.le E0 E → SL Dw E rb rl rc (acc ch fr rs0 (ow :: zs)).2 → OutV (acc ch fr rs0 (ow :: zs)).1 n cap tot vs → KK (.tup []) [⟨3, .lst [I ch], 1, true⟩, ⟨3, .lst [I fr], 1, true⟩, ⟨39, .lst [.slc 8 0 n cap], 1, true⟩, ⟨39, .lst [L rb rl rc], 1, true⟩, ⟨3, .lst [I ch], 1, true⟩, ⟨3, .lst [I sq], 1, true⟩, ⟨39, .lst [L bb bl bc], 1, true⟩, ⟨72, .lst [I ow.t, I ow.nx, I ow.sq, I ow.un], 4, true⟩, ⟨72, .vals vs, tot, true⟩] E ∧ KK (.tup []) [⟨3, .lst [I ch], 1, true⟩, ⟨3, .lst [I fr], 1, true⟩, ⟨39, .lst [.slc 9 0 n cap], 1, true⟩, ⟨39, .lst [L rb rl rc], 1, true⟩, ⟨3, .lst [I ch], 1, true⟩, ⟨3, .lst [I sq], 1, true⟩, ⟨39, .lst [L bb bl bc], 1, true⟩, ⟨72, .lst [I ow.t, I ow.nx, I ow.sq, I ow.un], 4, true⟩, ⟨72, .lst [], 0, false⟩, ⟨72, .vals vs, tot, true⟩] E)
    (ih : ∀ (rb' : Option Addr) (rl' rc' n' cap' tot' : Nat) (vs' : List Value) (E' : Mem), i < bl → J50 E0 ch fr rs0 zs ow bb bl bc E' rb' rl' rc' n' cap' tot' vs' (i + 1) → Lp (Cx.inT N1 TN yc) 8 Tryd.f50 [1, 0, 1, 0] 7 KK (s50 ch fr sq rb' rl' rc' bb bl bc ow n' cap' tot' vs' yc (i + 1) E')) : Rnd (Cx.inT N1 TN yc) 8 Tryd.f50 [1, 0, 1, 0] 7 KK (s50 ch fr sq rb rl rc bb bl bc ow n cap tot vs yc i E) := by
  refine same (by kernel_rfl) (?_ : bif decide ((↑i : Int) < (↑bl : Int)) then req ((0 : Int) ≤ (↑i : Int) ∧ (↑i : Int) < (↑bl : Int)) ((∃ (cs : List Value), E (Value.slice bb bl bc) cs ∧ (cs = [] → False)) ∧ ∃ (n_1 : Int), ∃ (n_2 : Int), ∃ (n_3 : Int), ∃ (n_4 : Int), LoadE (Cx.inT N1 TN yc).P E 72 (Value.slice bb bl bc) (Int.toNat (↑i : Int) * 4) (SV.agg [I n_1, I n_2, I n_3, I n_4]) ∧ bif decide (n_1 > ch) then bif (↑i : Int) == (0 : Int) then yc.l = yc.l ∧ ∃ (ch_1 : Int), ∃ (fr_1 : Int), ∃ (sq_1 : Int), ∃ (bb_1 : Option Addr), ∃ (bl_1 : Nat), ∃ (bc_1 : Nat), ∃ (ow_1 : Dn), ∃ (x : Dn), ∃ (rb_1 : Option Addr), ∃ (rl_1 : Nat), ∃ (rc_1 : Nat), ∃ (n_5 : Nat), ∃ (cap_1 : Nat), ∃ (tot_1 : Nat), ∃ (vs_1 : List Value), ∃ (rs : List Dn), ∃ (os : List Dn), ([SV.agg [I ow.t, I ow.nx, I ow.sq, I ow.un]] = [SV.agg [I x.t, I x.nx, I x.sq, I x.un]] ∧ SL Dw E rb_1 rl_1 rc_1 rs ∧ OutV os n_5 cap_1 tot_1 vs_1 ∧ rl_1 + n_5 ≤ 900 ∧ (∀ (y : Dn), List.Mem y rs → y.t = x.t → False) ∧ (0 : Int) ≤ fr_1 ∧ fr_1 ≤ (1000 : Int)) ∧ ((∃ (dd : Dn), [(⟨3, Row.lst [I ch], 1, true⟩ : Box), ⟨3, Row.lst [I fr], 1, true⟩, ⟨39, Row.lst [SV.slc 8 0 n cap], 1, true⟩, ⟨39, Row.lst [L rb rl rc], 1, true⟩, ⟨3, Row.lst [I ch], 1, true⟩, ⟨3, Row.lst [I sq], 1, true⟩, ⟨39, Row.lst [L bb bl bc], 1, true⟩, ⟨72, Row.lst [I ow.t, I ow.nx, I ow.sq, I ow.un], 4, true⟩, ⟨72, Row.vals vs, tot, true⟩, ⟨72, Row.lst [I n_1, I n_2, I n_3, I n_4], 4, true⟩] = [(⟨3, Row.lst [I ch_1], 1, true⟩ : Box), ⟨3, Row.lst [I fr_1], 1, true⟩, ⟨39, Row.lst [SV.slc 8 0 n_5 cap_1], 1, true⟩, ⟨39, Row.lst [L rb_1 rl_1 rc_1], 1, true⟩, ⟨3, Row.lst [I ch_1], 1, true⟩, ⟨3, Row.lst [I sq_1], 1, true⟩, ⟨39, Row.lst [L bb_1 bl_1 bc_1], 1, true⟩, ⟨72, Row.lst [I ow_1.t, I ow_1.nx, I ow_1.sq, I ow_1.un], 4, true⟩, ⟨72, Row.vals vs_1, tot_1, true⟩, ⟨72, Row.lst [I dd.t, I dd.nx, I dd.sq, I dd.un], 4, true⟩] ∧ ∀ (rb' : Option Addr) (rl' rc' n' cap' tot' : Nat) (vs' : List Value) (E' : Mem), Mem.le E E' → SL Dw E' rb' rl' rc' (dropT x.t rs) → OutV (os ++ takeT x.t rs ++ [{ t := x.t, nx := ch_1, sq := x.sq, un := fr_1 + (3 : Int) : Dn }]) n' cap' tot' vs' → Ct (Cx.inT N1 TN yc) 8 Tryd.f50 [1, 0, 1, 0, 0, 1, 1, 0, 0, 1, 1] 7 KK { fr := [some (SV.raw (Value.func (Fn.yield yc.l) #[] #[])), some (SV.loc 4 0), some (SV.loc 5 0), some (SV.loc 6 0), none, some (SV.loc 7 0), some (I (↑i : Int)), some (SV.loc 9 0), none, none, none, some (L bb bl bc), some (I (↑bl : Int)), some (I (↑i : Int)), some (B (decide ((↑i : Int) < (↑bl : Int)))), some (I (↑i : Int)), some (SV.rp (Value.slice bb bl bc) (Int.toNat (↑i : Int) * 4)), some (SV.agg [I n_1, I n_2, I n_3, I n_4]), some (SV.loc 9 0), some (I n_1), some (I ch), some (B (decide (n_1 > ch))), some (B true), some (I (↑i : Int)), some (B ((↑i : Int) == (0 : Int))), some (B true), some (SV.raw (Value.tuple #[])), some (SV.raw (Value.tuple #[])), some (SV.raw (Value.tuple #[])), some (SV.raw (Value.tuple #[])), some (SV.raw (Value.tuple #[])), some (SV.raw (Value.tuple #[])), some (SV.raw (Value.tuple #[])), some (SV.raw (Value.tuple #[])), some (B true), some (B true), some (B true), some (SV.raw (Value.func (Fn.yield yc.l) #[] #[])), some (SV.agg [I ow.t, I ow.nx, I ow.sq, I ow.un]), some (B true), some (B false), some (B false), none, none, none, none, none, none, none, none, none, none, none, none, none, none, none, none, none, none, none, none, none, none], bx := [(⟨3, Row.lst [I ch_1], 1, true⟩ : Box), ⟨3, Row.lst [I fr_1], 1, true⟩, ⟨39, Row.lst [SV.slc 10 0 n' cap'], 1, true⟩, ⟨39, Row.lst [L rb' rl' rc'], 1, true⟩, ⟨3, Row.lst [I ch_1], 1, true⟩, ⟨3, Row.lst [I sq_1], 1, true⟩, ⟨39, Row.lst [L bb_1 bl_1 bc_1], 1, true⟩, ⟨72, Row.lst [I ow_1.t, I ow_1.nx, I ow_1.sq, I ow_1.un], 4, true⟩, ⟨72, Row.lst [], 0, false⟩, ⟨72, Row.lst [I dd.t, I dd.nx, I dd.sq, I dd.un], 4, true⟩, ⟨72, Row.vals vs', tot', true⟩], E := E' : St }) ∨ [(⟨3, Row.lst [I ch], 1, true⟩ : Box), ⟨3, Row.lst [I fr], 1, true⟩, ⟨39, Row.lst [SV.slc 8 0 n cap], 1, true⟩, ⟨39, Row.lst [L rb rl rc], 1, true⟩, ⟨3, Row.lst [I ch], 1, true⟩, ⟨3, Row.lst [I sq], 1, true⟩, ⟨39, Row.lst [L bb bl bc], 1, true⟩, ⟨72, Row.lst [I ow.t, I ow.nx, I ow.sq, I ow.un], 4, true⟩, ⟨72, Row.vals vs, tot, true⟩, ⟨72, Row.lst [I n_1, I n_2, I n_3, I n_4], 4, true⟩] = [(⟨3, Row.lst [I ch_1], 1, true⟩ : Box), ⟨3, Row.lst [I fr_1], 1, true⟩, ⟨39, Row.lst [SV.slc 8 0 n_5 cap_1], 1, true⟩, ⟨39, Row.lst [L rb_1 rl_1 rc_1], 1, true⟩, ⟨3, Row.lst [I ch_1], 1, true⟩, ⟨3, Row.lst [I sq_1], 1, true⟩, ⟨39, Row.lst [L bb_1 bl_1 bc_1], 1, true⟩, ⟨72, Row.lst [I ow_1.t, I ow_1.nx, I ow_1.sq, I ow_1.un], 4, true⟩, ⟨72, Row.vals vs_1, tot_1, true⟩] ∧ ∀ (rb' : Option Addr) (rl' rc' n' cap' tot' : Nat) (vs' : List Value) (E' : Mem), Mem.le E E' → SL Dw E' rb' rl' rc' (dropT x.t rs) → OutV (os ++ takeT x.t rs ++ [{ t := x.t, nx := ch_1, sq := x.sq, un := fr_1 + (3 : Int) : Dn }]) n' cap' tot' vs' → Ct (Cx.inT N1 TN yc) 8 Tryd.f50 [1, 0, 1, 0, 0, 1, 1, 0, 0, 1, 1] 7 KK { fr := [some (SV.raw (Value.func (Fn.yield yc.l) #[] #[])), some (SV.loc 4 0), some (SV.loc 5 0), some (SV.loc 6 0), none, some (SV.loc 7 0), some (I (↑i : Int)), some (SV.loc 9 0), none, none, none, some (L bb bl bc), some (I (↑bl : Int)), some (I (↑i : Int)), some (B (decide ((↑i : Int) < (↑bl : Int)))), some (I (↑i : Int)), some (SV.rp (Value.slice bb bl bc) (Int.toNat (↑i : Int) * 4)), some (SV.agg [I n_1, I n_2, I n_3, I n_4]), some (SV.loc 9 0), some (I n_1), some (I ch), some (B (decide (n_1 > ch))), some (B true), some (I (↑i : Int)), some (B ((↑i : Int) == (0 : Int))), some (B true), some (SV.raw (Value.tuple #[])), some (SV.raw (Value.tuple #[])), some (SV.raw (Value.tuple #[])), some (SV.raw (Value.tuple #[])), some (SV.raw (Value.tuple #[])), some (SV.raw (Value.tuple #[])), some (SV.raw (Value.tuple #[])), some (SV.raw (Value.tuple #[])), some (B true), some (B true), some (B true), some (SV.raw (Value.func (Fn.yield yc.l) #[] #[])), some (SV.agg [I ow.t, I ow.nx, I ow.sq, I ow.un]), some (B true), some (B false), some (B false), none, none, none, none, none, none, none, none, none, none, none, none, none, none, none, none, none, none, none, none, none, none], bx := [(⟨3, Row.lst [I ch_1], 1, true⟩ : Box), ⟨3, Row.lst [I fr_1], 1, true⟩, ⟨39, Row.lst [SV.slc 9 0 n' cap'], 1, true⟩, ⟨39, Row.lst [L rb' rl' rc'], 1, true⟩, ⟨3, Row.lst [I ch_1], 1, true⟩, ⟨3, Row.lst [I sq_1], 1, true⟩, ⟨39, Row.lst [L bb_1 bl_1 bc_1], 1, true⟩, ⟨72, Row.lst [I ow_1.t, I ow_1.nx, I ow_1.sq, I ow_1.un], 4, true⟩, ⟨72, Row.lst [], 0, false⟩, ⟨72, Row.vals vs', tot', true⟩], E := E' : St }) else req ((0 : Int) ≤ IntKind.wrap IntKind.i64 ((↑i : Int) - (1 : Int)) ∧ IntKind.wrap IntKind.i64 ((↑i : Int) - (1 : Int)) < (↑bl : Int)) ((∃ (cs : List Value), E (Value.slice bb bl bc) cs ∧ (cs = [] → False)) ∧ ∃ (n_5 : Int), LoadE (Cx.inT N1 TN yc).P E 3 (Value.slice bb bl bc) (Int.toNat (IntKind.wrap IntKind.i64 ((↑i : Int) - (1 : Int))) * 4 + 0) (I n_5) ∧ bif bif true then bif false then true else decide (n_5 < ch) else false then yc.l = yc.l ∧ ∃ (ch_1 : Int), ∃ (fr_1 : Int), ∃ (sq_1 : Int), ∃ (bb_1 : Option Addr), ∃ (bl_1 : Nat), ∃ (bc_1 : Nat), ∃ (ow_1 : Dn), ∃ (x : Dn), ∃ (rb_1 : Option Addr), ∃ (rl_1 : Nat), ∃ (rc_1 : Nat), ∃ (n_6 : Nat), ∃ (cap_1 : Nat), ∃ (tot_1 : Nat), ∃ (vs_1 : List Value), ∃ (rs : List Dn), ∃ (os : List Dn), ([SV.agg [I ow.t, I ow.nx, I ow.sq, I ow.un]] = [SV.agg [I x.t, I x.nx, I x.sq, I x.un]] ∧ SL Dw E rb_1 rl_1 rc_1 rs ∧ OutV os n_6 cap_1 tot_1 vs_1 ∧ rl_1 + n_6 ≤ 900 ∧ (∀ (y : Dn), List.Mem y rs → y.t = x.t → False) ∧ (0 : Int) ≤ fr_1 ∧ fr_1 ≤ (1000 : Int)) ∧ ((∃ (dd : Dn), [(⟨3, Row.lst [I ch], 1, true⟩ : Box), ⟨3, Row.lst [I fr], 1, true⟩, ⟨39, Row.lst [SV.slc 8 0 n cap], 1, true⟩, ⟨39, Row.lst [L rb rl rc], 1, true⟩, ⟨3, Row.lst [I ch], 1, true⟩, ⟨3, Row.lst [I sq], 1, true⟩, ⟨39, Row.lst [L bb bl bc], 1, true⟩, ⟨72, Row.lst [I ow.t, I ow.nx, I ow.sq, I ow.un], 4, true⟩, ⟨72, Row.vals vs, tot, true⟩, ⟨72, Row.lst [I n_1, I n_2, I n_3, I n_4], 4, true⟩] = [(⟨3, Row.lst [I ch_1], 1, true⟩ : Box), ⟨3, Row.lst [I fr_1], 1, true⟩, ⟨39, Row.lst [SV.slc 8 0 n_6 cap_1], 1, true⟩, ⟨39, Row.lst [L rb_1 rl_1 rc_1], 1, true⟩, ⟨3, Row.lst [I ch_1], 1, true⟩, ⟨3, Row.lst [I sq_1], 1, true⟩, ⟨39, Row.lst [L bb_1 bl_1 bc_1], 1, true⟩, ⟨72, Row.lst [I ow_1.t, I ow_1.nx, I ow_1.sq, I ow_1.un], 4, true⟩, ⟨72, Row.vals vs_1, tot_1, true⟩, ⟨72, Row.lst [I dd.t, I dd.nx, I dd.sq, I dd.un], 4, true⟩] ∧ ∀ (rb' : Option Addr) (rl' rc' n' cap' tot' : Nat) (vs' : List Value) (E' : Mem), Mem.le E E' → SL Dw E' rb' rl' rc' (dropT x.t rs) → OutV (os ++ takeT x.t rs ++ [{ t := x.t, nx := ch_1, sq := x.sq, un := fr_1 + (3 : Int) : Dn }]) n' cap' tot' vs' → Ct (Cx.inT N1 TN yc) 8 Tryd.f50 [1, 0, 1, 0, 0, 1, 1, 0, 0, 1, 1] 7 KK { fr := [some (SV.raw (Value.func (Fn.yield yc.l) #[] #[])), some (SV.loc 4 0), some (SV.loc 5 0), some (SV.loc 6 0), none, some (SV.loc 7 0), some (I (↑i : Int)), some (SV.loc 9 0), none, none, none, some (L bb bl bc), some (I (↑bl : Int)), some (I (↑i : Int)), some (B (decide ((↑i : Int) < (↑bl : Int)))), some (I (↑i : Int)), some (SV.rp (Value.slice bb bl bc) (Int.toNat (↑i : Int) * 4)), some (SV.agg [I n_1, I n_2, I n_3, I n_4]), some (SV.loc 9 0), some (I n_1), some (I ch), some (B (decide (n_1 > ch))), some (B true), some (I (↑i : Int)), some (B ((↑i : Int) == (0 : Int))), some (B false), some (L bb bl bc), some (I (↑i : Int)), some (I (IntKind.wrap IntKind.i64 ((↑i : Int) - (1 : Int)))), some (SV.rp (Value.slice bb bl bc) (Int.toNat (IntKind.wrap IntKind.i64 ((↑i : Int) - (1 : Int))) * 4)), some (SV.rp (Value.slice bb bl bc) (Int.toNat (IntKind.wrap IntKind.i64 ((↑i : Int) - (1 : Int))) * 4 + 0)), some (I n_5), some (I ch), some (B (decide (n_5 < ch))), some (B (bif false then true else decide (n_5 < ch))), some (B (bif true then bif false then true else decide (n_5 < ch) else false)), some (B true), some (SV.raw (Value.func (Fn.yield yc.l) #[] #[])), some (SV.agg [I ow.t, I ow.nx, I ow.sq, I ow.un]), some (B true), some (B false), some (B false), none, none, none, none, none, none, none, none, none, none, none, none, none, none, none, none, none, none, none, none, none, none], bx := [(⟨3, Row.lst [I ch_1], 1, true⟩ : Box), ⟨3, Row.lst [I fr_1], 1, true⟩, ⟨39, Row.lst [SV.slc 10 0 n' cap'], 1, true⟩, ⟨39, Row.lst [L rb' rl' rc'], 1, true⟩, ⟨3, Row.lst [I ch_1], 1, true⟩, ⟨3, Row.lst [I sq_1], 1, true⟩, ⟨39, Row.lst [L bb_1 bl_1 bc_1], 1, true⟩, ⟨72, Row.lst [I ow_1.t, I ow_1.nx, I ow_1.sq, I ow_1.un], 4, true⟩, ⟨72, Row.lst [], 0, false⟩, ⟨72, Row.lst [I dd.t, I dd.nx, I dd.sq, I dd.un], 4, true⟩, ⟨72, Row.vals vs', tot', true⟩], E := E' : St }) ∨ [(⟨3, Row.lst [I ch], 1, true⟩ : Box), ⟨3, Row.lst [I fr], 1, true⟩, ⟨39, Row.lst [SV.slc 8 0 n cap], 1, true⟩, ⟨39, Row.lst [L rb rl rc], 1, true⟩, ⟨3, Row.lst [I ch], 1, true⟩, ⟨3, Row.lst [I sq], 1, true⟩, ⟨39, Row.lst [L bb bl bc], 1, true⟩, ⟨72, Row.lst [I ow.t, I ow.nx, I ow.sq, I ow.un], 4, true⟩, ⟨72, Row.vals vs, tot, true⟩, ⟨72, Row.lst [I n_1, I n_2, I n_3, I n_4], 4, true⟩] = [(⟨3, Row.lst [I ch_1], 1, true⟩ : Box), ⟨3, Row.lst [I fr_1], 1, true⟩, ⟨39, Row.lst [SV.slc 8 0 n_6 cap_1], 1, true⟩, ⟨39, Row.lst [L rb_1 rl_1 rc_1], 1, true⟩, ⟨3, Row.lst [I ch_1], 1, true⟩, ⟨3, Row.lst [I sq_1], 1, true⟩, ⟨39, Row.lst [L bb_1 bl_1 bc_1], 1, true⟩, ⟨72, Row.lst [I ow_1.t, I ow_1.nx, I ow_1.sq, I ow_1.un], 4, true⟩, ⟨72, Row.vals vs_1, tot_1, true⟩] ∧ ∀ (rb' : Option Addr) (rl' rc' n' cap' tot' : Nat) (vs' : List Value) (E' : Mem), Mem.le E E' → SL Dw E' rb' rl' rc' (dropT x.t rs) → OutV (os ++ takeT x.t rs ++ [{ t := x.t, nx := ch_1, sq := x.sq, un := fr_1 + (3 : Int) : Dn }]) n' cap' tot' vs' → Ct (Cx.inT N1 TN yc) 8 Tryd.f50 [1, 0, 1, 0, 0, 1, 1, 0, 0, 1, 1] 7 KK { fr := [some (SV.raw (Value.func (Fn.yield yc.l) #[] #[])), some (SV.loc 4 0), some (SV.loc 5 0), some (SV.loc 6 0), none, some (SV.loc 7 0), some (I (↑i : Int)), some (SV.loc 9 0), none, none, none, some (L bb bl bc), some (I (↑bl : Int)), some (I (↑i : Int)), some (B (decide ((↑i : Int) < (↑bl : Int)))), some (I (↑i : Int)), some (SV.rp (Value.slice bb bl bc) (Int.toNat (↑i : Int) * 4)), some (SV.agg [I n_1, I n_2, I n_3, I n_4]), some (SV.loc 9 0), some (I n_1), some (I ch), some (B (decide (n_1 > ch))), some (B true), some (I (↑i : Int)), some (B ((↑i : Int) == (0 : Int))), some (B false), some (L bb bl bc), some (I (↑i : Int)), some (I (IntKind.wrap IntKind.i64 ((↑i : Int) - (1 : Int)))), some (SV.rp (Value.slice bb bl bc) (Int.toNat (IntKind.wrap IntKind.i64 ((↑i : Int) - (1 : Int))) * 4)), some (SV.rp (Value.slice bb bl bc) (Int.toNat (IntKind.wrap IntKind.i64 ((↑i : Int) - (1 : Int))) * 4 + 0)), some (I n_5), some (I ch), some (B (decide (n_5 < ch))), some (B (bif false then true else decide (n_5 < ch))), some (B (bif true then bif false then true else decide (n_5 < ch) else false)), some (B true), some (SV.raw (Value.func (Fn.yield yc.l) #[] #[])), some (SV.agg [I ow.t, I ow.nx, I ow.sq, I ow.un]), some (B true), some (B false), some (B false), none, none, none, none, none, none, none, none, none, none, none, none, none, none, none, none, none, none, none, none, none, none], bx := [(⟨3, Row.lst [I ch_1], 1, true⟩ : Box), ⟨3, Row.lst [I fr_1], 1, true⟩, ⟨39, Row.lst [SV.slc 9 0 n' cap'], 1, true⟩, ⟨39, Row.lst [L rb' rl' rc'], 1, true⟩, ⟨3, Row.lst [I ch_1], 1, true⟩, ⟨3, Row.lst [I sq_1], 1, true⟩, ⟨39, Row.lst [L bb_1 bl_1 bc_1], 1, true⟩, ⟨72, Row.lst [I ow_1.t, I ow_1.nx, I ow_1.sq, I ow_1.un], 4, true⟩, ⟨72, Row.lst [], 0, false⟩, ⟨72, Row.vals vs', tot', true⟩], E := E' : St }) else Ct (Cx.inT N1 TN yc) 8 Tryd.f50 [1, 0, 1, 0, 0, 1, 1, 0, 0, 1, 1] 7 KK { fr := [some (SV.raw (Value.func (Fn.yield yc.l) #[] #[])), some (SV.loc 4 0), some (SV.loc 5 0), some (SV.loc 6 0), none, some (SV.loc 7 0), some (I (↑i : Int)), some (SV.loc 9 0), none, none, none, some (L bb bl bc), some (I (↑bl : Int)), some (I (↑i : Int)), some (B (decide ((↑i : Int) < (↑bl : Int)))), some (I (↑i : Int)), some (SV.rp (Value.slice bb bl bc) (Int.toNat (↑i : Int) * 4)), some (SV.agg [I n_1, I n_2, I n_3, I n_4]), some (SV.loc 9 0), some (I n_1), some (I ch), some (B (decide (n_1 > ch))), some (B true), some (I (↑i : Int)), some (B ((↑i : Int) == (0 : Int))), some (B false), some (L bb bl bc), some (I (↑i : Int)), some (I (IntKind.wrap IntKind.i64 ((↑i : Int) - (1 : Int)))), some (SV.rp (Value.slice bb bl bc) (Int.toNat (IntKind.wrap IntKind.i64 ((↑i : Int) - (1 : Int))) * 4)), some (SV.rp (Value.slice bb bl bc) (Int.toNat (IntKind.wrap IntKind.i64 ((↑i : Int) - (1 : Int))) * 4 + 0)), some (I n_5), some (I ch), some (B (decide (n_5 < ch))), some (B (bif false then true else decide (n_5 < ch))), some (B (bif true then bif false then true else decide (n_5 < ch) else false)), some (B false), some (SV.raw (Value.tuple #[])), some (SV.raw (Value.tuple #[])), some (SV.raw (Value.tuple #[])), some (SV.raw (Value.tuple #[])), some (B false), none, none, none, none, none, none, none, none, none, none, none, none, none, none, none, none, none, none, none, none, none, none], bx := [(⟨3, Row.lst [I ch], 1, true⟩ : Box), ⟨3, Row.lst [I fr], 1, true⟩, ⟨39, Row.lst [SV.slc 8 0 n cap], 1, true⟩, ⟨39, Row.lst [L rb rl rc], 1, true⟩, ⟨3, Row.lst [I ch], 1, true⟩, ⟨3, Row.lst [I sq], 1, true⟩, ⟨39, Row.lst [L bb bl bc], 1, true⟩, ⟨72, Row.lst [I ow.t, I ow.nx, I ow.sq, I ow.un], 4, true⟩, ⟨72, Row.vals vs, tot, true⟩, ⟨72, Row.lst [I n_1, I n_2, I n_3, I n_4], 4, true⟩], E := E : St }) else Ct (Cx.inT N1 TN yc) 8 Tryd.f50 [1, 0, 1, 0, 0, 1, 1, 0, 0, 1, 1] 7 KK { fr := [some (SV.raw (Value.func (Fn.yield yc.l) #[] #[])), some (SV.loc 4 0), some (SV.loc 5 0), some (SV.loc 6 0), none, some (SV.loc 7 0), some (I (↑i : Int)), some (SV.loc 9 0), none, none, none, some (L bb bl bc), some (I (↑bl : Int)), some (I (↑i : Int)), some (B (decide ((↑i : Int) < (↑bl : Int)))), some (I (↑i : Int)), some (SV.rp (Value.slice bb bl bc) (Int.toNat (↑i : Int) * 4)), some (SV.agg [I n_1, I n_2, I n_3, I n_4]), some (SV.loc 9 0), some (I n_1), some (I ch), some (B (decide (n_1 > ch))), some (B false), some (SV.raw (Value.tuple #[])), some (SV.raw (Value.tuple #[])), some (SV.raw (Value.tuple #[])), some (SV.raw (Value.tuple #[])), some (SV.raw (Value.tuple #[])), some (SV.raw (Value.tuple #[])), some (SV.raw (Value.tuple #[])), some (SV.raw (Value.tuple #[])), some (SV.raw (Value.tuple #[])), some (SV.raw (Value.tuple #[])), some (SV.raw (Value.tuple #[])), some (SV.raw (Value.tuple #[])), some (B false), some (B false), some (SV.raw (Value.tuple #[])), some (SV.raw (Value.tuple #[])), some (SV.raw (Value.tuple #[])), some (SV.raw (Value.tuple #[])), some (B false), none, none, none, none, none, none, none, none, none, none, none, none, none, none, none, none, none, none, none, none, none, none], bx := [(⟨3, Row.lst [I ch], 1, true⟩ : Box), ⟨3, Row.lst [I fr], 1, true⟩, ⟨39, Row.lst [SV.slc 8 0 n cap], 1, true⟩, ⟨39, Row.lst [L rb rl rc], 1, true⟩, ⟨3, Row.lst [I ch], 1, true⟩, ⟨3, Row.lst [I sq], 1, true⟩, ⟨39, Row.lst [L bb bl bc], 1, true⟩, ⟨72, Row.lst [I ow.t, I ow.nx, I ow.sq, I ow.un], 4, true⟩, ⟨72, Row.vals vs, tot, true⟩, ⟨72, Row.lst [I n_1, I n_2, I n_3, I n_4], 4, true⟩], E := E : St }) else bif (↑bl : Int) == (0 : Int) then yc.l = yc.l ∧ ∃ (ch_1 : Int), ∃ (fr_1 : Int), ∃ (sq_1 : Int), ∃ (bb_1 : Option Addr), ∃ (bl_1 : Nat), ∃ (bc_1 : Nat), ∃ (ow_1 : Dn), ∃ (x : Dn), ∃ (rb_1 : Option Addr), ∃ (rl_1 : Nat), ∃ (rc_1 : Nat), ∃ (n_1 : Nat), ∃ (cap_1 : Nat), ∃ (tot_1 : Nat), ∃ (vs_1 : List Value), ∃ (rs : List Dn), ∃ (os : List Dn), ([SV.agg [I ow.t, I ow.nx, I ow.sq, I ow.un]] = [SV.agg [I x.t, I x.nx, I x.sq, I x.un]] ∧ SL Dw E rb_1 rl_1 rc_1 rs ∧ OutV os n_1 cap_1 tot_1 vs_1 ∧ rl_1 + n_1 ≤ 900 ∧ (∀ (y : Dn), List.Mem y rs → y.t = x.t → False) ∧ (0 : Int) ≤ fr_1 ∧ fr_1 ≤ (1000 : Int)) ∧ ((∃ (dd : Dn), [(⟨3, Row.lst [I ch], 1, true⟩ : Box), ⟨3, Row.lst [I fr], 1, true⟩, ⟨39, Row.lst [SV.slc 8 0 n cap], 1, true⟩, ⟨39, Row.lst [L rb rl rc], 1, true⟩, ⟨3, Row.lst [I ch], 1, true⟩, ⟨3, Row.lst [I sq], 1, true⟩, ⟨39, Row.lst [L bb bl bc], 1, true⟩, ⟨72, Row.lst [I ow.t, I ow.nx, I ow.sq, I ow.un], 4, true⟩, ⟨72, Row.vals vs, tot, true⟩] = [(⟨3, Row.lst [I ch_1], 1, true⟩ : Box), ⟨3, Row.lst [I fr_1], 1, true⟩, ⟨39, Row.lst [SV.slc 8 0 n_1 cap_1], 1, true⟩, ⟨39, Row.lst [L rb_1 rl_1 rc_1], 1, true⟩, ⟨3, Row.lst [I ch_1], 1, true⟩, ⟨3, Row.lst [I sq_1], 1, true⟩, ⟨39, Row.lst [L bb_1 bl_1 bc_1], 1, true⟩, ⟨72, Row.lst [I ow_1.t, I ow_1.nx, I ow_1.sq, I ow_1.un], 4, true⟩, ⟨72, Row.vals vs_1, tot_1, true⟩, ⟨72, Row.lst [I dd.t, I dd.nx, I dd.sq, I dd.un], 4, true⟩] ∧ ∀ (rb' : Option Addr) (rl' rc' n' cap' tot' : Nat) (vs' : List Value) (E' : Mem), Mem.le E E' → SL Dw E' rb' rl' rc' (dropT x.t rs) → OutV (os ++ takeT x.t rs ++ [{ t := x.t, nx := ch_1, sq := x.sq, un := fr_1 + (3 : Int) : Dn }]) n' cap' tot' vs' → KK (SV.tup []) [⟨3, Row.lst [I ch_1], 1, true⟩, ⟨3, Row.lst [I fr_1], 1, true⟩, ⟨39, Row.lst [SV.slc 10 0 n' cap'], 1, true⟩, ⟨39, Row.lst [L rb' rl' rc'], 1, true⟩, ⟨3, Row.lst [I ch_1], 1, true⟩, ⟨3, Row.lst [I sq_1], 1, true⟩, ⟨39, Row.lst [L bb_1 bl_1 bc_1], 1, true⟩, ⟨72, Row.lst [I ow_1.t, I ow_1.nx, I ow_1.sq, I ow_1.un], 4, true⟩, ⟨72, Row.lst [], 0, false⟩, ⟨72, Row.lst [I dd.t, I dd.nx, I dd.sq, I dd.un], 4, true⟩, ⟨72, Row.vals vs', tot', true⟩] E') ∨ [(⟨3, Row.lst [I ch], 1, true⟩ : Box), ⟨3, Row.lst [I fr], 1, true⟩, ⟨39, Row.lst [SV.slc 8 0 n cap], 1, true⟩, ⟨39, Row.lst [L rb rl rc], 1, true⟩, ⟨3, Row.lst [I ch], 1, true⟩, ⟨3, Row.lst [I sq], 1, true⟩, ⟨39, Row.lst [L bb bl bc], 1, true⟩, ⟨72, Row.lst [I ow.t, I ow.nx, I ow.sq, I ow.un], 4, true⟩, ⟨72, Row.vals vs, tot, true⟩] = [(⟨3, Row.lst [I ch_1], 1, true⟩ : Box), ⟨3, Row.lst [I fr_1], 1, true⟩, ⟨39, Row.lst [SV.slc 8 0 n_1 cap_1], 1, true⟩, ⟨39, Row.lst [L rb_1 rl_1 rc_1], 1, true⟩, ⟨3, Row.lst [I ch_1], 1, true⟩, ⟨3, Row.lst [I sq_1], 1, true⟩, ⟨39, Row.lst [L bb_1 bl_1 bc_1], 1, true⟩, ⟨72, Row.lst [I ow_1.t, I ow_1.nx, I ow_1.sq, I ow_1.un], 4, true⟩, ⟨72, Row.vals vs_1, tot_1, true⟩] ∧ ∀ (rb' : Option Addr) (rl' rc' n' cap' tot' : Nat) (vs' : List Value) (E' : Mem), Mem.le E E' → SL Dw E' rb' rl' rc' (dropT x.t rs) → OutV (os ++ takeT x.t rs ++ [{ t := x.t, nx := ch_1, sq := x.sq, un := fr_1 + (3 : Int) : Dn }]) n' cap' tot' vs' → KK (SV.tup []) [⟨3, Row.lst [I ch_1], 1, true⟩, ⟨3, Row.lst [I fr_1], 1, true⟩, ⟨39, Row.lst [SV.slc 9 0 n' cap'], 1, true⟩, ⟨39, Row.lst [L rb' rl' rc'], 1, true⟩, ⟨3, Row.lst [I ch_1], 1, true⟩, ⟨3, Row.lst [I sq_1], 1, true⟩, ⟨39, Row.lst [L bb_1 bl_1 bc_1], 1, true⟩, ⟨72, Row.lst [I ow_1.t, I ow_1.nx, I ow_1.sq, I ow_1.un], 4, true⟩, ⟨72, Row.lst [], 0, false⟩, ⟨72, Row.vals vs', tot', true⟩] E') else req ((0 : Int) ≤ IntKind.wrap IntKind.i64 ((↑bl : Int) - (1 : Int)) ∧ IntKind.wrap IntKind.i64 ((↑bl : Int) - (1 : Int)) < (↑bl : Int)) ((∃ (cs : List Value), E (Value.slice bb bl bc) cs ∧ (cs = [] → False)) ∧ ∃ (n_1 : Int), LoadE (Cx.inT N1 TN yc).P E 3 (Value.slice bb bl bc) (Int.toNat (IntKind.wrap IntKind.i64 ((↑bl : Int) - (1 : Int))) * 4 + 0) (I n_1) ∧ bif bif false then true else decide (n_1 < ch) then yc.l = yc.l ∧ ∃ (ch_1 : Int), ∃ (fr_1 : Int), ∃ (sq_1 : Int), ∃ (bb_1 : Option Addr), ∃ (bl_1 : Nat), ∃ (bc_1 : Nat), ∃ (ow_1 : Dn), ∃ (x : Dn), ∃ (rb_1 : Option Addr), ∃ (rl_1 : Nat), ∃ (rc_1 : Nat), ∃ (n_2 : Nat), ∃ (cap_1 : Nat), ∃ (tot_1 : Nat), ∃ (vs_1 : List Value), ∃ (rs : List Dn), ∃ (os : List Dn), ([SV.agg [I ow.t, I ow.nx, I ow.sq, I ow.un]] = [SV.agg [I x.t, I x.nx, I x.sq, I x.un]] ∧ SL Dw E rb_1 rl_1 rc_1 rs ∧ OutV os n_2 cap_1 tot_1 vs_1 ∧ rl_1 + n_2 ≤ 900 ∧ (∀ (y : Dn), List.Mem y rs → y.t = x.t → False) ∧ (0 : Int) ≤ fr_1 ∧ fr_1 ≤ (1000 : Int)) ∧ ((∃ (dd : Dn), [(⟨3, Row.lst [I ch], 1, true⟩ : Box), ⟨3, Row.lst [I fr], 1, true⟩, ⟨39, Row.lst [SV.slc 8 0 n cap], 1, true⟩, ⟨39, Row.lst [L rb rl rc], 1, true⟩, ⟨3, Row.lst [I ch], 1, true⟩, ⟨3, Row.lst [I sq], 1, true⟩, ⟨39, Row.lst [L bb bl bc], 1, true⟩, ⟨72, Row.lst [I ow.t, I ow.nx, I ow.sq, I ow.un], 4, true⟩, ⟨72, Row.vals vs, tot, true⟩] = [(⟨3, Row.lst [I ch_1], 1, true⟩ : Box), ⟨3, Row.lst [I fr_1], 1, true⟩, ⟨39, Row.lst [SV.slc 8 0 n_2 cap_1], 1, true⟩, ⟨39, Row.lst [L rb_1 rl_1 rc_1], 1, true⟩, ⟨3, Row.lst [I ch_1], 1, true⟩, ⟨3, Row.lst [I sq_1], 1, true⟩, ⟨39, Row.lst [L bb_1 bl_1 bc_1], 1, true⟩, ⟨72, Row.lst [I ow_1.t, I ow_1.nx, I ow_1.sq, I ow_1.un], 4, true⟩, ⟨72, Row.vals vs_1, tot_1, true⟩, ⟨72, Row.lst [I dd.t, I dd.nx, I dd.sq, I dd.un], 4, true⟩] ∧ ∀ (rb' : Option Addr) (rl' rc' n' cap' tot' : Nat) (vs' : List Value) (E' : Mem), Mem.le E E' → SL Dw E' rb' rl' rc' (dropT x.t rs) → OutV (os ++ takeT x.t rs ++ [{ t := x.t, nx := ch_1, sq := x.sq, un := fr_1 + (3 : Int) : Dn }]) n' cap' tot' vs' → KK (SV.tup []) [⟨3, Row.lst [I ch_1], 1, true⟩, ⟨3, Row.lst [I fr_1], 1, true⟩, ⟨39, Row.lst [SV.slc 10 0 n' cap'], 1, true⟩, ⟨39, Row.lst [L rb' rl' rc'], 1, true⟩, ⟨3, Row.lst [I ch_1], 1, true⟩, ⟨3, Row.lst [I sq_1], 1, true⟩, ⟨39, Row.lst [L bb_1 bl_1 bc_1], 1, true⟩, ⟨72, Row.lst [I ow_1.t, I ow_1.nx, I ow_1.sq, I ow_1.un], 4, true⟩, ⟨72, Row.lst [], 0, false⟩, ⟨72, Row.lst [I dd.t, I dd.nx, I dd.sq, I dd.un], 4, true⟩, ⟨72, Row.vals vs', tot', true⟩] E') ∨ [(⟨3, Row.lst [I ch], 1, true⟩ : Box), ⟨3, Row.lst [I fr], 1, true⟩, ⟨39, Row.lst [SV.slc 8 0 n cap], 1, true⟩, ⟨39, Row.lst [L rb rl rc], 1, true⟩, ⟨3, Row.lst [I ch], 1, true⟩, ⟨3, Row.lst [I sq], 1, true⟩, ⟨39, Row.lst [L bb bl bc], 1, true⟩, ⟨72, Row.lst [I ow.t, I ow.nx, I ow.sq, I ow.un], 4, true⟩, ⟨72, Row.vals vs, tot, true⟩] = [(⟨3, Row.lst [I ch_1], 1, true⟩ : Box), ⟨3, Row.lst [I fr_1], 1, true⟩, ⟨39, Row.lst [SV.slc 8 0 n_2 cap_1], 1, true⟩, ⟨39, Row.lst [L rb_1 rl_1 rc_1], 1, true⟩, ⟨3, Row.lst [I ch_1], 1, true⟩, ⟨3, Row.lst [I sq_1], 1, true⟩, ⟨39, Row.lst [L bb_1 bl_1 bc_1], 1, true⟩, ⟨72, Row.lst [I ow_1.t, I ow_1.nx, I ow_1.sq, I ow_1.un], 4, true⟩, ⟨72, Row.vals vs_1, tot_1, true⟩] ∧ ∀ (rb' : Option Addr) (rl' rc' n' cap' tot' : Nat) (vs' : List Value) (E' : Mem), Mem.le E E' → SL Dw E' rb' rl' rc' (dropT x.t rs) → OutV (os ++ takeT x.t rs ++ [{ t := x.t, nx := ch_1, sq := x.sq, un := fr_1 + (3 : Int) : Dn }]) n' cap' tot' vs' → KK (SV.tup []) [⟨3, Row.lst [I ch_1], 1, true⟩, ⟨3, Row.lst [I fr_1], 1, true⟩, ⟨39, Row.lst [SV.slc 9 0 n' cap'], 1, true⟩, ⟨39, Row.lst [L rb' rl' rc'], 1, true⟩, ⟨3, Row.lst [I ch_1], 1, true⟩, ⟨3, Row.lst [I sq_1], 1, true⟩, ⟨39, Row.lst [L bb_1 bl_1 bc_1], 1, true⟩, ⟨72, Row.lst [I ow_1.t, I ow_1.nx, I ow_1.sq, I ow_1.un], 4, true⟩, ⟨72, Row.lst [], 0, false⟩, ⟨72, Row.vals vs', tot', true⟩] E') else KK (SV.tup []) [⟨3, Row.lst [I ch], 1, true⟩, ⟨3, Row.lst [I fr], 1, true⟩, ⟨39, Row.lst [SV.slc 8 0 n cap], 1, true⟩, ⟨39, Row.lst [L rb rl rc], 1, true⟩, ⟨3, Row.lst [I ch], 1, true⟩, ⟨3, Row.lst [I sq], 1, true⟩, ⟨39, Row.lst [L bb bl bc], 1, true⟩, ⟨72, Row.lst [I ow.t, I ow.nx, I ow.sq, I ow.un], 4, true⟩, ⟨72, Row.vals vs, tot, true⟩] E))
  obtain ⟨R, O, hb, hle, hi⟩ := J
  have hz := H.hz
  have hsz := H.sz
  have hn := O.hn
  have hr := R.len
  have hl := acc_len ch fr rs0 (pref ow zs i)
  refine condC (fun g => ?_) (fun g => ?_)
  · have g : i < bl := by simp at g; omega
    have hq := List.getElem?_eq_getElem (l := zs) (i := i) (by omega)
    have hm := List.getElem_mem (by omega : i < zs.length)
    have htk := take_get' hq
    generalize zs[i] = d at hq hm htk
    have hgt := H.gt d hm
    have hp : pref ow zs (i + 1) = ow :: (zs.take i ++ [d]) := by
      unfold pref
      rw [if_neg (by omega), htk]
    have ih := fun (rb' : Option Addr) (rl' rc' n' cap' tot' : Nat) (vs' : List Value) (E' : Mem) (k : Mem.le E E') h1 h2 => ih rb' rl' rc' n' cap' tot' vs' E' g ⟨by rw [hp]; exact h1, by rw [hp]; exact h2, hb.mono okDw k, Mem.le_trans hle k, g⟩
    refine req_intro ⟨by omega, by omega⟩ ⟨hb.ne okDw g, d.t, d.nx, d.sq, d.un, Dw.load hb hq, ?_⟩
    refine condC (fun _ => condC (fun z => ?_) (fun z => ?_)) (fun q => absurd q (by simp; omega))
    · have z : i = 0 := by simpa using z
      subst z
      have hp0 : pref ow zs 0 = [] := rfl
      rw [hp0] at R O hl hn hr
      refine ⟨rfl, ch, fr, sq, bb, bl, bc, ow, ow, rb, rl, rc, n, cap, tot, vs, _, _, ⟨rfl, R, O, by simp at hl; omega, H.sub (by simp), H.fr⟩, .inl ⟨d, rfl, fun rb' rl' rc' n' cap' tot' vs' E' k R' O' => ?_⟩⟩
      have e : acc ch fr rs0 [ow] = stepN ch fr (acc ch fr rs0 []) ow := rfl
      have R1 : SL Dw E' rb' rl' rc' (acc ch fr rs0 [ow]).2 := R'
      have O1 : OutV (acc ch fr rs0 [ow]).1 n' cap' tot' vs' := O'
      have l1 := acc_len ch fr rs0 [ow]
      have n1 := O1.hn
      have r1 := R1.len
      exact Ct_re [some 0, some 1, some 2, some 3, some 4, some 5, some 6, some 7, some 10, some 9] (Ct_intro hrc (p50 hrc R1 O1 (by simp at l1; omega) (H.sub (List.mem_cons_of_mem _ hm)) H.fr (by omega) fun rb2 rl2 rc2 n2 cap2 tot2 vs2 E2 k2 R2 O2 => ih rb2 rl2 rc2 n2 cap2 tot2 vs2 E2 (Mem.le_trans k k2) (by rw [show ow :: (zs.take 0 ++ [d]) = [ow] ++ [d] from rfl, acc_snoc]; exact R2) (by rw [show ow :: (zs.take 0 ++ [d]) = [ow] ++ [d] from rfl, acc_snoc]; exact O2))) ⟨⟨by first | (simp; done) | (simp [St.pub]; done), by first | (simp; done) | (simp [St.pub]; done), fun j h => (by have e : j = 0 ∨ j = 1 ∨ j = 2 ∨ j = 3 ∨ j = 4 ∨ j = 5 ∨ j = 6 := (by omega); rcases e with rfl | rfl | rfl | rfl | rfl | rfl | rfl <;> rfl)⟩, rfl, (by repeat' first | exact True.intro | refine And.intro (Or.inl rfl) ?_ | refine And.intro (Or.inr ⟨rfl, rfl⟩) ?_), (by repeat' first | exact True.intro | exact rfl | exact Or.inl rfl | fail | refine And.intro ?_ ?_), (show List.Nodup [0, 1, 2, 3, 4, 5, 6, 7, 10, 9] from by decide), Mem.le_refl _⟩
    · have z : 0 < i := by
        have : ¬ (i : Int) = 0 := by simpa using z
        omega
      have hpi : pref ow zs i = ow :: zs.take i := by
        unfold pref
        rw [if_neg (by omega)]
      have hq1 := List.getElem?_eq_getElem (l := zs) (i := i - 1) (by omega)
      have hm1 := List.getElem_mem (by omega : i - 1 < zs.length)
      generalize zs[i - 1] = d1 at hq1 hm1
      have hgt1 := H.gt d1 hm1
      have w1 : IntKind.wrap .i64 ((i : Int) - 1) = ((i - 1 : Nat) : Int) := by rw [wrap_i64 (by omega)]; omega
      rw [w1]
      refine req_intro ⟨by omega, by omega⟩ ⟨hb.ne okDw g, d1.t, Dw.cell (i := i - 1) (j := 0) hb hq1 (by decide) rfl, condC (fun q => absurd q (by simp; omega)) (fun _ => ?_)⟩
      rw [hpi] at R O hl hn hr
      exact Ct_re [some 0, some 1, some 2, some 3, some 4, some 5, some 6, some 7, some 8, some 9] (Ct_intro hrc (p50 hrc R O (by rw [List.length_cons, List.length_take] at hl; omega) (H.sub (List.mem_cons_of_mem _ hm)) H.fr (by omega) fun rb2 rl2 rc2 n2 cap2 tot2 vs2 E2 k2 R2 O2 => ih rb2 rl2 rc2 n2 cap2 tot2 vs2 E2 k2 (by rw [show ow :: (zs.take i ++ [d]) = (ow :: zs.take i) ++ [d] from rfl, acc_snoc]; exact R2) (by rw [show ow :: (zs.take i ++ [d]) = (ow :: zs.take i) ++ [d] from rfl, acc_snoc]; exact O2))) ⟨⟨by first | (simp; done) | (simp [St.pub]; done), by first | (simp; done) | (simp [St.pub]; done), fun j h => (by have e : j = 0 ∨ j = 1 ∨ j = 2 ∨ j = 3 ∨ j = 4 ∨ j = 5 ∨ j = 6 := (by omega); rcases e with rfl | rfl | rfl | rfl | rfl | rfl | rfl <;> rfl)⟩, rfl, (by repeat' first | exact True.intro | refine And.intro (Or.inl rfl) ?_ | refine And.intro (Or.inr ⟨rfl, rfl⟩) ?_), (by repeat' first | exact True.intro | exact rfl | exact Or.inl rfl | fail | refine And.intro ?_ ?_), (show List.Nodup [0, 1, 2, 3, 4, 5, 6, 7, 8, 9] from by decide), Mem.le_refl _⟩
  · have g : i = bl := by simp at g; omega
    subst g
    refine condC (fun z => ?_) (fun z => ?_)
    · have z : i = 0 := by simp at z; omega
      subst z
      have hz0 : zs = [] := List.length_eq_zero_iff.1 hz
      subst hz0
      have hp0 : pref ow [] 0 = [] := rfl
      rw [hp0] at R O hl hn hr
      exact ⟨rfl, ch, fr, sq, bb, 0, bc, ow, ow, rb, rl, rc, n, cap, tot, vs, _, _, ⟨rfl, R, O, by simp at hl; omega, H.sub (by simp), H.fr⟩, .inr ⟨rfl, fun rb' rl' rc' n' cap' tot' vs' E' k R' O' => (hQ rb' rl' rc' n' cap' tot' vs' E' (Mem.le_trans hle k) R' O').2⟩⟩
    · have z : 0 < i := by
        have : ¬ (i : Int) = 0 := by simpa using z
        omega
      have hpi : pref ow zs i = ow :: zs := by
        unfold pref
        rw [if_neg (by omega), List.take_of_length_le (by omega)]
      have hq1 := List.getElem?_eq_getElem (l := zs) (i := i - 1) (by omega)
      have hm1 := List.getElem_mem (by omega : i - 1 < zs.length)
      generalize zs[i - 1] = d1 at hq1 hm1
      have hgt1 := H.gt d1 hm1
      have w1 : IntKind.wrap .i64 ((i : Int) - 1) = ((i - 1 : Nat) : Int) := by rw [wrap_i64 (by omega)]; omega
      rw [w1]
      rw [hpi] at R O
      exact req_intro ⟨by omega, by omega⟩ ⟨hb.ne okDw (by omega : i - 1 < i), d1.t, Dw.cell (i := i - 1) (j := 0) hb hq1 (by decide) rfl, condC (fun q => absurd q (by simp; omega)) (fun _ => (hQ rb rl rc n cap tot vs E hle R O).1)⟩
theorem lp50 {ch fr sq : Int} {rb : Option Addr} {rl rc : Nat} {bb : Option Addr} {bl bc : Nat} {ow : Dn} {n cap tot : Nat} {vs : List Value} {yc : Rc} {E0 : Mem} {i : Nat} {KK : KT} {rs0 zs : List Dn} (hrc : CxOK (Cx.inT N1 TN yc)) (H : H50 ch fr rs0 zs ow bl) (J : J50 E0 ch fr rs0 zs ow bb bl bc E rb rl rc n cap tot vs i) (hQ : ∀ (rb : Option Addr) (rl rc n cap tot : Nat) (vs : List Value) (E : Mem), Mem.le E0 E → SL Dw E rb rl rc (acc ch fr rs0 (ow :: zs)).2 → OutV (acc ch fr rs0 (ow :: zs)).1 n cap tot vs → KK (.tup []) [⟨3, .lst [I ch], 1, true⟩, ⟨3, .lst [I fr], 1, true⟩, ⟨39, .lst [.slc 8 0 n cap], 1, true⟩, ⟨39, .lst [L rb rl rc], 1, true⟩, ⟨3, .lst [I ch], 1, true⟩, ⟨3, .lst [I sq], 1, true⟩, ⟨39, .lst [L bb bl bc], 1, true⟩, ⟨72, .lst [I ow.t, I ow.nx, I ow.sq, I ow.un], 4, true⟩, ⟨72, .vals vs, tot, true⟩] E ∧ KK (.tup []) [⟨3, .lst [I ch], 1, true⟩, ⟨3, .lst [I fr], 1, true⟩, ⟨39, .lst [.slc 9 0 n cap], 1, true⟩, ⟨39, .lst [L rb rl rc], 1, true⟩, ⟨3, .lst [I ch], 1, true⟩, ⟨3, .lst [I sq], 1, true⟩, ⟨39, .lst [L bb bl bc], 1, true⟩, ⟨72, .lst [I ow.t, I ow.nx, I ow.sq, I ow.un], 4, true⟩, ⟨72, .lst [], 0, false⟩, ⟨72, .vals vs, tot, true⟩] E) : Lp (Cx.inT N1 TN yc) 8 Tryd.f50 [1, 0, 1, 0] 7 KK (s50 ch fr sq rb rl rc bb bl bc ow n cap tot vs yc i E) := by
  have key := Lp_ind hrc (n := 8) (fn := Tryd.f50) (p := [1, 0, 1, 0]) (n0 := 7) (K := KK)
    (fun x : {x : Mem × Option Addr × Nat × Nat × Nat × Nat × Nat × List Value × Nat // J50 E0 ch fr rs0 zs ow bb bl bc x.1 x.2.1 x.2.2.1 x.2.2.2.1 x.2.2.2.2.1 x.2.2.2.2.2.1 x.2.2.2.2.2.2.1 x.2.2.2.2.2.2.2.1 x.2.2.2.2.2.2.2.2} => s50 ch fr sq x.1.2.1 x.1.2.2.1 x.1.2.2.2.1 bb bl bc ow x.1.2.2.2.2.1 x.1.2.2.2.2.2.1 x.1.2.2.2.2.2.2.1 x.1.2.2.2.2.2.2.2.1 yc x.1.2.2.2.2.2.2.2.2 x.1.1)
    (fun x => bl - x.1.2.2.2.2.2.2.2.2) (fun x ih => r50 hrc H x.2 hQ fun rb' rl' rc' n' cap' tot' vs' E' hlt J' => ih ⟨⟨E', rb', rl', rc', n', cap', tot', vs', _⟩, J'⟩ (by show bl - (_ + 1) < bl - _; omega))
  exact key ⟨⟨E, rb, rl, rc, n, cap, tot, vs, i⟩, J⟩
theorem q50 {ch fr sq : Int} {rb bb : Option Addr} {rl rc bl bc : Nat} {KK : KT} {yc : Rc} {rs0 zs : List Dn} (hrc : CxOK (Cx.inT N1 TN yc)) (H : H50 ch fr rs0 zs ⟨ch, 0, sq, 0⟩ bl) (R : SL Dw E rb rl rc rs0) (hb : SL Dw E bb bl bc zs) (hQ : ∀ (rb : Option Addr) (rl rc n cap tot : Nat) (vs : List Value) (E1 : Mem), Mem.le E E1 → SL Dw E1 rb rl rc (acc ch fr rs0 ((⟨ch, 0, sq, 0⟩ : Dn) :: zs)).2 → OutV (acc ch fr rs0 ((⟨ch, 0, sq, 0⟩ : Dn) :: zs)).1 n cap tot vs → KK (.tup []) [⟨3, .lst [I ch], 1, true⟩, ⟨3, .lst [I fr], 1, true⟩, ⟨39, .lst [.slc 8 0 n cap], 1, true⟩, ⟨39, .lst [L rb rl rc], 1, true⟩, ⟨3, .lst [I ch], 1, true⟩, ⟨3, .lst [I sq], 1, true⟩, ⟨39, .lst [L bb bl bc], 1, true⟩, ⟨72, .lst [I (⟨ch, 0, sq, 0⟩ : Dn).t, I (⟨ch, 0, sq, 0⟩ : Dn).nx, I (⟨ch, 0, sq, 0⟩ : Dn).sq, I (⟨ch, 0, sq, 0⟩ : Dn).un], 4, true⟩, ⟨72, .vals vs, tot, true⟩] E1 ∧ KK (.tup []) [⟨3, .lst [I ch], 1, true⟩, ⟨3, .lst [I fr], 1, true⟩, ⟨39, .lst [.slc 9 0 n cap], 1, true⟩, ⟨39, .lst [L rb rl rc], 1, true⟩, ⟨3, .lst [I ch], 1, true⟩, ⟨3, .lst [I sq], 1, true⟩, ⟨39, .lst [L bb bl bc], 1, true⟩, ⟨72, .lst [I (⟨ch, 0, sq, 0⟩ : Dn).t, I (⟨ch, 0, sq, 0⟩ : Dn).nx, I (⟨ch, 0, sq, 0⟩ : Dn).sq, I (⟨ch, 0, sq, 0⟩ : Dn).un], 4, true⟩, ⟨72, .lst [], 0, false⟩, ⟨72, .vals vs, tot, true⟩] E1) : EntB (Cx.inT N1 TN yc) 8 Tryd.f50 [.raw (.func (.yield yc.l) #[] #[]), .loc 4 0, .loc 5 0, .loc 6 0] [⟨3, .lst [I ch], 1, true⟩, ⟨3, .lst [I fr], 1, true⟩, ⟨39, .lst [L none 0 0], 1, true⟩, ⟨39, .lst [L rb rl rc], 1, true⟩, ⟨3, .lst [I ch], 1, true⟩, ⟨3, .lst [I sq], 1, true⟩, ⟨39, .lst [L bb bl bc], 1, true⟩] E KK := by
  refine same (by kernel_rfl) (?_ : Lp (Cx.inT N1 TN yc) 8 Tryd.f50 [1, 0, 1, 0] 7 KK { fr := [some (SV.raw (Value.func (Fn.yield yc.l) #[] #[])), some (SV.loc 4 0), some (SV.loc 5 0), some (SV.loc 6 0), none, some (SV.loc 7 0), none, none, some (I ch), some (I sq), some (SV.agg [I ch, I (0 : Int), I sq, I (0 : Int)]), some (L bb bl bc), some (I (↑bl : Int)), some (I (0 : Int)), none, none, none, none, none, none, none, none, none, none, none, none, none, none, none, none, none, none, none, none, none, none, none, none, none, none, none, none, none, none, none, none, none, none, none, none, none, none, none, none, none, none, none, none, none, none, none, none, none, none], bx := [(⟨3, Row.lst [I ch], 1, true⟩ : Box), ⟨3, Row.lst [I fr], 1, true⟩, ⟨39, Row.lst [L none 0 0], 1, true⟩, ⟨39, Row.lst [L rb rl rc], 1, true⟩, ⟨3, Row.lst [I ch], 1, true⟩, ⟨3, Row.lst [I sq], 1, true⟩, ⟨39, Row.lst [L bb bl bc], 1, true⟩, ⟨72, Row.lst [I ch, I (0 : Int), I sq, I (0 : Int)], 4, true⟩], E := E : St })
  exact Lp_re [some 0, some 1, some 2, some 3, some 4, some 5, some 6, some 7, none] (lp50 (i := 0) (n := 0) (cap := 0) (tot := 0) (vs := []) (ow := ⟨ch, 0, sq, 0⟩) hrc H ⟨R, ⟨rfl, Nat.le_refl _, rfl, Nat.le_refl _, Nat.le_refl _⟩, hb, Mem.le_refl _, Nat.zero_le _⟩ hQ) ⟨⟨by first | (simp; done) | (simp [St.pub]; done), by first | (simp; done) | (simp [St.pub]; done), fun j h => (by have e : j = 0 ∨ j = 1 ∨ j = 2 ∨ j = 3 ∨ j = 4 ∨ j = 5 ∨ j = 6 := (by omega); rcases e with rfl | rfl | rfl | rfl | rfl | rfl | rfl <;> rfl)⟩, rfl, (by repeat' first | exact True.intro | refine And.intro (Or.inl rfl) ?_ | refine And.intro (Or.inr ⟨rfl, rfl⟩) ?_), (by repeat' first | exact True.intro | exact rfl | exact Or.inl rfl | exact Or.inr ⟨rfl, rfl⟩ | fail | refine And.intro ?_ ?_), (show List.Nodup [0, 1, 2, 3, 4, 5, 6, 7] from by decide), Mem.le_refl _⟩
def lrn (ch sq fr : Int) (rs zs : List Dn) : List Dn := (acc ch fr rs (⟨ch, 0, sq, 0⟩ :: zs)).1 ++ (acc ch fr rs (⟨ch, 0, sq, 0⟩ :: zs)).2
theorem pnA {ch fr sq : Int} {rb bb : Option Addr} {rl rc bl bc : Nat} {ow : Dn} {n cap tot : Nat} {vs : List Value} {E0 : Mem} {os rs : List Dn} (R : SL Dw E rb rl rc rs) (O : OutV os n cap tot vs) (hs : n + rl ≤ 2000) (hE : Mem.le E0 E) (h : ∀ (b' : Option Addr) (n' c' : Nat) (E' : Mem), Mem.le E0 E' → SL Dw E' b' n' c' (os ++ rs) → K (.tup [L b' n' c', I 0]) E') : Pn N0 8 Tryd.f11 [1, 0, 1, 1, 1, 1, 1, 0, 1, 0] 0 (pubK E0 K) ⟨fr11, [⟨3, .lst [I ch], 1, true⟩, ⟨3, .lst [I fr], 1, true⟩, ⟨39, .lst [.slc 8 0 n cap], 1, true⟩, ⟨39, .lst [L rb rl rc], 1, true⟩, ⟨3, .lst [I ch], 1, true⟩, ⟨3, .lst [I sq], 1, true⟩, ⟨39, .lst [L bb bl bc], 1, true⟩, ⟨72, .lst [I ow.t, I ow.nx, I ow.sq, I ow.un], 4, true⟩, ⟨72, .vals vs, tot, true⟩], E⟩ := by
  refine same (by kernel_rfl) (?_ : ∃ (cs : List Value), (cs = [] ∨ E (Value.slice rb rl rc) cs) ∧ rl * 4 ≤ List.length cs ∧ (∀ (x : Value), List.Mem x cs → Value.oneCell' x = true) ∧ n * 4 ≤ List.length (Row.cells (Row.vals vs)) ∧ cap * 4 ≤ tot ∧ n ≤ cap ∧ req ((n + rl) * 32 ≤ 140737488355328) (∀ (cap' tot' : Nat), n + rl ≤ cap' → cap' * 4 ≤ tot' → ∀ (base : Option Addr) (E' : Mem), Mem.le E E' → WinE E' base (List.take (n * 4) vs ++ List.take (rl * 4) cs) → Mem.le E0 E' ∧ K (SV.tup [L (Option.map (fun (x : Addr) => Addr.add x 0) base) (n + rl) cap', I (0 : Int)]) E'))
  obtain ⟨r2, q1, q2, q3, q4, q5⟩ := R.src okDw
  have e := Dw.rows q1
  subst e
  have a1 := O.hl
  have a1 : n * 4 ≤ (Row.cells (Row.vals vs)).length := by show n * 4 ≤ (vs.map SV.raw).length; rw [List.length_map]; exact a1
  have hl := R.len
  refine ⟨_, q2, q3, q4, a1, O.ht, O.hc, req_intro (by omega) fun cap' tot' c1 c2 base E' k w => ⟨Mem.le_trans hE k, h _ _ _ E' (Mem.le_trans hE k) (SL.win okDw (rs := (os ++ rs).map vD) w ?_ (Dw.mk _) (by rw [List.length_append, O.hn, hl]) c1)⟩⟩
  rw [O.hv, List.take_of_length_le (l := List.flatten _) (by have : (List.flatten (rs.map vD)).length = rs.length * 4 := flatD (fun x => x) rs; omega), List.map_append, List.flatten_append]
theorem pnB {ch fr sq : Int} {rb bb : Option Addr} {rl rc bl bc : Nat} {ow : Dn} {n cap tot : Nat} {vs : List Value} {E0 : Mem} {os rs : List Dn} (R : SL Dw E rb rl rc rs) (O : OutV os n cap tot vs) (hs : n + rl ≤ 2000) (hE : Mem.le E0 E) (h : ∀ (b' : Option Addr) (n' c' : Nat) (E' : Mem), Mem.le E0 E' → SL Dw E' b' n' c' (os ++ rs) → K (.tup [L b' n' c', I 0]) E') : Pn N0 8 Tryd.f11 [1, 0, 1, 1, 1, 1, 1, 0, 1, 0] 0 (pubK E0 K) ⟨fr11, [⟨3, .lst [I ch], 1, true⟩, ⟨3, .lst [I fr], 1, true⟩, ⟨39, .lst [.slc 9 0 n cap], 1, true⟩, ⟨39, .lst [L rb rl rc], 1, true⟩, ⟨3, .lst [I ch], 1, true⟩, ⟨3, .lst [I sq], 1, true⟩, ⟨39, .lst [L bb bl bc], 1, true⟩, ⟨72, .lst [I ow.t, I ow.nx, I ow.sq, I ow.un], 4, true⟩, ⟨72, .lst [], 0, false⟩, ⟨72, .vals vs, tot, true⟩], E⟩ := by
  refine same (by kernel_rfl) (?_ : ∃ (cs : List Value), (cs = [] ∨ E (Value.slice rb rl rc) cs) ∧ rl * 4 ≤ List.length cs ∧ (∀ (x : Value), List.Mem x cs → Value.oneCell' x = true) ∧ n * 4 ≤ List.length (Row.cells (Row.vals vs)) ∧ cap * 4 ≤ tot ∧ n ≤ cap ∧ req ((n + rl) * 32 ≤ 140737488355328) (∀ (cap' tot' : Nat), n + rl ≤ cap' → cap' * 4 ≤ tot' → ∀ (base : Option Addr) (E' : Mem), Mem.le E E' → WinE E' base (List.take (n * 4) vs ++ List.take (rl * 4) cs) → Mem.le E0 E' ∧ K (SV.tup [L (Option.map (fun (x : Addr) => Addr.add x 0) base) (n + rl) cap', I (0 : Int)]) E'))
  obtain ⟨r2, q1, q2, q3, q4, q5⟩ := R.src okDw
  have e := Dw.rows q1
  subst e
  have a1 := O.hl
  have a1 : n * 4 ≤ (Row.cells (Row.vals vs)).length := by show n * 4 ≤ (vs.map SV.raw).length; rw [List.length_map]; exact a1
  have hl := R.len
  refine ⟨_, q2, q3, q4, a1, O.ht, O.hc, req_intro (by omega) fun cap' tot' c1 c2 base E' k w => ⟨Mem.le_trans hE k, h _ _ _ E' (Mem.le_trans hE k) (SL.win okDw (rs := (os ++ rs).map vD) w ?_ (Dw.mk _) (by rw [List.length_append, O.hn, hl]) c1)⟩⟩
  rw [O.hv, List.take_of_length_le (l := List.flatten _) (by have : (List.flatten (rs.map vD)).length = rs.length * 4 := flatD (fun x => x) rs; omega), List.map_append, List.flatten_append]
theorem m11 {b1 : Option Addr} {l2 : Nat} {c3 : Nat} {a4 : Int} {a5 : Int} {b6 : Option Addr} {l7 : Nat} {c8 : Nat} {a9 : Int} {rs : List Dn} {zs : List Dn} (h0 : SL Dw E b1 l2 c3 rs) (h1 : Up rs) (h2 : (∀ x ∈ rs, DV x)) (h3 : SL Dw E b6 l7 c8 zs) (h4 : Up zs) (h5 : H50 a4 a9 rs zs ⟨a4, 0, a5, 0⟩ l7) (h6 : (0 ≤ a4 ∧ a4 < 60)) (h7 : (0 ≤ a5 ∧ a5 ≤ 1000000000)) (h : ∀ (b' : Option Addr) (n' c' : Nat) (E' : Mem), Mem.le E E' → SL Dw E' b' n' c' (lrn a4 a5 a9 rs zs) → K (.tup [L b' n' c', I 0]) E') :
    Ent N0 8 Tryd.f11 [L b1 l2 c3, I a4, I a5, L b6 l7 c8, I a9] E K := by
  refine same (by kernel_rfl) (?_ : ∃ (xs : List Dn), SL Dw E b1 l2 c3 xs ∧ Up xs ∧ (∀ (x : Dn), List.Mem x xs → DV x) ∧ l2 ≤ 1000 ∧ Mem.le E E ∧ bif decide (a4 ≥ (0 : Int)) then Mem.le E E ∧ bif bif false then true else !bif true then decide (a4 < (60 : Int)) else false then Mem.le E E ∧ K (SV.tup [L none 0 0, I (1 : Int)]) E else bif bif false then true else decide (a5 < (0 : Int)) then Mem.le E E ∧ K (SV.tup [L none 0 0, I (1 : Int)]) E else bif bif false then true else decide (a5 > (1000000000 : Int)) then Mem.le E E ∧ K (SV.tup [L none 0 0, I (1 : Int)]) E else bif bif false then true else decide (a9 < (0 : Int)) then Mem.le E E ∧ K (SV.tup [L none 0 0, I (1 : Int)]) E else bif bif false then true else decide (a9 > (999999997 : Int)) then Mem.le E E ∧ K (SV.tup [L none 0 0, I (1 : Int)]) E else ∃ (xs : List Dn), SL Dw E b6 l7 c8 xs ∧ Up xs ∧ l7 ≤ 1000 ∧ Mem.le E E ∧ 33 = 33 ∧ ((∃ (b : Option Addr), ∃ (l : Nat), ∃ (c : Nat), ∃ (xs : List Dn), [L b6 l7 c8, SV.clo 29 [] [SV.loc 0 0]] = [L b l c, SV.clo 49 [] []] ∧ SL Dw E b l c xs ∧ (∀ (x : Dn), List.Mem x xs → DV x) ∧ l ≤ 1000 ∧ Mem.le E E ∧ Ct N0 8 Tryd.f11 [1, 0, 1, 1, 1, 1, 1, 0, 1, 0] 0 (pubK E K) { fr := [some (L b1 l2 c3), some (I a4), some (I a5), some (L b6 l7 c8), some (I a9), none, some (SV.loc 0 0), none, none, some (SV.loc 1 0), some (L none 0 0), some (I (0 : Int)), some (SV.clo 29 [] [SV.loc 0 0]), some (SV.loc 2 0), some (SV.loc 3 0), none, none, some (SV.clo 29 [] [SV.loc 0 0]), some (L b1 l2 c3), some (B true), some (B false), some (B false), some (I a4), some (B (bif true then decide (a4 < (60 : Int)) else false)), some (B !bif true then decide (a4 < (60 : Int)) else false), some (B (bif false then true else !bif true then decide (a4 < (60 : Int)) else false)), some (B false), some (I a5), some (B (decide (a5 < (0 : Int)))), some (B (bif false then true else decide (a5 < (0 : Int)))), some (B false), some (I a5), some (B (decide (a5 > (1000000000 : Int)))), some (B (bif false then true else decide (a5 > (1000000000 : Int)))), some (B false), some (I a9), some (B (decide (a9 < (0 : Int)))), some (B (bif false then true else decide (a9 < (0 : Int)))), some (B false), some (I a9), some (B (decide (a9 > (999999997 : Int)))), some (B (bif false then true else decide (a9 > (999999997 : Int)))), some (B false), some (L b6 l7 c8), some (B true), some (B false), some (B false), some (B false), some (L b6 l7 c8), some (SV.clo 29 [] [SV.loc 0 0]), some (B false), some (B false), some (L b1 l2 c3), some (I a4), some (I a5), some (L b6 l7 c8), some (SV.clo 50 [] [SV.loc 4 0, SV.loc 5 0, SV.loc 6 0]), none, none, none, none, none, none, none, none, none, none, none, none, none, none, none, none, none, none, none, none, none, none, none, none, none, none, none, none, none, none, none, none, none, none, none, none, none, none, none, none, none, none, none, none, none, none, none, none, none, none, none, none, none, none, none, none, none, none, none, none, none, none, none, none, none], bx := [(⟨3, Row.lst [I a4], 1, true⟩ : Box), ⟨3, Row.lst [I a9], 1, true⟩, ⟨39, Row.lst [L none 0 0], 1, true⟩, ⟨39, Row.lst [L b1 l2 c3], 1, true⟩, ⟨3, Row.lst [I a4], 1, true⟩, ⟨3, Row.lst [I a5], 1, true⟩, ⟨39, Row.lst [L b6 l7 c8], 1, true⟩], E := E : St }) ∨ ∃ (b : Option Addr), ∃ (l : Nat), ∃ (c : Nat), ∃ (xs : List Dn), ∃ (v : Int), ∃ (w : Int), ([L b6 l7 c8, SV.clo 29 [] [SV.loc 0 0]] = [L b l c, SV.clo 29 [] [SV.loc 0 0]] ∧ [(⟨3, Row.lst [I a4], 1, true⟩ : Box), ⟨3, Row.lst [I a9], 1, true⟩] = [(⟨3, Row.lst [I v], 1, true⟩ : Box), ⟨3, Row.lst [I w], 1, true⟩]) ∧ SL Dw E b l c xs ∧ (∀ (x : Dn), List.Mem x xs → x.t = v → False) ∧ l ≤ 1000 ∧ Mem.le E E ∧ Ct N0 8 Tryd.f11 [1, 0, 1, 1, 1, 1, 1, 0, 1, 0] 0 (pubK E K) { fr := [some (L b1 l2 c3), some (I a4), some (I a5), some (L b6 l7 c8), some (I a9), none, some (SV.loc 0 0), none, none, some (SV.loc 1 0), some (L none 0 0), some (I (0 : Int)), some (SV.clo 29 [] [SV.loc 0 0]), some (SV.loc 2 0), some (SV.loc 3 0), none, none, some (SV.clo 29 [] [SV.loc 0 0]), some (L b1 l2 c3), some (B true), some (B false), some (B false), some (I a4), some (B (bif true then decide (a4 < (60 : Int)) else false)), some (B !bif true then decide (a4 < (60 : Int)) else false), some (B (bif false then true else !bif true then decide (a4 < (60 : Int)) else false)), some (B false), some (I a5), some (B (decide (a5 < (0 : Int)))), some (B (bif false then true else decide (a5 < (0 : Int)))), some (B false), some (I a5), some (B (decide (a5 > (1000000000 : Int)))), some (B (bif false then true else decide (a5 > (1000000000 : Int)))), some (B false), some (I a9), some (B (decide (a9 < (0 : Int)))), some (B (bif false then true else decide (a9 < (0 : Int)))), some (B false), some (I a9), some (B (decide (a9 > (999999997 : Int)))), some (B (bif false then true else decide (a9 > (999999997 : Int)))), some (B false), some (L b6 l7 c8), some (B true), some (B false), some (B false), some (B false), some (L b6 l7 c8), some (SV.clo 29 [] [SV.loc 0 0]), some (B false), some (B false), some (L b1 l2 c3), some (I a4), some (I a5), some (L b6 l7 c8), some (SV.clo 50 [] [SV.loc 4 0, SV.loc 5 0, SV.loc 6 0]), none, none, none, none, none, none, none, none, none, none, none, none, none, none, none, none, none, none, none, none, none, none, none, none, none, none, none, none, none, none, none, none, none, none, none, none, none, none, none, none, none, none, none, none, none, none, none, none, none, none, none, none, none, none, none, none, none, none, none, none, none, none, none, none, none], bx := [(⟨3, Row.lst [I a4], 1, true⟩ : Box), ⟨3, Row.lst [I a9], 1, true⟩, ⟨39, Row.lst [L none 0 0], 1, true⟩, ⟨39, Row.lst [L b1 l2 c3], 1, true⟩, ⟨3, Row.lst [I a4], 1, true⟩, ⟨3, Row.lst [I a5], 1, true⟩, ⟨39, Row.lst [L b6 l7 c8], 1, true⟩], E := E : St }) else Mem.le E E ∧ Mem.le E E ∧ K (SV.tup [L none 0 0, I (1 : Int)]) E)
  have hl := h0.len
  have hz := h3.len
  have hsz := h5.sz
  obtain ⟨f1, f2⟩ := h5.fr
  obtain ⟨o1, o2⟩ := h6
  obtain ⟨o3, o4⟩ := h7
  refine ⟨rs, h0, h1, h2, by omega, Mem.le_refl _, condC (fun _ => ⟨Mem.le_refl _, condC (fun g => absurd g (by first | (simp; done) | (simp; omega))) (fun _ => condC (fun g => absurd g (by first | (simp; done) | (simp; omega))) (fun _ => condC (fun g => absurd g (by first | (simp; done) | (simp; omega))) (fun _ => condC (fun g => absurd g (by first | (simp; done) | (simp; omega))) (fun _ => condC (fun g => absurd g (by first | (simp; done) | (simp; omega))) (fun _ => ⟨zs, h3, h4, by omega, Mem.le_refl _, rfl, .inr ⟨_, _, _, zs, a4, a9, ⟨rfl, rfl⟩, h3, fun x hx e => absurd (h5.gt x hx) (by omega), by omega, Mem.le_refl _, ?_⟩⟩)))))⟩) (fun g => absurd g (by first | (simp; done) | (simp; omega)))⟩
  refine Ct_re (T := ⟨fr11, [⟨3, .lst [I a4], 1, true⟩, ⟨3, .lst [I a9], 1, true⟩, ⟨39, .lst [L none 0 0], 1, true⟩, ⟨39, .lst [L b1 l2 c3], 1, true⟩, ⟨3, .lst [I a4], 1, true⟩, ⟨3, .lst [I a5], 1, true⟩, ⟨39, .lst [L b6 l7 c8], 1, true⟩], E⟩) [some 0, some 1, some 2, some 3, some 4, some 5, some 6] ?_ ⟨⟨by first | (simp; done) | (simp [St.pub]; done), by first | (simp; done) | (simp [St.pub]; done), fun j h => absurd h (Nat.not_lt_zero _)⟩, rfl, (by repeat' first | exact True.intro | refine And.intro (Or.inl rfl) ?_ | refine And.intro (Or.inr ⟨rfl, rfl⟩) ?_), (by repeat' first | exact True.intro | exact rfl | exact Or.inl rfl | fail | refine And.intro ?_ ?_), (show List.Nodup [0, 1, 2, 3, 4, 5, 6] from by decide), Mem.le_refl _⟩
  exact RfT okN0 okN1 (by kernel_rfl) (by kernel_rfl) Tryd.func50 ⟨by kernel_rfl, by kernel_rfl⟩ (gf := 50) (gfn := Tryd.f50) (first := []) (caps := [.loc 4 0, .loc 5 0, .loc 6 0]) (m := 8) TN_ok (fun c hc => q50 hc h5 h0 h3 fun rb rl rc n cap tot vs E1 k R O => by
    have l1 := acc_len a4 a9 rs (⟨a4, 0, a5, 0⟩ :: zs)
    have n1 := O.hn
    have r1 := R.len
    rw [List.length_cons] at l1
    exact ⟨Cn_intro (pnA R O (by omega) k h), Cn_intro (pnB R O (by omega) k h)⟩)
structure HVn (E : Mem) (b : Option Addr) (l c : Nat) : Prop where
  out : l = 0 ∨ (l = 1 ∧ ∃ (no r : Int) (p : Bool) (k : Int), Hf E b c [40, no, r, 13] p k ∧ (0 ≤ no ∧ no ≤ 1000000000) ∧ (0 ≤ r ∧ r < 1000000000) ∧ ((p = true ∧ k = 1000040) ∨ (p = false ∧ k = 0)))
theorem u53b {b : Option Addr} {c : Nat} {no r : Int} {p : Bool} {k : Int} (h1 : Hf E b c [40, no, r, 13] p k) (hn : 0 ≤ no ∧ no ≤ 1000000000) (h2 : 0 ≤ r ∧ r < 1000000000) (h3 : (p = true ∧ k = 1000040) ∨ (p = false ∧ k = 0)) (h : K (B true) E) : Ent C3 8 Tryd.f53 [L b 1 c] E K := by
  refine same (by kernel_rfl) (?_ : (∃ (cs : List Value), E (Value.slice b 1 c) cs ∧ (cs = [] → False)) ∧ ∃ (n : Int), ∃ (n_1 : Int), ∃ (n_2 : Int), ∃ (n_3 : Int), ∃ (b_1 : Bool), ∃ (n_4 : Int), LoadE C3.P E 102 (Value.slice b 1 c) 0 (SV.agg [I n, I n_1, I n_2, I n_3, B b_1, I n_4]) ∧ bif decide (n ≥ (0 : Int)) then Mem.le E E ∧ Mem.le E E ∧ bif bif true then decide (n ≤ (59 : Int)) else false then bif decide (n_1 ≥ (0 : Int)) then Mem.le E E ∧ bif bif true then bif true then decide (n_1 ≤ (1000000000 : Int)) else false else false then bif decide (n_2 ≥ (0 : Int)) then Mem.le E E ∧ bif bif true then bif true then decide (n_2 ≤ (1000000000 : Int)) else false else false then bif decide (n_3 ≥ (0 : Int)) then Mem.le E E ∧ bif bif true then bif true then decide (n_3 ≤ (1000000000 : Int)) else false else false then bif decide (n_4 ≥ (0 : Int)) then Mem.le E E ∧ bif bif true then bif true then decide (n_4 ≤ (2000000 : Int)) else false else false then bif b_1 then Mem.le E E ∧ Mem.le E E ∧ K (B true) E else Mem.le E E ∧ bif !bif true then bif false then true else n_4 == (0 : Int) else false then Mem.le E E ∧ K (B false) E else Mem.le E E ∧ K (B true) E else Mem.le E E ∧ Mem.le E E ∧ K (B false) E else Mem.le E E ∧ Mem.le E E ∧ Mem.le E E ∧ K (B false) E else Mem.le E E ∧ Mem.le E E ∧ K (B false) E else Mem.le E E ∧ Mem.le E E ∧ Mem.le E E ∧ K (B false) E else Mem.le E E ∧ Mem.le E E ∧ K (B false) E else Mem.le E E ∧ Mem.le E E ∧ Mem.le E E ∧ K (B false) E else Mem.le E E ∧ Mem.le E E ∧ K (B false) E else Mem.le E E ∧ Mem.le E E ∧ Mem.le E E ∧ K (B false) E else Mem.le E E ∧ Mem.le E E ∧ K (B false) E else Mem.le E E ∧ Mem.le E E ∧ Mem.le E E ∧ Mem.le E E ∧ K (B false) E)
  refine ⟨⟨_, h1.row, by simp⟩, 40, no, r, 13, p, k, ⟨_, h1.row, by kernel_rfl⟩, ?_⟩
  rcases h3 with ⟨rfl, rfl⟩ | ⟨rfl, rfl⟩
  all_goals
    repeat' first
      | exact Mem.le_refl _
      | exact h
      | refine And.intro ?_ ?_
      | refine condC (fun g => ?_) (fun g => absurd g (by first | (simp; done) | (simp; omega)))
      | refine condC (fun g => absurd g (by first | (simp; done) | (simp; omega))) (fun g => ?_)
      | refine condC (fun _ => ?_) (fun _ => ?_)
      | refine alike ?_
theorem u53 {b1 : Option Addr} {l2 : Nat} {c3 : Nat} (h0 : HVn E b1 l2 c3) (h : K (B true) E) :
    Ent C3 8 Tryd.f53 [L b1 l2 c3] E K := by
  rcases h0.out with rfl | ⟨rfl, no, r, p, k, h1, hn, h2, h3⟩
  · exact q53a h
  · exact u53b h1 hn h2 h3 h
noncomputable def tabUH : FuncId → List SV → Mem → (SV → Mem → Prop) → Prop := fun f args E K => match f with
  | 64 => d2 args fun x0 x1 => dN .u64 x0 fun a1 => dI x1 fun a2 => GR E ∧ 1 ≤ a2 ∧ a2 ≤ 1000000000 ∧ (∀ r : Int, 0 ≤ r → r < a2 → K (I r) E)
  | 53 => d1 args fun x0 => dS x0 fun b1 l2 c3 => HVn E b1 l2 c3 ∧ (K (B true) E)
  | 54 => d1 args fun x0 => dC x0 fun l1 => d8 l1 fun x0_0 x0_1 x0_2 x0_3 x0_4 x0_5 x0_6 x0_7 => dI x0_0 fun a1 => dI x0_1 fun a2 => dI x0_2 fun a3 => dI x0_3 fun a4 => dI x0_4 fun a5 => dI x0_5 fun a6 => dI x0_6 fun a7 => dI x0_7 fun a8 => OkW a1 a2 a3 a4 a5 ∧ (K (B true) E)
  | _ => False
theorem tabUH_ok : TabOK Tryd.prog tabUH := by
  intro f args E K h
  unfold tabUH at h
  split at h
  · replace h := d2_elim h
    obtain ⟨x0, x1, rfl, h⟩ := h
    replace h := dN_elim h
    obtain ⟨a1, rfl, h⟩ := h
    replace h := dI_elim h
    obtain ⟨a2, rfl, h⟩ := h
    obtain ⟨g0, g1, g2, h⟩ := h
    exact TabSem.congr (valL_cons rfl (valL_cons rfl rfl)) (Ent.sem okA4 Tryd.func64 ⟨by kernel_rfl, by kernel_rfl⟩ rfl (q64 g0 g1 g2 h))
  · replace h := d1_elim h
    obtain ⟨x0, rfl, h⟩ := h
    replace h := dS_elim h
    obtain ⟨b1, l2, c3, rfl, h⟩ := h
    obtain ⟨g0, h⟩ := h
    exact TabSem.congr (valL_cons rfl rfl) (Ent.sem okC3 Tryd.func53 ⟨by kernel_rfl, by kernel_rfl⟩ rfl (u53 g0 h))
  · replace h := d1_elim h
    obtain ⟨x0, rfl, h⟩ := h
    replace h := dC_elim h
    obtain ⟨l1, hl1, h⟩ := h
    replace h := d8_elim h
    obtain ⟨x0_0, x0_1, x0_2, x0_3, x0_4, x0_5, x0_6, x0_7, rfl, h⟩ := h
    replace h := dI_elim h
    obtain ⟨a1, rfl, h⟩ := h
    replace h := dI_elim h
    obtain ⟨a2, rfl, h⟩ := h
    replace h := dI_elim h
    obtain ⟨a3, rfl, h⟩ := h
    replace h := dI_elim h
    obtain ⟨a4, rfl, h⟩ := h
    replace h := dI_elim h
    obtain ⟨a5, rfl, h⟩ := h
    replace h := dI_elim h
    obtain ⟨a6, rfl, h⟩ := h
    replace h := dI_elim h
    obtain ⟨a7, rfl, h⟩ := h
    replace h := dI_elim h
    obtain ⟨a8, rfl, h⟩ := h
    obtain ⟨g0, h⟩ := h
    exact TabSem.congr (valL_cons (asCells_val hl1) rfl) (Ent.sem okC2 Tryd.func54 ⟨by kernel_rfl, by kernel_rfl⟩ rfl (q54 g0 h))
  · exact h.elim
noncomputable def U1 : Cx := { P := Tryd.prog, inl := fun f => List.contains [6, 7, 8, 9, 10, 13, 14, 15, 17, 18, 19, 20, 21, 22, 23, 24, 25, 26, 27, 28, 29, 30, 31, 32, 33, 34, 35, 36, 37, 38, 39, 40, 41, 42, 43, 44, 45, 46, 47, 48, 49, 50, 51, 52, 55, 56, 57, 59, 60, 61, 62, 63, 65, 66, 67, 69, 70, 74, 75, 78, 79, 80, 81, 82, 83, 84, 85, 86, 87, 88, 89, 90, 91, 92, 93, 94, 95, 112] f, tab := tabUH, isB := fun f => f == 58, tabB := tab58, opt := { unroll := 3, carry := [] }, muts := (fun o => match o with | .mapUpdate .. => true | o => mutsD o) }
theorem okU1 : CxOK U1 := CxOK.four tabUH_ok (by kernel_rfl) (okInl (by kernel_rfl)) tab58_ok
theorem u37a {me no : Int} (hm : 0 ≤ me ∧ me < 20) (hn : 0 ≤ no ∧ no ≤ 1000000000) (h0 : GR E) (h : ∀ (r : Int) (b' : Option Addr) (c' : Nat) (E' : Mem), 0 ≤ r → r < 1000000000 → Mem.le E E' → Hf E' b' c' [40, no, r, 13] false 0 → K (.tup [L b' 1 c', I 0]) E') : Ent U1 10 Tryd.f37 [L none 0 0, I me, .agg [I 1, I 40, I me, I no, I 0, I 0, I 0, I 0], I 1] E K := by
  refine same (by kernel_rfl) (?_ : HVn E none 0 0 ∧ Mem.le E E ∧ OkW (1 : Int) (40 : Int) me no (0 : Int) ∧ Mem.le E E ∧ bif bif false then true else me != me then Mem.le E E ∧ K (SV.tup [L none 0 0, I (1 : Int)]) E else Mem.le E E ∧ Mem.le E E ∧ IntKind.u64 = IntKind.u64 ∧ GR E ∧ (1 : Int) ≤ (1000000000 : Int) ∧ (1000000000 : Int) ≤ (1000000000 : Int) ∧ ∀ (r : Int), (0 : Int) ≤ r → r < (1000000000 : Int) → Mem.le E E ∧ ∀ (b : Option Addr) (c : Nat) (E' : Mem), Mem.le E E' → Hyp (b ≠ none) → E' (Value.slice b 1 c) [Value.int IntKind.i64 (40 : Int), Value.int IntKind.i64 no, Value.int IntKind.i64 r, Value.int IntKind.i64 (13 : Int), Value.bool false, Value.int IntKind.i64 (0 : Int)] → Mem.le E E' ∧ K (SV.tup [L b 1 c, I (0 : Int)]) E')
  have nr : ¬ ((bif false then true else (me != me)) = true) := by simp
  exact ⟨⟨.inl rfl⟩, Mem.le_refl _, ⟨by decide, by decide, by omega, by omega, hn, by decide⟩, Mem.le_refl _, condC (fun g => absurd g nr) (fun _ => ⟨Mem.le_refl _, Mem.le_refl _, rfl, h0, by decide, by decide, fun r r1 r2 => ⟨Mem.le_refl _, fun b c E' h1 h2 h3 => ⟨h1, h r b c E' r1 r2 h1 ⟨h2, h3⟩⟩⟩⟩)⟩
theorem u37b {me no : Int} {b : Option Addr} {c : Nat} {r : Int} (hm : 0 ≤ me ∧ me < 20) (hn : 0 ≤ no ∧ no ≤ 1000000000) (h0 : GR E) (h1 : Hf E b c [40, no, r, 13] false 0) (h2 : 0 ≤ r) (h3 : r < 1000000000) (h : ∀ (b' : Option Addr) (c' : Nat) (E' : Mem), Mem.le E E' → Hf E' b' c' [40, no, r, 13] true 1000040 → K (.tup [L b' 1 c', I 0]) E') : Ent U1 10 Tryd.f37 [L b 1 c, I me, .agg [I 3, I 40, I me, I no, I r, I 1000040, I 0, I 0], I 2] E K := by
  refine same (by kernel_rfl) (?_ : HVn E b 1 c ∧ Mem.le E E ∧ OkW (3 : Int) (40 : Int) me no r ∧ Mem.le E E ∧ bif bif false then true else me != me then Mem.le E E ∧ K (SV.tup [L none 0 0, I (1 : Int)]) E else Mem.le E E ∧ Mem.le E E ∧ (∃ (cs : List Value), E (Value.slice b 1 c) cs ∧ (cs = [] → False)) ∧ ∃ (n : Int), ∃ (n_1 : Int), ∃ (n_2 : Int), ∃ (n_3 : Int), ∃ (b_1 : Bool), ∃ (n_4 : Int), LoadE U1.P E 102 (Value.slice b 1 c) 0 (SV.agg [I n, I n_1, I n_2, I n_3, B b_1, I n_4]) ∧ bif (40 : Int) == n then bif bif false then true else n_1 != no then Mem.le E E ∧ K (SV.tup [L none 0 0, I (4 : Int)]) E else bif bif false then true else n_2 != r then Mem.le E E ∧ K (SV.tup [L none 0 0, I (4 : Int)]) E else Sx.Alike (AlikeT.n AlikeT.l AlikeT.l) (bif (40 : Int) == n then ∀ (b : Option Addr) (c : Nat) (E' : Mem), Mem.le E E' → Hyp (b ≠ none) → E' (Value.slice b 1 c) [Value.int IntKind.i64 n, Value.int IntKind.i64 n_1, Value.int IntKind.i64 n_2, Value.int IntKind.i64 n_3, Value.bool true, Value.int IntKind.i64 (1000040 : Int)] → Mem.le E E' ∧ K (SV.tup [L b 1 c, I (0 : Int)]) E' else False) else Mem.le E E ∧ K (SV.tup [L none 0 0, I (4 : Int)]) E)
  have nr : ¬ ((bif false then true else (me != me)) = true) := by simp
  have nr2 : ¬ ((bif false then true else (no != no)) = true) := by simp
  have nr3 : ¬ ((bif false then true else (r != r)) = true) := by simp
  refine ⟨⟨.inr ⟨rfl, no, r, false, 0, h1, hn, ⟨h2, h3⟩, .inr ⟨rfl, rfl⟩⟩⟩, Mem.le_refl _, ⟨by decide, by decide, by omega, by omega, hn, h2, by omega⟩, Mem.le_refl _, condC (fun g => absurd g nr) (fun _ => ⟨Mem.le_refl _, Mem.le_refl _, ⟨_, h1.row, by simp⟩, 40, no, r, 13, false, 0, ⟨_, h1.row, by kernel_rfl⟩, ?_⟩)⟩
  exact condC (fun _ => condC (fun g => absurd g nr2) (fun _ => condC (fun g => absurd g nr3) (fun _ => alike (condC (fun _ b' c' E' k1 k2 k3 => ⟨k1, h b' c' E' k1 ⟨k2, k3⟩⟩) (fun g => absurd g (by decide)))))) (fun g => absurd g (by decide))
theorem u37 {b1 : Option Addr} {l2 : Nat} {c3 : Nat} {a4 : Int} {a5 : Int} {a6 : Int} {a7 : Int} {a8 : Int} {a9 : Int} {a10 : Int} {a11 : Int} {a12 : Int} {a13 : Int} (h0 : GR E) (h : cond (a13 == 1) (NoB b1 l2 c3 ∧ ((0 ≤ a4 ∧ a4 < 20) ∧ a5 = 1) ∧ (a6 = 40 ∧ a7 = a4 ∧ (0 ≤ a8 ∧ a8 ≤ 1000000000) ∧ a9 = 0 ∧ a10 = 0 ∧ a11 = 0 ∧ a12 = 0) ∧ ∀ (r : Int) (b' : Option Addr) (c' : Nat) (E' : Mem), 0 ≤ r → r < 1000000000 → Mem.le E E' → Hf E' b' c' [40, a8, r, 13] false 0 → K (.tup [L b' 1 c', I 0]) E') ((l2 = 1 ∧ Hf E b1 c3 [40, a8, a9, 13] false 0 ∧ 0 ≤ a9 ∧ a9 < 1000000000) ∧ ((0 ≤ a4 ∧ a4 < 20) ∧ a13 = 2) ∧ (a5 = 3 ∧ a6 = 40 ∧ a7 = a4 ∧ (0 ≤ a8 ∧ a8 ≤ 1000000000) ∧ a10 = 1000040 ∧ a11 = 0 ∧ a12 = 0) ∧ ∀ (b' : Option Addr) (c' : Nat) (E' : Mem), Mem.le E E' → Hf E' b' c' [40, a8, a9, 13] true 1000040 → K (.tup [L b' 1 c', I 0]) E')) :
    Ent U1 10 Tryd.f37 [L b1 l2 c3, I a4, .agg [I a5, I a6, I a7, I a8, I a9, I a10, I a11, I a12], I a13] E K := by
  cases hk : (a13 == 1) with
  | true =>
    rw [hk] at h
    obtain ⟨⟨rfl, rfl, rfl⟩, ⟨hm, rfl⟩, ⟨rfl, rfl, hn, rfl, rfl, rfl, rfl⟩, h⟩ := h
    have hk : a13 = 1 := by simpa using hk
    subst hk
    exact u37a hm hn h0 h
  | false =>
    rw [hk] at h
    obtain ⟨⟨rfl, h1, h2, h3⟩, ⟨hm, rfl⟩, ⟨rfl, rfl, rfl, hn, rfl, rfl, rfl⟩, h⟩ := h
    exact u37b hm hn h0 h1 h2 h3 h
noncomputable def tabV : FuncId → List SV → Mem → (SV → Mem → Prop) → Prop := fun f args E K => match f with
  | 53 => d1 args fun x0 => dS x0 fun b1 l2 c3 => HVn E b1 l2 c3 ∧ (K (B true) E)
  | 62 => d1 args fun x0 => dC x0 fun l1 => d8 l1 fun x0_0 x0_1 x0_2 x0_3 x0_4 x0_5 x0_6 x0_7 => dI x0_0 fun a1 => dI x0_1 fun a2 => dI x0_2 fun a3 => dI x0_3 fun a4 => dI x0_4 fun a5 => dI x0_5 fun a6 => dI x0_6 fun a7 => dI x0_7 fun a8 => OkW a1 a2 a3 a4 a5 ∧ (K (B true) E)
  | _ => False
theorem tabV_ok : TabOK Tryd.prog tabV := by
  intro f args E K h
  unfold tabV at h
  split at h
  · replace h := d1_elim h
    obtain ⟨x0, rfl, h⟩ := h
    replace h := dS_elim h
    obtain ⟨b1, l2, c3, rfl, h⟩ := h
    obtain ⟨g0, h⟩ := h
    exact TabSem.congr (valL_cons rfl rfl) (Ent.sem okC3 Tryd.func53 ⟨by kernel_rfl, by kernel_rfl⟩ rfl (u53 g0 h))
  · replace h := d1_elim h
    obtain ⟨x0, rfl, h⟩ := h
    replace h := dC_elim h
    obtain ⟨l1, hl1, h⟩ := h
    replace h := d8_elim h
    obtain ⟨x0_0, x0_1, x0_2, x0_3, x0_4, x0_5, x0_6, x0_7, rfl, h⟩ := h
    replace h := dI_elim h
    obtain ⟨a1, rfl, h⟩ := h
    replace h := dI_elim h
    obtain ⟨a2, rfl, h⟩ := h
    replace h := dI_elim h
    obtain ⟨a3, rfl, h⟩ := h
    replace h := dI_elim h
    obtain ⟨a4, rfl, h⟩ := h
    replace h := dI_elim h
    obtain ⟨a5, rfl, h⟩ := h
    replace h := dI_elim h
    obtain ⟨a6, rfl, h⟩ := h
    replace h := dI_elim h
    obtain ⟨a7, rfl, h⟩ := h
    replace h := dI_elim h
    obtain ⟨a8, rfl, h⟩ := h
    obtain ⟨g0, h⟩ := h
    exact TabSem.congr (valL_cons (asCells_val hl1) rfl) (Ent.sem okC1 Tryd.func62 ⟨by kernel_rfl, by kernel_rfl⟩ rfl (q62 g0 h))
  · exact h.elim
noncomputable def V1 : Cx := { P := Tryd.prog, inl := fun f => List.contains [6, 7, 8, 9, 10, 13, 14, 15, 17, 18, 19, 20, 21, 22, 23, 24, 25, 26, 27, 28, 29, 30, 31, 32, 33, 34, 35, 36, 38, 39, 40, 41, 42, 43, 44, 45, 46, 47, 48, 49, 50, 51, 52, 54, 55, 56, 57, 59, 60, 61, 63, 65, 66, 67, 69, 70, 74, 75, 78, 79, 80, 81, 82, 83, 84, 85, 86, 87, 88, 89, 90, 91, 92, 93, 94, 95, 112] f, tab := tabV, isB := fun _ => false, tabB := fun _ _ _ _ _ => False, opt := { unroll := 3, carry := [] }, muts := (fun o => match o with | .mapUpdate .. => true | o => mutsD o) }
theorem okV1 : CxOK V1 := CxOK.four tabV_ok (by kernel_rfl) (okInl (by kernel_rfl)) (fun _ _ _ _ _ h => h.elim)
theorem u59 {b1 : Option Addr} {l2 : Nat} {c3 : Nat} {a4 : Int} {a5 : Int} {a6 : Bool} {no : Int} {r : Int} {ke : Int} (h0 : l2 = 1) (h1 : Hf E b1 c3 [40, no, r, 13] a6 ke) (h2 : (0 ≤ r ∧ r < 1000000000)) (h3 : (0 ≤ no ∧ no ≤ 1000000000)) (h4 : (0 ≤ a4 ∧ a4 < 20)) (h5 : ((a6 = true ∧ ke = 1000040) ∨ (a6 = false ∧ ke = 0))) (h : ∀ (b' : Option Addr) (c' : Nat) (E' : Mem), Mem.le E E' → Wd E' b' c' [a5, 40, a4, no, r, ke, 0, 0] → K (L b' 1 c') E') :
    Ent V1 10 Tryd.f59 [L b1 l2 c3, I a4, I a5, B a6] E K := by
  subst h0
  refine same (by kernel_rfl) (?_ : HVn E b1 1 c3 ∧ Mem.le E E ∧ bif decide (a4 ≥ (0 : Int)) then Mem.le E E ∧ Mem.le E E ∧ bif bif false then true else !bif true then decide (a4 ≤ (59 : Int)) else false then Mem.le E E ∧ K (L none 0 0) E else (∃ (cs : List Value), E (Value.slice b1 1 c3) cs ∧ (cs = [] → False)) ∧ ∃ (n : Int), ∃ (n_1 : Int), ∃ (n_2 : Int), ∃ (n_3 : Int), ∃ (b : Bool), ∃ (n_4 : Int), LoadE V1.P E 102 (Value.slice b1 1 c3) 0 (SV.agg [I n, I n_1, I n_2, I n_3, B b, I n_4]) ∧ bif b == a6 then ∀ (cap' tot' : Nat), 1 ≤ cap' → cap' * 8 ≤ tot' → ∀ (base : Option Addr) (E' : Mem), Mem.le E E' → WinE E' base [Value.int IntKind.i64 a5, Value.int IntKind.i64 n, Value.int IntKind.i64 a4, Value.int IntKind.i64 n_1, Value.int IntKind.i64 n_2, Value.int IntKind.i64 n_4, Value.int IntKind.i64 (0 : Int), Value.int IntKind.i64 (0 : Int)] → Mem.le E E' ∧ K (L (Option.map (fun (x : Addr) => Addr.add x 0) base) 1 cap') E' else Mem.le E E ∧ K (L none 0 0) E else Mem.le E E ∧ Mem.le E E ∧ Mem.le E E ∧ K (L none 0 0) E)
  refine ⟨⟨.inr ⟨rfl, no, r, a6, ke, h1, h3, h2, h5⟩⟩, Mem.le_refl _, condC (fun _ => ⟨Mem.le_refl _, Mem.le_refl _, condC (fun g => absurd g (by simp; omega)) (fun _ => ⟨⟨_, h1.row, by simp⟩, 40, no, r, 13, a6, ke, ⟨_, h1.row, by kernel_rfl⟩, condC (fun _ cap tot c1 c2 base E' k1 w => ⟨k1, ?_⟩) (fun g => absurd g (by simp))⟩)⟩) (fun g => absurd g (by simp; omega))⟩
  have hb : base ≠ none := fun e => by have := w.1 e; cases this
  refine h _ _ E' k1 ⟨by cases base with | none => exact absurd rfl hb | some a => simp, w.2 0 8 1 cap (by simp)⟩
theorem u39a {me no r : Int} (hm : 0 ≤ me ∧ me < 20) (hn : 0 ≤ no ∧ no ≤ 1000000000) (h0 : 0 ≤ r ∧ r < 1000000000) (h : K (.tup [.agg [I 2, I me, I no, I 1, I 1], .agg [I 3, I 40, I me, I no, I r, I 1000040, I 0, I 0], B true]) E) : Ent V1 10 Tryd.f39 [.agg [I 1, I me, I no, I 1, I 1], I 40, .agg [I 2, I 40, I me, I no, I r, I 0, I 0, I 0], I 2] E K := by
  refine same (by kernel_rfl) (?_ : Mem.le E E ∧ Mem.le E E ∧ Mem.le E E ∧ bif bif true then decide (no ≥ (0 : Int)) else false then bif bif true then decide (no ≤ (1000000000 : Int)) else false then bif bif true then decide (me ≥ (-1 : Int)) else false then bif !bif true then decide (me < (60 : Int)) else false then Mem.le E E ∧ K (SV.tup [SV.agg [I (1 : Int), I me, I no, I (1 : Int), I (1 : Int)], SV.agg [I (0 : Int), I (0 : Int), I (0 : Int), I (0 : Int), I (0 : Int), I (0 : Int), I (0 : Int), I (0 : Int)], B false]) E else OkW (2 : Int) (40 : Int) me no r ∧ Mem.le E E ∧ bif bif false then true else !(true && (true && (me == me && (no == no && (r == r && true))))) then Mem.le E E ∧ K (SV.tup [SV.agg [I (1 : Int), I me, I no, I (1 : Int), I (1 : Int)], SV.agg [I (0 : Int), I (0 : Int), I (0 : Int), I (0 : Int), I (0 : Int), I (0 : Int), I (0 : Int), I (0 : Int)], B false]) E else Sx.Alike (AlikeT.n AlikeT.l AlikeT.l) (Mem.le E E ∧ K (SV.tup [SV.agg [I (2 : Int), I me, I no, I (1 : Int), I (1 : Int)], SV.agg [I (3 : Int), I (40 : Int), I me, I no, I r, I (1000040 : Int), I (0 : Int), I (0 : Int)], B true]) E) else Mem.le E E ∧ K (SV.tup [SV.agg [I (1 : Int), I me, I no, I (1 : Int), I (1 : Int)], SV.agg [I (0 : Int), I (0 : Int), I (0 : Int), I (0 : Int), I (0 : Int), I (0 : Int), I (0 : Int), I (0 : Int)], B false]) E else Mem.le E E ∧ K (SV.tup [SV.agg [I (1 : Int), I me, I no, I (1 : Int), I (1 : Int)], SV.agg [I (0 : Int), I (0 : Int), I (0 : Int), I (0 : Int), I (0 : Int), I (0 : Int), I (0 : Int), I (0 : Int)], B false]) E else Mem.le E E ∧ K (SV.tup [SV.agg [I (1 : Int), I me, I no, I (1 : Int), I (1 : Int)], SV.agg [I (0 : Int), I (0 : Int), I (0 : Int), I (0 : Int), I (0 : Int), I (0 : Int), I (0 : Int), I (0 : Int)], B false]) E)
  have w : OkW 2 40 me no r := ⟨by decide, by decide, by omega, by omega, hn, by omega⟩
  repeat' first
    | exact Mem.le_refl _
    | exact h
    | exact w
    | refine And.intro ?_ ?_
    | refine condC (fun g => ?_) (fun g => absurd g (by first | (simp; done) | (simp; omega)))
    | refine condC (fun g => absurd g (by first | (simp; done) | (simp; omega))) (fun g => ?_)
    | refine condC (fun _ => ?_) (fun _ => ?_)
    | refine alike ?_
theorem u39b {me no f n : Int} (hm : 0 ≤ me ∧ me < 20) (hn : 0 ≤ no ∧ no ≤ 1000000000) (h : K (.tup [.agg [I 3, I me, I no, I 1, I 1], .agg [I 0, I 0, I 0, I 0, I 0, I 0, I 0, I 0], B true]) E) : Ent V1 10 Tryd.f39 [.agg [I 2, I me, I no, I 1, I 1], I 40, .agg [I 4, I 40, I me, I no, I 0, I 1000040, I f, I n], I 3] E K := by
  refine same (by kernel_rfl) (?_ : Mem.le E E ∧ Mem.le E E ∧ Mem.le E E ∧ bif bif true then decide (no ≥ (0 : Int)) else false then bif bif true then decide (no ≤ (1000000000 : Int)) else false then bif bif true then decide (me ≥ (-1 : Int)) else false then bif !bif true then decide (me < (60 : Int)) else false then Mem.le E E ∧ K (SV.tup [SV.agg [I (2 : Int), I me, I no, I (1 : Int), I (1 : Int)], SV.agg [I (0 : Int), I (0 : Int), I (0 : Int), I (0 : Int), I (0 : Int), I (0 : Int), I (0 : Int), I (0 : Int)], B false]) E else OkW (4 : Int) (40 : Int) me no (0 : Int) ∧ Mem.le E E ∧ bif bif false then true else !(true && (true && (me == me && (no == no && (true && (true && (f == f && (n == n && true) && true))))))) then Mem.le E E ∧ K (SV.tup [SV.agg [I (2 : Int), I me, I no, I (1 : Int), I (1 : Int)], SV.agg [I (0 : Int), I (0 : Int), I (0 : Int), I (0 : Int), I (0 : Int), I (0 : Int), I (0 : Int), I (0 : Int)], B false]) E else Sx.Alike (AlikeT.n AlikeT.l AlikeT.l) (Mem.le E E ∧ K (SV.tup [SV.agg [I (3 : Int), I me, I no, I (1 : Int), I (1 : Int)], SV.agg [I (0 : Int), I (0 : Int), I (0 : Int), I (0 : Int), I (0 : Int), I (0 : Int), I (0 : Int), I (0 : Int)], B true]) E) else Mem.le E E ∧ K (SV.tup [SV.agg [I (2 : Int), I me, I no, I (1 : Int), I (1 : Int)], SV.agg [I (0 : Int), I (0 : Int), I (0 : Int), I (0 : Int), I (0 : Int), I (0 : Int), I (0 : Int), I (0 : Int)], B false]) E else Mem.le E E ∧ K (SV.tup [SV.agg [I (2 : Int), I me, I no, I (1 : Int), I (1 : Int)], SV.agg [I (0 : Int), I (0 : Int), I (0 : Int), I (0 : Int), I (0 : Int), I (0 : Int), I (0 : Int), I (0 : Int)], B false]) E else Mem.le E E ∧ K (SV.tup [SV.agg [I (2 : Int), I me, I no, I (1 : Int), I (1 : Int)], SV.agg [I (0 : Int), I (0 : Int), I (0 : Int), I (0 : Int), I (0 : Int), I (0 : Int), I (0 : Int), I (0 : Int)], B false]) E)
  have w : OkW 4 40 me no 0 := ⟨by decide, by decide, by omega, by omega, hn, by omega⟩
  repeat' first
    | exact Mem.le_refl _
    | exact h
    | exact w
    | refine And.intro ?_ ?_
    | refine condC (fun g => ?_) (fun g => absurd g (by first | (simp; done) | (simp; omega)))
    | refine condC (fun g => absurd g (by first | (simp; done) | (simp; omega))) (fun g => ?_)
    | refine condC (fun _ => ?_) (fun _ => ?_)
    | refine alike ?_
theorem u41a {me no r rf rn : Int} (hm : 0 ≤ me ∧ me < 20) (hn : 0 ≤ no ∧ no ≤ 1000000000) (h0 : 0 ≤ r ∧ r < 1000000000) (hr : 0 ≤ rf ∧ rf < rn ∧ rn ≤ 1000000000) (h : K (.tup [.agg [I 4, I 40, I me, I no, I 0, I 1000040, I rf, I rn], I 0]) E) : Ent V1 10 Tryd.f41 [.agg [I 3, I 40, I me, I no, I r, I 1000040, I 0, I 0], .agg [I rf, I rn]] E K := by
  refine same (by kernel_rfl) (?_ : OkW (3 : Int) (40 : Int) me no r ∧ Mem.le E E ∧ bif bif false then true else decide (rf < (0 : Int)) then Mem.le E E ∧ K (SV.tup [SV.agg [I (0 : Int), I (0 : Int), I (0 : Int), I (0 : Int), I (0 : Int), I (0 : Int), I (0 : Int), I (0 : Int)], I (1 : Int)]) E else bif bif false then true else decide (rf ≥ rn) then Mem.le E E ∧ K (SV.tup [SV.agg [I (0 : Int), I (0 : Int), I (0 : Int), I (0 : Int), I (0 : Int), I (0 : Int), I (0 : Int), I (0 : Int)], I (1 : Int)]) E else bif bif false then true else decide (rn > (1000000000 : Int)) then Mem.le E E ∧ K (SV.tup [SV.agg [I (0 : Int), I (0 : Int), I (0 : Int), I (0 : Int), I (0 : Int), I (0 : Int), I (0 : Int), I (0 : Int)], I (1 : Int)]) E else Mem.le E E ∧ Mem.le E E ∧ Mem.le E E ∧ Sx.Alike (AlikeT.n AlikeT.l (AlikeT.n AlikeT.l (AlikeT.n AlikeT.l AlikeT.l))) (Mem.le E E ∧ K (SV.tup [SV.agg [I (4 : Int), I (40 : Int), I me, I no, I (0 : Int), I (1000040 : Int), I rf, I rn], I (0 : Int)]) E))
  have w : OkW 3 40 me no r := ⟨by decide, by decide, by omega, by omega, hn, by omega⟩
  repeat' first
    | exact Mem.le_refl _
    | exact h
    | exact w
    | refine And.intro ?_ ?_
    | refine condC (fun g => ?_) (fun g => absurd g (by first | (simp; done) | (simp; omega)))
    | refine condC (fun g => absurd g (by first | (simp; done) | (simp; omega))) (fun g => ?_)
    | refine condC (fun _ => ?_) (fun _ => ?_)
    | refine alike ?_
theorem u36a {me bo : Int} (hm : 0 ≤ me ∧ me < 20) (hb : 0 ≤ bo ∧ bo ≤ 1000000) (h : ∀ no : Int, no = 256 * bo + 1 → K (.tup [.agg [I 1, I me, I no, I 1, I 1], .agg [I 1, I 40, I me, I no, I 0, I 0, I 0, I 0], I 0]) E) : Ent V1 10 Tryd.f36 [.agg [I 0, I (-1), I 0, I 0, I 0], I 40, I bo, I me, I 1] E K := by
  refine same (by kernel_rfl) (?_ : Mem.le E E ∧ bif decide (me ≥ (0 : Int)) then Mem.le E E ∧ bif bif false then true else !bif true then decide (me < (60 : Int)) else false then Mem.le E E ∧ K (SV.tup [SV.agg [I (0 : Int), I (0 : Int), I (0 : Int), I (0 : Int), I (0 : Int)], SV.agg [I (0 : Int), I (0 : Int), I (0 : Int), I (0 : Int), I (0 : Int), I (0 : Int), I (0 : Int), I (0 : Int)], I (1 : Int)]) E else bif bif false then true else (40 : Int) == me then Mem.le E E ∧ K (SV.tup [SV.agg [I (0 : Int), I (0 : Int), I (0 : Int), I (0 : Int), I (0 : Int)], SV.agg [I (0 : Int), I (0 : Int), I (0 : Int), I (0 : Int), I (0 : Int), I (0 : Int), I (0 : Int), I (0 : Int)], I (1 : Int)]) E else bif bif false then true else decide (bo < (0 : Int)) then Mem.le E E ∧ K (SV.tup [SV.agg [I (0 : Int), I (0 : Int), I (0 : Int), I (0 : Int), I (0 : Int)], SV.agg [I (0 : Int), I (0 : Int), I (0 : Int), I (0 : Int), I (0 : Int), I (0 : Int), I (0 : Int), I (0 : Int)], I (1 : Int)]) E else bif bif false then true else decide (bo > (1000000 : Int)) then Mem.le E E ∧ K (SV.tup [SV.agg [I (0 : Int), I (0 : Int), I (0 : Int), I (0 : Int), I (0 : Int)], SV.agg [I (0 : Int), I (0 : Int), I (0 : Int), I (0 : Int), I (0 : Int), I (0 : Int), I (0 : Int), I (0 : Int)], I (1 : Int)]) E else Sx.Alike (AlikeT.n AlikeT.l AlikeT.l) (Mem.le E E ∧ K (SV.tup [SV.agg [I (1 : Int), I me, I (IntKind.wrap IntKind.i64 (IntKind.wrap IntKind.i64 ((256 : Int) * bo) + (1 : Int))), I (1 : Int), I (1 : Int)], SV.agg [I (1 : Int), I (40 : Int), I me, I (IntKind.wrap IntKind.i64 (IntKind.wrap IntKind.i64 ((256 : Int) * bo) + (1 : Int))), I (0 : Int), I (0 : Int), I (0 : Int), I (0 : Int)], I (0 : Int)]) E) else Mem.le E E ∧ Mem.le E E ∧ K (SV.tup [SV.agg [I (0 : Int), I (0 : Int), I (0 : Int), I (0 : Int), I (0 : Int)], SV.agg [I (0 : Int), I (0 : Int), I (0 : Int), I (0 : Int), I (0 : Int), I (0 : Int), I (0 : Int), I (0 : Int)], I (1 : Int)]) E)
  rw [wrap_i64 (x := 256 * bo) (by omega), wrap_i64 (x := 256 * bo + 1) (by omega)]
  have h := h _ rfl
  repeat' first
    | exact Mem.le_refl _
    | exact h
    | refine And.intro ?_ ?_
    | refine condC (fun g => ?_) (fun g => absurd g (by first | (simp; done) | (simp; omega)))
    | refine condC (fun g => absurd g (by first | (simp; done) | (simp; omega))) (fun g => ?_)
    | refine condC (fun _ => ?_) (fun _ => ?_)
    | refine alike ?_
theorem u39 {a1 : Int} {a2 : Int} {a3 : Int} {a4 : Int} {a5 : Int} {a6 : Int} {a7 : Int} {a8 : Int} {a9 : Int} {a10 : Int} {a11 : Int} {a12 : Int} {a13 : Int} {a14 : Int} {a15 : Int} (h : cond (a15 == 2) ((a1 = 1 ∧ a2 = a9 ∧ a3 = a10 ∧ a4 = 1 ∧ a5 = 1 ∧ a6 = 40 ∧ a8 = 40 ∧ (0 ≤ a9 ∧ a9 < 20) ∧ (0 ≤ a10 ∧ a10 ≤ 1000000000) ∧ (0 ≤ a11 ∧ a11 < 1000000000) ∧ a12 = 0 ∧ a13 = 0 ∧ a14 = 0 ∧ a7 = 2) ∧ K (.tup [.agg [I 2, I a9, I a10, I 1, I 1], .agg [I 3, I 40, I a9, I a10, I a11, I 1000040, I 0, I 0], B true]) E) ((a1 = 2 ∧ a2 = a9 ∧ a3 = a10 ∧ a4 = 1 ∧ a5 = 1 ∧ a6 = 40 ∧ a8 = 40 ∧ (0 ≤ a9 ∧ a9 < 20) ∧ (0 ≤ a10 ∧ a10 ≤ 1000000000) ∧ a7 = 4 ∧ a11 = 0 ∧ a12 = 1000040 ∧ a15 = 3) ∧ K (.tup [.agg [I 3, I a9, I a10, I 1, I 1], .agg [I 0, I 0, I 0, I 0, I 0, I 0, I 0, I 0], B true]) E)) :
    Ent V1 10 Tryd.f39 [.agg [I a1, I a2, I a3, I a4, I a5], I a6, .agg [I a7, I a8, I a9, I a10, I a11, I a12, I a13, I a14], I a15] E K := by
  cases hk : (a15 == 2) with
  | true =>
    rw [hk] at h
    obtain ⟨⟨rfl, rfl, rfl, rfl, rfl, rfl, rfl, hm, hn, hr, rfl, rfl, rfl, rfl⟩, h⟩ := h
    have hk : a15 = 2 := by simpa using hk
    subst hk
    exact u39a hm hn hr h
  | false =>
    rw [hk] at h
    obtain ⟨⟨rfl, rfl, rfl, rfl, rfl, rfl, rfl, hm, hn, rfl, rfl, rfl, rfl⟩, h⟩ := h
    exact u39b hm hn h
theorem u41 {a1 : Int} {a2 : Int} {a3 : Int} {a4 : Int} {a5 : Int} {a6 : Int} {a7 : Int} {a8 : Int} {a9 : Int} {a10 : Int} (h0 : (a1 = 3 ∧ a2 = 40 ∧ (0 ≤ a3 ∧ a3 < 20) ∧ (0 ≤ a4 ∧ a4 ≤ 1000000000) ∧ a6 = 1000040)) (h1 : (0 ≤ a5 ∧ a5 < 1000000000)) (h2 : (a7 = 0 ∧ a8 = 0)) (h3 : (0 ≤ a9 ∧ a9 < a10 ∧ a10 ≤ 1000000000)) (h : K (.tup [.agg [I 4, I 40, I a3, I a4, I 0, I 1000040, I a9, I a10], I 0]) E) :
    Ent V1 10 Tryd.f41 [.agg [I a1, I a2, I a3, I a4, I a5, I a6, I a7, I a8], .agg [I a9, I a10]] E K := by
  obtain ⟨rfl, rfl, hm, hn, rfl⟩ := h0
  obtain ⟨rfl, rfl⟩ := h2
  exact u41a hm hn h1 h3 h
theorem u36 {a1 : Int} {a2 : Int} {a3 : Int} {a4 : Int} {a5 : Int} {a6 : Int} {a7 : Int} {a8 : Int} {a9 : Int} (h0 : ((a1 = 0 ∧ a2 = -1 ∧ a3 = 0 ∧ a4 = 0 ∧ a5 = 0) ∧ a6 = 40 ∧ a9 = 1)) (h1 : (0 ≤ a7 ∧ a7 ≤ 1000000)) (h2 : (0 ≤ a8 ∧ a8 < 20)) (h : ∀ no : Int, Hyp (no = 256 * a7 + 1) → K (.tup [.agg [I 1, I a8, I no, I 1, I 1], .agg [I 1, I 40, I a8, I no, I 0, I 0, I 0, I 0], I 0]) E) :
    Ent V1 10 Tryd.f36 [.agg [I a1, I a2, I a3, I a4, I a5], I a6, I a7, I a8, I a9] E K := by
  obtain ⟨⟨rfl, rfl, rfl, rfl, rfl⟩, rfl, rfl⟩ := h0
  exact u36a h2 h1 h
theorem td_spec {t : Int} : ∀ {rs : List Dn}, rs.Pairwise (fun a b => a.t < b.t) → (∀ y ∈ takeT t rs, y.t < t) ∧ (∀ y ∈ dropT t rs, t ≤ y.t)
  | [], _ => ⟨fun y h => by simp [takeT] at h, fun y h => by simp [dropT] at h⟩
  | r :: rs, h => by
    have hr := List.pairwise_cons.1 h
    by_cases q : r.t < t
    · obtain ⟨h1, h2⟩ := td_spec (t := t) hr.2
      rw [takeT_lt q, dropT_lt q]
      refine ⟨fun y hy => ?_, h2⟩
      rcases List.mem_cons.1 hy with rfl | hy
      · exact q
      · exact h1 y hy
    · obtain ⟨e1, e2⟩ := takeT_ge (t := t) (rs := r :: rs) (.inr ⟨r, rs, rfl, q⟩)
      rw [e1, e2]
      refine ⟨fun y hy => (by simp at hy), fun y hy => ?_⟩
      rcases List.mem_cons.1 hy with rfl | hy
      · omega
      · have := hr.1 y hy
        omega
theorem td_app (t : Int) (rs : List Dn) : takeT t rs ++ dropT t rs = rs := List.takeWhile_append_dropWhile
def conv (ch fr : Int) (z : Dn) : Dn := ⟨z.t, ch, z.sq, fr + 3⟩
theorem fold_mem {ch fr : Int} {x : Dn} : ∀ (xs : List Dn) (q : List Dn × List Dn), (x ∈ (xs.foldl (stepN ch fr) q).1 ++ (xs.foldl (stepN ch fr) q).2 ↔ x ∈ q.1 ++ q.2 ∨ ∃ z ∈ xs, x = conv ch fr z)
  | [], q => by simp
  | z :: zs, q => by
    rw [List.foldl_cons, fold_mem zs (stepN ch fr q z)]
    have e : x ∈ (stepN ch fr q z).1 ++ (stepN ch fr q z).2 ↔ x ∈ q.1 ++ q.2 ∨ x = conv ch fr z := by
      show x ∈ (q.1 ++ takeT z.t q.2 ++ [conv ch fr z]) ++ dropT z.t q.2 ↔ _
      have := td_app z.t q.2
      constructor
      · intro h
        simp only [List.mem_append, List.mem_singleton] at h
        rw [← this]
        simp only [List.mem_append]
        rcases h with ((h | h) | h) | h
        · exact .inl (.inl h)
        · exact .inl (.inr (.inl h))
        · exact .inr h
        · exact .inl (.inr (.inr h))
      · intro h
        rw [← this] at h
        simp only [List.mem_append] at h
        simp only [List.mem_append, List.mem_singleton]
        rcases h with (h | h | h) | h
        · exact .inl (.inl (.inl h))
        · exact .inl (.inl (.inr h))
        · exact .inr h
        · exact .inl (.inr h)
    rw [e]
    constructor
    · rintro ((h | h) | ⟨w, h1, h2⟩)
      · exact .inl h
      · exact .inr ⟨z, by simp, h⟩
      · exact .inr ⟨w, List.mem_cons_of_mem _ h1, h2⟩
    · rintro (h | ⟨w, h1, h2⟩)
      · exact .inl (.inl h)
      · rcases List.mem_cons.1 h1 with rfl | h1
        · exact .inl (.inr h2)
        · exact .inr ⟨w, h1, h2⟩
theorem mem_lrn {ch sq fr : Int} {rs zs : List Dn} {x : Dn} : x ∈ lrn ch sq fr rs zs ↔ x ∈ rs ∨ ∃ z ∈ (⟨ch, 0, sq, 0⟩ : Dn) :: zs, x = conv ch fr z := by
  have := fold_mem (ch := ch) (fr := fr) (x := x) (⟨ch, 0, sq, 0⟩ :: zs) ([], rs)
  simpa [lrn, acc] using this
abbrev SrtD (l : List Dn) : Prop := l.Pairwise fun a b => a.t < b.t
theorem fold_srt {ch fr : Int} : ∀ (xs : List Dn) (q : List Dn × List Dn), SrtD (q.1 ++ q.2) → SrtD xs → (∀ y ∈ q.1, ∀ x ∈ xs, y.t < x.t) → (∀ y ∈ q.2, ∀ x ∈ xs, y.t ≠ x.t) → SrtD ((xs.foldl (stepN ch fr) q).1 ++ (xs.foldl (stepN ch fr) q).2)
  | [], q, h, _, _, _ => h
  | x :: xs, q, h, hx, h1, h2 => by
    rw [List.foldl_cons]
    obtain ⟨p1, p2, p3⟩ := List.pairwise_append.1 h
    obtain ⟨x1, x2⟩ := List.pairwise_cons.1 hx
    obtain ⟨t1, t2⟩ := td_spec (t := x.t) p2
    have hap := td_app x.t q.2
    have sub1 : ∀ y ∈ takeT x.t q.2, y ∈ q.2 := fun y hy => by rw [← hap]; exact List.mem_append_left _ hy
    have sub2 : ∀ y ∈ dropT x.t q.2, y ∈ q.2 := fun y hy => by rw [← hap]; exact List.mem_append_right _ hy
    have t3 : ∀ y ∈ dropT x.t q.2, x.t < y.t := fun y hy => by
      have := t2 y hy
      have := h2 y (sub2 y hy) x (by simp)
      omega
    have p4 : SrtD (takeT x.t q.2 ++ dropT x.t q.2) := by rw [hap]; exact p2
    obtain ⟨p5, p6, p7⟩ := List.pairwise_append.1 p4
    refine fold_srt xs (stepN ch fr q x) ?_ x2 ?_ ?_
    · show SrtD ((q.1 ++ takeT x.t q.2 ++ [conv ch fr x]) ++ dropT x.t q.2)
      refine List.pairwise_append.2 ⟨List.pairwise_append.2 ⟨List.pairwise_append.2 ⟨p1, p5, fun a ha b hb => p3 a ha b (sub1 b hb)⟩, List.pairwise_singleton _ _, fun a ha b hb => ?_⟩, p6, fun a ha b hb => ?_⟩
      · rw [List.mem_singleton] at hb
        subst hb
        show a.t < x.t
        rcases List.mem_append.1 ha with ha | ha
        · exact h1 a ha x (by simp)
        · exact t1 a ha
      · rcases List.mem_append.1 ha with ha | ha
        · rcases List.mem_append.1 ha with ha | ha
          · exact p3 a ha b (sub2 b hb)
          · exact p7 a ha b hb
        · rw [List.mem_singleton] at ha
          subst ha
          exact t3 b hb
    · intro y hy z hz
      have hz' := x1 z hz
      have hy : y ∈ q.1 ++ takeT x.t q.2 ++ [conv ch fr x] := hy
      rcases List.mem_append.1 hy with hy | hy
      · rcases List.mem_append.1 hy with hy | hy
        · exact h1 y hy z (List.mem_cons_of_mem _ hz)
        · have := t1 y hy
          omega
      · rw [List.mem_singleton] at hy
        subst hy
        exact hz'
    · intro y hy z hz
      exact h2 y (sub2 y hy) z (List.mem_cons_of_mem _ hz)
theorem srt_lrn {ch sq fr : Int} {rs zs : List Dn} (h1 : SrtD rs) (h2 : SrtD ((⟨ch, 0, sq, 0⟩ : Dn) :: zs)) (h3 : ∀ y ∈ rs, ∀ x ∈ (⟨ch, 0, sq, 0⟩ : Dn) :: zs, y.t ≠ x.t) : SrtD (lrn ch sq fr rs zs) :=
  fold_srt (ch := ch) (fr := fr) (⟨ch, 0, sq, 0⟩ :: zs) ([], rs) (by simpa using h1) h2 (fun y hy => by simp at hy) h3
theorem srt_len : ∀ (l : List Dn) (a b : Int), SrtD l → (∀ x ∈ l, a ≤ x.t ∧ x.t < b) → a ≤ b → (l.length : Int) ≤ b - a
  | [], a, b, _, _, h => by simp; omega
  | x :: l, a, b, h, h2, h3 => by
    obtain ⟨p1, p2⟩ := List.pairwise_cons.1 h
    have hx := h2 x (by simp)
    have := srt_len l (x.t + 1) b p2 (fun y hy => ⟨by have := p1 y hy; omega, (h2 y (List.mem_cons_of_mem _ hy)).2⟩) (by omega)
    rw [List.length_cons]
    omega
theorem Up.len {l : List Dn} (h : Up l) : l.length ≤ 60 := by
  have := srt_len l 0 60 h.up (fun x hx => (h.ok x hx).t) (by decide)
  omega
structure TI (n i : Nat) (rt : Nat → List Dn) : Prop where
  up : ∀ v, v < n → Up (rt v)
  dv : ∀ v, v < n → ∀ x ∈ rt v, DV x
  nx : ∀ v, v < n → ∀ x ∈ rt v, (v : Int) < x.nx ∧ x.nx ≤ x.t ∧ x.t < (n : Int)
  fo : ∀ v, v < n → ∀ x ∈ rt v, x.t = x.nx ∨ ∃ y ∈ rt x.nx.toNat, y.t = x.t
  lo : ∀ v, v ≤ i → v < n → ∀ x ∈ rt v, (i : Int) < x.nx
  dj : ∀ u v, u ≤ i → v ≤ i → u < n → v < n → u ≠ v → ∀ x ∈ rt u, ∀ y ∈ rt v, x.t ≠ y.t
  cv : ∀ j : Nat, i < j → j < n → ∃ v, v ≤ i ∧ ∃ x ∈ rt v, x.t = (j : Int)
theorem TI.start {n : Nat} (h : 1 ≤ n) : TI n (n - 1) fun _ => [] := ⟨fun _ _ => ⟨List.Pairwise.nil, fun x hx => by simp at hx⟩, fun _ _ x hx => by simp at hx, fun _ _ x hx => by simp at hx, fun _ _ x hx => by simp at hx, fun _ _ _ x hx => by simp at hx, fun _ _ _ _ _ _ _ x hx => by simp at hx, fun j h1 h2 => by omega⟩
theorem Up.tell {l : List Dn} (h : Up l) : Up (l.map tellD) := ⟨by
  rw [List.pairwise_map]
  exact h.up, fun x hx => by
  obtain ⟨y, hy, rfl⟩ := List.mem_map.1 hx
  exact ⟨(h.ok y hy).t, (h.ok y hy).sq⟩⟩
theorem TI.H {n i p : Nat} {rt : Nat → List Dn} (h : TI n i rt) (hi : i < n) (hp : p < i) : H50 (i : Int) 10 (rt p) ((rt i).map tellD) ⟨i, 0, 1, 0⟩ (rt i).length := by
  have gt : ∀ z ∈ (rt i).map tellD, (i : Int) < z.t := fun z hz => by
    obtain ⟨y, hy, rfl⟩ := List.mem_map.1 hz
    have h1 := h.lo i (Nat.le_refl _) hi y hy
    have h2 := h.nx i hi y hy
    show (i : Int) < y.t
    omega
  refine ⟨by simp, gt, fun y hy x hx => ?_, ?_, by decide, by decide⟩
  · rcases List.mem_cons.1 hx with rfl | hx
    · have h1 := h.lo p (by omega) (by omega) y hy
      have h2 := h.nx p (by omega) y hy
      show y.t ≠ (i : Int)
      omega
    · obtain ⟨z, hz, rfl⟩ := List.mem_map.1 hx
      exact h.dj p i (by omega) (Nat.le_refl _) (by omega) hi (by omega) y hy z hz
  · have := (h.up p (by omega)).len
    have := (h.up i hi).len
    omega
def rtS (rt : Nat → List Dn) (i p : Nat) : Nat → List Dn := fun v => if v = p then lrn (i : Int) 1 10 (rt p) ((rt i).map tellD) else rt v
theorem TI.step {n i p : Nat} {rt : Nat → List Dn} (h : TI n i rt) (hi : i < n) (hn : n ≤ 20) (hp : p < i) : TI n (i - 1) (rtS rt i p) := by
  have H := h.H hi hp
  have ne : ∀ v, v ≠ p → rtS rt i p v = rt v := fun v hv => if_neg hv
  have eq : rtS rt i p p = lrn (i : Int) 1 10 (rt p) ((rt i).map tellD) := if_pos rfl
  -- the members of the new list
  have mem : ∀ x ∈ rtS rt i p p, x ∈ rt p ∨ (x.nx = (i : Int) ∧ x.un = 13 ∧ ((x.t = (i : Int) ∧ x.sq = 1) ∨ ∃ y ∈ rt i, x.t = y.t ∧ x.sq = y.sq)) := fun x hx => by
    rw [eq] at hx
    rcases mem_lrn.1 hx with hx | ⟨z, hz, rfl⟩
    · exact .inl hx
    · refine .inr ⟨rfl, rfl, ?_⟩
      rcases List.mem_cons.1 hz with rfl | hz
      · exact .inl ⟨rfl, rfl⟩
      · obtain ⟨y, hy, rfl⟩ := List.mem_map.1 hz
        exact .inr ⟨y, hy, rfl, rfl⟩
  have own : ∃ x ∈ rtS rt i p p, x.t = (i : Int) := ⟨conv i 10 ⟨i, 0, 1, 0⟩, by rw [eq]; exact mem_lrn.2 (.inr ⟨_, by simp, rfl⟩), rfl⟩
  have keep : ∀ x ∈ rt p, x ∈ rtS rt i p p := fun x hx => by rw [eq]; exact mem_lrn.2 (.inl hx)
  have take : ∀ y ∈ rt i, ∃ x ∈ rtS rt i p p, x.t = y.t := fun y hy => ⟨conv i 10 (tellD y), by rw [eq]; exact mem_lrn.2 (.inr ⟨tellD y, by simp; exact .inr ⟨y, hy, rfl⟩, rfl⟩), rfl⟩
  have hnxi : ∀ y ∈ rt i, (i : Int) < y.nx ∧ y.nx ≤ y.t ∧ y.t < (n : Int) := h.nx i hi
  refine ⟨fun v hv => ?_, fun v hv x hx => ?_, fun v hv x hx => ?_, fun v hv x hx => ?_, fun v hv1 hv x hx => ?_, fun u v hu hv hun hvn huv x hx y hy => ?_, fun j hj hjn => ?_⟩
  · by_cases e : v = p
    · subst e
      refine ⟨?_, fun x hx => ?_⟩
      · rw [eq]
        refine srt_lrn (h.up v (by omega)).up ?_ H.ne
        exact List.pairwise_cons.2 ⟨H.gt, (h.up i hi).tell.up⟩
      · rcases mem x hx with hx | ⟨q1, q2, q3 | ⟨y, hy, q3, q4⟩⟩
        · exact (h.up v (by omega)).ok x hx
        · exact ⟨by omega, by omega⟩
        · have := (h.up i hi).ok y hy
          have h1 := this.t
          have h2 := this.sq
          exact ⟨by omega, by omega⟩
    · rw [ne v e]; exact h.up v hv
  · by_cases e : v = p
    · subst e
      rcases mem x hx with hx | ⟨q1, q2, _⟩
      · exact h.dv v hv x hx
      · exact ⟨by omega, by omega⟩
    · rw [ne v e] at hx; exact h.dv v hv x hx
  · by_cases e : v = p
    · subst e
      rcases mem x hx with hx | ⟨q1, q2, q3 | ⟨y, hy, q3, q4⟩⟩
      · exact h.nx v hv x hx
      · omega
      · have := hnxi y hy
        omega
    · rw [ne v e] at hx; exact h.nx v hv x hx
  · by_cases e : v = p
    · subst e
      rcases mem x hx with hx | ⟨q1, q2, q3 | ⟨y, hy, q3, q4⟩⟩
      · have h1 := h.lo v (by omega) hv x hx
        rcases h.fo v hv x hx with h2 | ⟨y, h2, h3⟩
        · exact .inl h2
        · exact .inr ⟨y, by rw [ne _ (by omega)]; exact h2, h3⟩
      · exact .inl (by omega)
      · refine .inr ⟨y, ?_, q3.symm⟩
        rw [q1]
        rw [show (i : Int).toNat = i from rfl, ne i (by omega)]
        exact hy
    · rw [ne v e] at hx
      rcases h.fo v hv x hx with h2 | ⟨y, h2, h3⟩
      · exact .inl h2
      · by_cases g : x.nx.toNat = p
        · exact .inr ⟨y, by rw [g] at h2 ⊢; exact keep y h2, h3⟩
        · exact .inr ⟨y, by rw [ne _ g]; exact h2, h3⟩
  · by_cases e : v = p
    · subst e
      rcases mem x hx with hx | ⟨q1, q2, _⟩
      · have := h.lo v (by omega) hv x hx
        omega
      · omega
    · rw [ne v e] at hx
      have := h.lo v (by omega) hv x hx
      omega
  · have key : ∀ w, w ≤ i - 1 → w < n → w ≠ p → ∀ x ∈ rtS rt i p p, ∀ y ∈ rt w, x.t ≠ y.t := fun w hw hwn hwp x hx y hy => by
      rcases mem x hx with hx | ⟨q1, q2, q3 | ⟨z, hz, q3, q4⟩⟩
      · exact h.dj p w (by omega) (by omega) (by omega) hwn (fun e => hwp e.symm) x hx y hy
      · have := h.lo w (by omega) hwn y hy
        have := h.nx w hwn y hy
        omega
      · rw [q3]
        exact h.dj i w (Nat.le_refl _) (by omega) hi hwn (by omega) z hz y hy
    by_cases eu : u = p
    · subst eu
      rw [ne v (fun e => huv e.symm)] at hy
      exact key v hv hvn (fun e => huv e.symm) x hx y hy
    · rw [ne u eu] at hx
      by_cases ev : v = p
      · subst ev
        exact fun e => key u hu hun eu y hy x hx e.symm
      · rw [ne v ev] at hy
        exact h.dj u v (by omega) (by omega) hun hvn huv x hx y hy
  · by_cases e : j = i
    · subst e
      exact ⟨p, by omega, own⟩
    · obtain ⟨v, h1, x, h2, h3⟩ := h.cv j (by omega) hjn
      by_cases g : v = i
      · subst g
        obtain ⟨y, h4, h5⟩ := take x h2
        exact ⟨p, by omega, y, h4, by rw [h5, h3]⟩
      · by_cases g2 : v = p
        · subst g2
          exact ⟨v, by omega, x, keep x h2, h3⟩
        · exact ⟨v, by omega, x, by rw [ne v g2]; exact h2, h3⟩
theorem TI.hop {n at_ me : Nat} {rt : Nat → List Dn} {x : Dn} (h : TI n 0 rt) (ha : at_ < n) (hx : x ∈ rt at_) (hm : x.t = (me : Int)) : ∃ b : Nat, x.nx = (b : Int) ∧ at_ < b ∧ b < n ∧ (b = me ∨ ∃ y ∈ rt b, y.t = (me : Int)) := by
  have h1 := h.nx at_ ha x hx
  refine ⟨x.nx.toNat, by omega, by omega, by omega, ?_⟩
  rcases h.fo at_ ha x hx with h2 | ⟨y, h2, h3⟩
  · exact .inl (by omega)
  · exact .inr ⟨y, h2, by rw [h3, hm]⟩
structure Rts (E : Mem) (n : Nat) (vs : List Value) (rt : Nat → List Dn) : Prop where
  len : vs.length = n
  get : ∀ v, v < n → ∃ (b : Option Addr) (l c : Nat), vs[v]? = some (.slice b l c) ∧ SL Dw E b l c (rt v)
theorem Rts.start {n : Nat} : Rts E n (zerosV [.slice none 0 0] n) fun _ => [] := ⟨by simp [zerosV], fun v hv => ⟨none, 0, 0, by simp [zerosV, hv], SL.nil⟩⟩
theorem Rts.mono {E' : Mem} {n : Nat} {vs : List Value} {rt : Nat → List Dn} (h : Rts E n vs rt) (k : Mem.le E E') : Rts E' n vs rt := ⟨h.len, fun v hv => by
  obtain ⟨b, l, c, h1, h2⟩ := h.get v hv
  exact ⟨b, l, c, h1, h2.mono okDw k⟩⟩
theorem Rts.step {E' : Mem} {n : Nat} {vs : List Value} {rt rt' : Nat → List Dn} {p l c : Nat} {b : Option Addr} (h : Rts E n vs rt) (k : Mem.le E E') (hp : p < n) (hS : SL Dw E' b l c (rt' p)) (he : ∀ v, v ≠ p → rt' v = rt v) : Rts E' n (layV vs p [.slice b l c]) rt' := by
  have hl := h.len
  have e : layV vs p [.slice b l c] = vs.set p (.slice b l c) := by
    unfold layV
    rw [List.set_eq_take_append_cons_drop, if_pos (by omega)]
    simp
  rw [e]
  refine ⟨by simpa using hl, fun v hv => ?_⟩
  rw [List.getElem?_set]
  by_cases g : p = v
  · subst g
    exact ⟨b, l, c, by simp [hl, hp], hS⟩
  · obtain ⟨b', l', c', h1, h2⟩ := h.get v hv
    rw [if_neg g]
    exact ⟨b', l', c', h1, by rw [he v (fun e => g e.symm)]; exact h2.mono okDw k⟩
end Go.Proofs.YtlpcifknlncljaaDoor.TopOwn
namespace Go.Proofs.YtlpcifknlncljaaDoor.TopOwn
open Go Go.Sx Go.Proofs.YtlpcifknlncljaaDoor Go.RowKit Go.ChangeShapes Go.WideShapes
set_option maxRecDepth 100000
set_option maxHeartbeats 4000000
set_option linter.unusedVariables false
set_option linter.unusedSimpArgs false
variable {E : Mem} {K : SV → Mem → Prop}
def SzS (ss : List SV) : Prop := ∀ (b : Option Addr) (l c : Nat) (r : List SV), ss = L b l c :: r → l ≤ reachBytes
theorem szs_of {P : Program} {H : Type} {enc : TypeId × Value → H} {W : World} {base : Nat} {held : Bool} {T e : TypeId} {Ts Us : List TypeId} {vs : List Value} {ds : List (DataW H)} {ps : List MemPlace} {ss : List SV} (hT : P.underlying T = some (.slice e)) (he : 1 ≤ P.bytesOf e) (hA : DataW.TrodAll enc P W base (fun _ => true) held (T :: Ts) vs ds ps) (hz : (DataW.weightsEach P ((T :: Ts) ++ Us) ds).all (· ≤ reachBytes) = true) (hv : SV.valL ss = some vs) : SzS ss := by
  intro b l c r e1
  subst e1
  obtain ⟨v, vs', d, ds', p, q, rfl, rfl, rfl, ⟨fuel, h1⟩, h2⟩ := trodAll_cons hA
  have hv0 : v = .slice b l c := by
    simp only [SV.valL, SV.val] at hv
    cases hr : SV.valL r with
    | none => rw [hr] at hv; cases hv
    | some x => rw [hr] at hv; simp at hv; exact hv.1.symm
  subst hv0
  rcases DataW.trod_slice hT h1 with ⟨h3, _⟩ | ⟨a, len, cap, elems, rest, m, _, h3, h4, _, hl, hm, hlen, _⟩
  · have h3 : [Value.slice b l c] = [Value.slice none 0 0] := h3
    cases h3
    exact Nat.zero_le _
  · have h3 : [Value.slice b l c] = [Value.slice (some a) len cap] := h3
    cases h3
    cases h4
    simp only [List.cons_append, DataW.weightsEach, DataW.weights, hT, List.all_append, List.all_cons, Bool.and_eq_true, decide_eq_true_eq, List.length_map] at hz
    have h5 := hz.1
    rw [hlen] at h5
    have h6 : l * 1 ≤ (l + rest.length) * P.bytesOf e := Nat.mul_le_mul (Nat.le_add_right _ _) he
    rw [Nat.mul_one] at h6
    exact Nat.le_trans h6 h5
theorem lift_sized {C : Checked} {os : Os} {f : FuncId} {fn : Func} {s : ChangeSpec} {conds : List PathCond} {H : Type} {enc : TypeId × Value → H} {X : World → Prop}
    (hX : ∀ w w' : World, w.heap = w'.heap → X w → X w')
    (own : ownKnob C.prog.godebug = none) (lay : laidOutB C.prog = true) (started : os.Started) (noInit : C.prog.inits.idxOf? f = none) (hfn : C.prog.funcs[f]? = some fn)
    (witness : ∃ (w : World) (tape : Tape) (i : Input), w.os = os ∧ (w.forCall tape i).Shaped C.prog ∧ i.vars = [] ∧ Input.okWide C.prog (w.forCall tape i) .any w.heap.size f i ∧
      ((s.pre enc C.prog fn conds false (w.forCall tape i).memory i.args ∧ X (w.forCall tape i).memory) ∧ sizedMet enc C.prog fn (OpenSpec.ofChange s) false (w.forCall tape i).memory i.args) ∧ ({} : Assume).holds C.prog (lone (Frame.enter C.prog f i.args .normal) [] (w.forCall tape i)))
    {Tb : TypeId} (hres : fn.resultTypes = #[Tb]) (hTb : C.prog.underlying Tb = some .bool) (hread : (fn.params.toList.all fun t => C.prog.readableRec t && decide (t < C.prog.types.size)) = true)
    (hvars : s.vars = []) (hspec : ∀ (ds : List (DataW H)), ds.length = fn.params.toList.length → (s.fn H ds).results = [.lit (.bool true)] ∧ (s.fn H ds).args = ds ∧ (s.fn H ds).vars = [])
    {Tf ef : TypeId} {Ts : List TypeId} (hps : fn.params.toList = Tf :: Ts) (hTf : C.prog.underlying Tf = some (.slice ef)) (hef : 1 ≤ C.prog.bytesOf ef)
    (sem : ∀ W, X W → opnAll C.prog W fn.params.toList fun ss => SzS ss → TabSem C.prog f ss (fun v cs => RowAt W v cs) fun r _ => r = .raw (.bool true)) :
    ReturnsInHanded {} C os f .any (fun w args => (s.pre enc C.prog fn conds false w args ∧ X w) ∧ sizedMet enc C.prog fn (OpenSpec.ofChange s) false w args) (s.post enc C.prog fn false true false false) := by
  refine returnsInHanded_of_change_and (X := fun w _ => X w) (fun w w' _ h => hX w w' h) own started noInit hfn witness ?_
  intro W base args ds gs before hval hW _ hwt hL _
  have hW' := hW
  obtain ⟨p, q, hA, hV, rfl, hfz, hnd⟩ := hW
  rw [hvars] at hV
  obtain ⟨rfl, rfl⟩ := trodVars_none hV
  obtain ⟨ss, h1, h2⟩ := opnAll_sound (b0 := base) hA (fun j t v ht hv => hval j t v (by simpa using ht) (by simpa using hv)) (sem W hL)
  rw [List.append_nil] at hwt
  obtain ⟨hen, vs, h3, h4⟩ := h2 (by rw [hps] at hA hwt; exact szs_of hTf hef hA hwt h1)
  rw [h1] at h3
  obtain rfl := Option.some.inj h3
  refine (h4 W (fun v cs h => h)).mono fun e W' he => ?_
  obtain ⟨v, r, E', rfl, hr, hk, _, _, _, rfl⟩ := he
  simp only [SV.val, Option.some.injEq] at hr
  subst hr
  obtain ⟨e1, e2, e3⟩ := hspec (ds ++ []) (by simpa using trodAll_len hA)
  refine ⟨_, rfl, ds, [], _, [], p, [], hW', ?_, ?_, ?_, hk.below.frame _, fun h => by cases h⟩
  · rw [e1, hres]
    exact trodAll_mk1 (Go.RowKit.shut_bool hTb true)
  · rw [e2, List.append_nil]
    exact trodAll_below lay hk.below hread hA
  · rw [e3, hvars]
    rfl
end Go.Proofs.YtlpcifknlncljaaDoor.TopOwn
