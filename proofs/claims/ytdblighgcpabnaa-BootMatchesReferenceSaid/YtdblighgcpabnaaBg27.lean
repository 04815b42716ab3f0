/- What functions of the program compute; plain lemmas on it. Conditions: none. -/
import Derived.Test.YtdblighgcpabnaaBg18
namespace Go.Proofs.Ytdblighgcpabnaa.BootOwn
open Go Go.Sx
set_option maxRecDepth 100000
set_option maxHeartbeats 4000000
set_option linter.unusedVariables false
set_option linter.unusedSimpArgs false
variable {E : Mem} {K : SV → Mem → Prop}
noncomputable def tabR1 : FuncId → List SV → Mem → (SV → Mem → Prop) → Prop := fun f args E K => match f with
  | 65 => d1 args fun x0 => dS x0 fun b1 l2 c3 => ∃ (zs : List Int), Bs E b1 l2 c3 zs ∧ l2 ≤ 4 ∧ (K (I (numF zs)) E)
  | 34 => d2 args fun x0 x1 => dI x0 fun a1 => dS x1 fun b2 l3 c4 => ∃ (zs : List Int), Bs E b2 l3 c4 zs ∧ 0 ≤ a1 ∧ a1 ≤ 1000000000 ∧ l3 ≤ 4096 ∧ (∀ (b' : Option Addr) (l' c' : Nat) (ys : List Int) (E' : Mem), Mem.le E E' → Hyp (ys = hidH a1 zs) → Bs E' b' l' c' ys → K (L b' l' c') E')
  | _ => False
theorem tabR1_ok : TabOK Try.prog tabR1 := by
  intro f args E K h
  unfold tabR1 at h
  split at h
  · replace h := d1_elim h
    obtain ⟨x0, rfl, h⟩ := h
    replace h := dS_elim h
    obtain ⟨b1, l2, c3, rfl, h⟩ := h
    obtain ⟨zs, g0, g1, h⟩ := h
    exact TabSem.congr (valL_cons rfl rfl) (Ent.sem okJ2 Try.func65 ⟨by kernel_rfl, by kernel_rfl⟩ rfl (s39 g0 g1 h))
  · replace h := d2_elim h
    obtain ⟨x0, x1, rfl, h⟩ := h
    replace h := dI_elim h
    obtain ⟨a1, rfl, h⟩ := h
    replace h := dS_elim h
    obtain ⟨b2, l3, c4, rfl, h⟩ := h
    obtain ⟨zs, g0, g1, g2, g3, h⟩ := h
    exact TabSem.congr (valL_cons rfl (valL_cons rfl rfl)) (Ent.sem okH2 Try.func34 ⟨by kernel_rfl, by kernel_rfl⟩ rfl (q34 g0 g1 g2 g3 h))
  · exact h.elim
noncomputable def R1 : Cx := { P := Try.prog, inl := fun f => List.contains [32] f, tab := tabR1, isB := fun _ => false, tabB := fun _ _ _ _ _ => False, opt := { unroll := 0, carry := [9] }, muts := mutsD }
theorem okR1 : CxOK R1 := CxOK.four tabR1_ok (by kernel_rfl) (okInl (by kernel_rfl)) (fun _ _ _ _ _ h => h.elim)
def sh40 (b1 bH : Option Addr) (l2 c3 cH n cap tot : Nat) (v : Int) (vs : List Value) (i : Nat) (E : Mem) : St := ⟨[some (L b1 l2 c3), none, none, none, none, some (I v), none, some (.slc 0 0 n cap), some (L bH 14 cH), some (I (i : Nat))] ++ List.replicate 44 none, [⟨5, .vals vs, tot, false⟩], E⟩
theorem r40 {b1 bH : Option Addr} {l2 c3 cH n cap tot : Nat} {v : Int} {i : Nat} {E0 : Mem} {zs ys d : List Int} (h0 : Bs E b1 l2 c3 zs) (h1 : l2 = 4224) (HH : Bs E bH 14 cH ys) (hd : d.length = n ∧ n ≤ cap) (db : ∀ z ∈ d, 0 ≤ z ∧ z ≤ 255) (hi : i ≤ 14) (hp : zs.take i = ys.take i) (hE : Mem.le E0 E)
    (bad : ys ≠ zs.take 14 → ∀ E', Mem.le E0 E' → K (.tup [I 0, L none 0 0, B false]) E') (good : ys = zs.take 14 → ∀ (b' : Option Addr) (E' : Mem), Mem.le E0 E' → Bs E' b' n cap d → K (.tup [I v, L b' n cap, B true]) E')
    (ih : i < 14 → zs.take (i + 1) = ys.take (i + 1) → Lp R1 8 Try.f40 [1, 1, 1, 1, 1, 1, 1, 0, 1, 0] 0 (pubK E0 K) (sh40 b1 bH l2 c3 cH n cap tot v (vB d) (i + 1) E)) :
    Rnd R1 8 Try.f40 [1, 1, 1, 1, 1, 1, 1, 0, 1, 0] 0 (pubK E0 K) (sh40 b1 bH l2 c3 cH n cap tot v (vB d) i E) := by
  refine same (by kernel_rfl) (?_ : bif decide ((NI i) < (14 : Int)) then req ((0 : Int) ≤ (NI i) ∧ (NI i) < (NI l2)) ((∃ (cs : List Value), E (VS b1 l2 c3) cs ∧ (cs = [] → False)) ∧ ∃ (n_1 : Int), LoadE R1.P E 5 (VS b1 l2 c3) (Int.toNat (NI i) * 1) (SV.raw (U8 n_1)) ∧ req ((0 : Int) ≤ (NI i) ∧ (NI i) < (14 : Int)) ((∃ (cs : List Value), E (VS bH 14 cH) cs ∧ (cs = [] → False)) ∧ ∃ (n_2 : Int), LoadE R1.P E 5 (VS bH 14 cH) (Int.toNat (NI i) * 1) (SV.raw (U8 n_2)) ∧ bif n_1 != n_2 then Mem.le E0 E ∧ K (SV.tup [SV.raw (Value.int IntKind.i64 0), SV.raw (VS none 0 0), SV.raw (Value.bool false)]) E else Lp R1 8 Try.f40 [1, 1, 1, 1, 1, 1, 1, 0, 1, 0] 0 (pubK E0 K) { fr := some (L b1 l2 c3) :: none :: none :: none :: none :: some (I v) :: none :: some (SV.slc 0 0 n cap) :: some (L bH 14 cH) :: some (I (WI ((NI i) + (1 : Int)))) :: n32 (n8 (n4 [])), bx := [⟨5, .vals (vB d), tot, false⟩], E := E : St })) else ∀ (base : Option Addr) (E' : Mem), Mem.le E E' → WinE E' base (vB d) → Mem.le E0 E' ∧ K (SV.tup [SV.raw (Value.int IntKind.i64 v), SV.raw (VS (Option.map (fun (x : Addr) => Addr.add x 0) base) n cap), SV.raw (Value.bool true)]) E')
  delta WI NI U8 VS n4 n8 n32
  have z0 := h0.2.1
  have z1 := HH.2.1
  refine condC (fun g => ?_) (fun g base E' k w => ?_)
  · have g : i < 14 := by simp at g; omega
    refine req_intro (by omega) ⟨h0.ne (i := i) (by omega), zs.getD i 0, h0.load rfl (i := i) (by omega), req_intro (by omega) ⟨HH.ne (i := i) (by omega), ys.getD i 0, HH.load (i := i) rfl (by omega), condC (fun q => ⟨hE, bad (fun e => ?_) E hE⟩) (fun q => ?_)⟩⟩
    · have q : ¬ zs.getD i 0 = ys.getD i 0 := by simpa using q
      refine q ?_
      rw [e, List.getD_eq_getElem?_getD, List.getD_eq_getElem?_getD, List.getElem?_take_of_lt g]
    · have q : zs.getD i 0 = ys.getD i 0 := by simpa using q
      rw [wrap_i64 (by omega), show (i : Int) + 1 = ((i + 1 : Nat) : Int) by simp]
      exact Lp_re [some 0] (ih g (by rw [take_getD (by omega), take_getD (by omega), hp, q])) (wkG (Mem.le_refl _))
  · have g : i = 14 := by simp at g; omega
    subst g
    have kk := Mem.le_trans hE k
    refine ⟨kk, good ?_ _ E' kk (Bs.win w rfl hd.1 hd.2 db)⟩
    rw [hp, List.take_of_length_le (by omega)]
theorem lp40 {b1 bH : Option Addr} {l2 c3 cH n cap tot : Nat} {v : Int} {E0 : Mem} {zs ys d : List Int} (h0 : Bs E b1 l2 c3 zs) (h1 : l2 = 4224) (HH : Bs E bH 14 cH ys) (hd : d.length = n ∧ n ≤ cap) (db : ∀ z ∈ d, 0 ≤ z ∧ z ≤ 255) (hE : Mem.le E0 E)
    (bad : ys ≠ zs.take 14 → ∀ E', Mem.le E0 E' → K (.tup [I 0, L none 0 0, B false]) E') (good : ys = zs.take 14 → ∀ (b' : Option Addr) (E' : Mem), Mem.le E0 E' → Bs E' b' n cap d → K (.tup [I v, L b' n cap, B true]) E') :
    Lp R1 8 Try.f40 [1, 1, 1, 1, 1, 1, 1, 0, 1, 0] 0 (pubK E0 K) (sh40 b1 bH l2 c3 cH n cap tot v (vB d) 0 E) :=
  Lp_ind okR1 (fun x : {i : Nat // i ≤ 14 ∧ zs.take i = ys.take i} => sh40 b1 bH l2 c3 cH n cap tot v (vB d) x.1 E) (fun x => 14 - x.1) (fun x ih => r40 h0 h1 HH hd db x.2.1 x.2.2 hE bad good fun g e => ih ⟨x.1 + 1, by omega, e⟩ (by show 14 - (_ + 1) < 14 - _; omega)) ⟨0, by decide, rfl⟩
theorem q40 {b1 : Option Addr} {l2 : Nat} {c3 : Nat} {zs : List Int} (h0 : Bs E b1 l2 c3 zs) (h1 : l2 = 4224) (h : ∀ (v : Int) (d : List Int) (b' : Option Addr) (l' c' : Nat) (E' : Mem), Mem.le E E' → Hyp (hidP zs = (v, d)) → Bs E' b' l' c' d → K (.tup [I v, L b' l' c', B (decide (v ≠ 0))]) E') :
    Ent R1 8 Try.f40 [L b1 l2 c3] E K := by
  refine same (by kernel_rfl) (?_ : req (l2 ≤ c3) (req ((0 : Int) ≤ (4 : Int) ∧ (4 : Int) ≤ (NI (toN none c3))) (∀ (base' : Option Addr) (E' : Mem), Mem.le E E' → (∀ (cs : List Value), E (VS b1 l2 c3) cs → E' (VS base' 4 (toN none c3 - 0)) (List.take 4 (List.drop 0 cs))) → Option.isNone base' = Option.isNone b1 → ∃ (zs : List Int), Bs E' base' 4 (toN none c3 - 0) zs ∧ 4 ≤ 4 ∧ Mem.le E' E' ∧ req (l2 ≤ c3) (req ((0 : Int) ≤ (6 : Int) ∧ (6 : Int) ≤ (NI (toN none c3))) (∀ (base'_1 : Option Addr) (E'_1 : Mem), Mem.le E' E'_1 → (∀ (cs : List Value), E' (VS b1 l2 c3) cs → E'_1 (VS base'_1 2 (toN none c3 - 4)) (List.take 2 (List.drop 4 cs))) → Option.isNone base'_1 = Option.isNone b1 → ∃ (zs_1 : List Int), Bs E'_1 base'_1 2 (toN none c3 - 4) zs_1 ∧ 2 ≤ 4 ∧ Mem.le E'_1 E'_1 ∧ req ((0 : Int) ≤ (14 : Int) ∧ (14 : Int) < (NI l2)) ((∃ (cs : List Value), E'_1 (VS b1 l2 c3) cs ∧ (cs = [] → False)) ∧ ∃ (n : Int), LoadE R1.P E'_1 5 (VS b1 l2 c3) 14 (SV.raw (U8 n)) ∧ bif n != (80 : Int) then Mem.le E E'_1 ∧ K (SV.tup [SV.raw (Value.int IntKind.i64 0), SV.raw (VS none 0 0), SV.raw (Value.bool false)]) E'_1 else bif bif false then true else decide (numF zs_1 > (4096 : Int)) then Mem.le E E'_1 ∧ K (SV.tup [SV.raw (Value.int IntKind.i64 0), SV.raw (VS none 0 0), SV.raw (Value.bool false)]) E'_1 else req (l2 ≤ c3) (req ((0 : Int) ≤ WI ((32 : Int) + numF zs_1) ∧ WI ((32 : Int) + numF zs_1) ≤ (NI (toN none c3))) (req ((0 : Int) ≤ (32 : Int) ∧ (32 : Int) ≤ (NI (toN (some (WI ((32 : Int) + numF zs_1))) l2))) (∀ (base'_2 : Option Addr) (E' : Mem), Mem.le E'_1 E' → (∀ (cs : List Value), E'_1 (VS b1 l2 c3) cs → E' (VS base'_2 (toN (some (WI ((32 : Int) + numF zs_1))) l2 - 32) (toN none c3 - 32)) (List.take ((toN (some (WI ((32 : Int) + numF zs_1))) l2 - 32) * 1) (List.drop 32 cs))) → Option.isNone base'_2 = Option.isNone b1 → ∃ (cs : List Value), (cs = [] ∨ E' (VS base'_2 (toN (some (WI ((32 : Int) + numF zs_1))) l2 - 32) (toN none c3 - 32)) cs) ∧ (toN (some (WI ((32 : Int) + numF zs_1))) l2 - 32) * 1 ≤ List.length cs ∧ (∀ (x : Value), List.Mem x cs → Value.oneCell' x = true) ∧ 0 ≤ 0 ∧ 0 ≤ 0 ∧ 0 ≤ 0 ∧ req ((0 + (toN (some (WI ((32 : Int) + numF zs_1))) l2 - 32)) * 1 ≤ 140737488355328) (∀ (cap' tot' : Nat), 0 + (toN (some (WI ((32 : Int) + numF zs_1))) l2 - 32) ≤ cap' → cap' * 1 ≤ tot' → bif decide (numF zs ≥ (1 : Int)) then bif bif true then decide (numF zs ≤ (1000000000 : Int)) else false then bif !bif true then decide ((NI (0 + (toN (some (WI ((32 : Int) + numF zs_1))) l2 - (32 : Nat)))) ≤ (4096 : Int)) else false then Mem.le E E' ∧ K (SV.tup [SV.raw (Value.int IntKind.i64 0), SV.raw (VS none 0 0), SV.raw (Value.bool false)]) E' else ∀ (base : Option Addr) (E'_2 : Mem), Mem.le E' E'_2 → WinE E'_2 base ([] ++ List.take ((toN (some (WI ((32 : Int) + numF zs_1))) l2 - (32 : Nat)) * 1) cs) → ∃ (zs_2 : List Int), Bs E'_2 (Option.map (fun (x : Addr) => Addr.add x 0) base) (0 + (toN (some (WI ((32 : Int) + numF zs_1))) l2 - (32 : Nat))) cap' zs_2 ∧ (0 : Int) ≤ numF zs ∧ numF zs ≤ (1000000000 : Int) ∧ 0 + (toN (some (WI ((32 : Int) + numF zs_1))) l2 - (32 : Nat)) ≤ (4096 : Nat) ∧ ∀ (b' : Option Addr) (l' c' : Nat) (ys : List Int) (E' : Mem), Mem.le E'_2 E' → Hyp (ys = hidH (numF zs) zs_2) → Bs E' b' l' c' ys → Lp R1 8 Try.f40 [(1 : Nat), (1 : Nat), (1 : Nat), (1 : Nat), (1 : Nat), (1 : Nat), (1 : Nat), (0 : Nat), (1 : Nat), (0 : Nat)] (0 : Nat) (pubK E K) { fr := some (L b1 l2 c3) :: none :: none :: none :: none :: some (I (numF zs)) :: some (I (numF zs_1)) :: some (SV.slc 1 0 ((0 : Nat) + (toN (some (WI ((32 : Int) + numF zs_1))) l2 - (32 : Nat))) cap') :: some (L b' l' c') :: some (I 0) :: some (L b1 l2 c3) :: some (L base' 4 (toN none c3 - (0 : Nat))) :: some (I (numF zs)) :: some (L b1 l2 c3) :: some (L base'_1 2 (toN none c3 - (4 : Nat))) :: some (I (numF zs_1)) :: some (L b1 l2 c3) :: some (SV.rp (VS b1 l2 c3) 14) :: some (SV.raw (U8 n)) :: some (B (n != (80 : Int))) :: some (B false) :: some (I (numF zs_1)) :: some (B (decide (numF zs_1 > (4096 : Int)))) :: some (B (bif false then true else decide (numF zs_1 > (4096 : Int)))) :: some (SV.slc 0 0 0 0) :: some (L b1 l2 c3) :: some (I (numF zs_1)) :: some (I (WI ((32 : Int) + numF zs_1))) :: some (L base'_2 (toN (some (WI ((32 : Int) + numF zs_1))) l2 - (32 : Nat)) (toN none c3 - (32 : Nat))) :: some (SV.slc 1 0 ((0 : Nat) + (toN (some (WI ((32 : Int) + numF zs_1))) l2 - (32 : Nat))) cap') :: some (I (numF zs)) :: some (SV.slc 1 0 ((0 : Nat) + (toN (some (WI ((32 : Int) + numF zs_1))) l2 - (32 : Nat))) cap') :: some (B (bif true then decide ((NI ((0 : Nat) + (toN (some (WI ((32 : Int) + numF zs_1))) l2 - (32 : Nat)))) ≤ (4096 : Int)) else false)) :: some (B !bif true then decide ((NI ((0 : Nat) + (toN (some (WI ((32 : Int) + numF zs_1))) l2 - (32 : Nat)))) ≤ (4096 : Int)) else false) :: some (I (numF zs)) :: some (SV.slc 1 0 ((0 : Nat) + (toN (some (WI ((32 : Int) + numF zs_1))) l2 - (32 : Nat))) cap') :: some (L b' l' c') :: n16 (none :: []), bx := [⟨(5 : Nat), Row.lst [], (0 : Nat), false⟩, ⟨(5 : Nat), Row.vals ([] ++ List.take ((toN (some (WI ((32 : Int) + numF zs_1))) l2 - (32 : Nat)) * (1 : Nat)) cs), tot', false⟩], E := E' : St } else Mem.le E E' ∧ K (SV.tup [SV.raw (Value.int IntKind.i64 0), SV.raw (VS none 0 0), SV.raw (Value.bool false)]) E' else Mem.le E E' ∧ K (SV.tup [SV.raw (Value.int IntKind.i64 0), SV.raw (VS none 0 0), SV.raw (Value.bool false)]) E'))))))))))
  delta WI NI U8 VS n16
  have hl := h0.2.1
  have hb := h0.2.2.2.1
  have hc := h0.2.2.1
  have hN : ∀ k, numF ((zs.drop k).take 2) = (((numF ((zs.drop k).take 2)).toNat : Nat) : Int) ∧ (numF ((zs.drop k).take 2)).toNat < 65536 := fun k => by
    obtain ⟨b1, b2⟩ := numF_bd (zs := (zs.drop k).take 2) (fun z hz => hb z (List.drop_subset _ _ (List.take_subset _ _ hz)))
    have hk : ((zs.drop k).take 2).length ≤ 2 := by rw [List.length_take]; omega
    have : (256 : Int) ^ ((zs.drop k).take 2).length ≤ 65536 := by
      have : ∀ m : Nat, m ≤ 2 → (256 : Int) ^ m ≤ 65536 := by decide
      exact this _ hk
    omega
  obtain ⟨n1, n2⟩ := hN 4
  have pb : hidP zs = progB zs := hidP_eq zs
  unfold progB at pb
  have none0 : ∀ E', Mem.le E E' → hidP zs = (0, []) → K (.tup [I 0, L none 0 0, B false]) E' := fun E' k e => by
    have := h 0 [] none 0 0 E' k e (Bs.nil _)
    simpa using this
  simp only [toN]
  refine req_intro hc (req_intro (by omega) (fun bA EA kA fA nA => ⟨zs.take 4, ?_, by decide, Mem.le_refl _, req_intro hc (req_intro (by omega) (fun bB EB kB fB nB => ⟨(zs.drop 4).take 2, Bs.cut (lo := 4) (hi := 6) (h0.mono kA) fB nB (by decide) (by omega), by decide, Mem.le_refl _, ?_⟩))⟩))
  · have := Bs.cut (lo := 0) (hi := 4) h0 fA nA (by decide) (by omega)
    rwa [List.drop_zero] at this
  have kb : Mem.le E EB := Mem.le_trans kA kB
  refine req_intro (by omega) ⟨(h0.mono kb).ne (i := 14) (by omega), zs.getD 14 0, (h0.mono kb).load rfl (i := 14) (by omega), ?_⟩
  refine condC (fun q => ⟨kb, ?_⟩) (fun q => condC (fun q2 => ⟨kb, ?_⟩) (fun q2 => ?_))
  · have q : zs.getD 14 0 ≠ 80 := by simpa using q
    rw [if_pos (.inl q)] at pb
    exact none0 EB kb pb
  · have q2 : numF ((zs.drop 4).take 2) > 4096 := by simpa using q2
    rw [if_pos (.inr (by omega))] at pb
    exact none0 EB kb pb
  have q : zs.getD 14 0 = 80 := by simpa using q
  have q2 : numF ((zs.drop 4).take 2) ≤ 4096 := by simpa using q2
  rw [if_neg (by omega)] at pb
  generalize hn : (numF ((zs.drop 4).take 2)).toNat = n at *
  rw [n1, wrap_i64 (x := 32 + (n : Int)) (by omega), show (32 : Int) + (n : Int) = ((32 + n : Nat) : Int) by omega]
  have en : 32 + n - 32 = n := by omega
  simp only [Int.toNat_natCast, en]
  refine req_intro hc (req_intro (by omega) (req_intro (by omega) (fun bC EC kC fC nC => ?_)))
  have kc : Mem.le E EC := Mem.le_trans kb kC
  have hD : Bs EC bC n (c3 - 32) ((zs.drop 32).take n) := by
    have := Bs.cut (lo := 32) (hi := 32 + n) (h0.mono kb) (by rw [en]; exact fC) nC (by omega) (by omega)
    rwa [en] at this
  have ld := hD.2.1
  obtain ⟨t1, t2, t3⟩ := hD.src
  have bad : ¬ (1 ≤ numF (zs.take 4) ∧ numF (zs.take 4) ≤ 1000000000) → Mem.le E EC ∧ K (.tup [I 0, L none 0 0, B false]) EC := fun w => by
    rw [if_pos (.inl w)] at pb
    exact ⟨kc, none0 EC kc pb⟩
  refine ⟨_, t1, t2, t3, Nat.le_refl _, Nat.le_refl _, Nat.le_refl _, req_intro (by omega) (fun cap tot c1 c2 => ?_)⟩
  refine condC (fun w1 => condC (fun w2 => condC (fun w3 => ?_) (fun w3 => ?_)) (fun w2 => bad ?_)) (fun w1 => bad ?_)
  · simp at w3; omega
  · have w1 : 1 ≤ numF (zs.take 4) := by simpa using w1
    have w2 : numF (zs.take 4) ≤ 1000000000 := by simpa using w2
    intro base ED kD wD
    have ev : [] ++ List.take (n * 1) (((zs.drop 32).take n).map (Value.int .u8)) = vB ((zs.drop 32).take n) := by rw [List.nil_append, List.take_of_length_le (by rw [List.length_map]; omega)]
    rw [ev] at wD
    refine ⟨(zs.drop 32).take n, Bs.win wD rfl (by omega) c1 hD.2.2.2.1, by omega, w2, by omega, fun bH lH cH yH EH kH eH HH => ?_⟩
    have kh : Mem.le E EH := Mem.le_trans kc (Mem.le_trans kD kH)
    have eH : yH = hidH (numF (zs.take 4)) ((zs.drop 32).take n) := eH
    rw [hidH_eq] at eH
    have l14 : lH = 14 := by rw [← HH.2.1, eH, hdrF_len]
    subst l14
    rw [ev]
    refine Lp_re [some 1] (lp40 (n := 0 + n) (cap := cap) (tot := tot) (v := numF (zs.take 4)) (d := (zs.drop 32).take n) (h0.mono kh) h1 HH ⟨by omega, c1⟩ hD.2.2.2.1 kh (fun w E' k => ?_) (fun w b' E' k B' => ?_)) (wkG (Mem.le_refl _))
    · rw [if_pos (.inr (by rw [← eH]; exact w))] at pb
      exact none0 E' k pb
    · rw [if_neg (by rw [← eH, w]; simp; omega)] at pb
      have := h _ _ _ _ _ E' k pb B'
      rw [decide_eq_true (by omega)] at this
      exact this
  · simp at w2; omega
  · simp at w1; omega
noncomputable def tabR2 : FuncId → List SV → Mem → (SV → Mem → Prop) → Prop := fun f args E K => match f with
  | 40 => d1 args fun x0 => dS x0 fun b1 l2 c3 => ∃ (zs : List Int), Bs E b1 l2 c3 zs ∧ l2 = 4224 ∧ (∀ (v : Int) (d : List Int) (b' : Option Addr) (l' c' : Nat) (E' : Mem), Mem.le E E' → Hyp (hidP zs = (v, d)) → Bs E' b' l' c' d → K (.tup [I v, L b' l' c', B (decide (v ≠ 0))]) E')
  | _ => False
theorem tabR2_ok : TabOK Try.prog tabR2 := by
  intro f args E K h
  unfold tabR2 at h
  split at h
  · replace h := d1_elim h
    obtain ⟨x0, rfl, h⟩ := h
    replace h := dS_elim h
    obtain ⟨b1, l2, c3, rfl, h⟩ := h
    obtain ⟨zs, g0, g1, h⟩ := h
    exact TabSem.congr (valL_cons rfl rfl) (Ent.sem okR1 Try.func40 ⟨by kernel_rfl, by kernel_rfl⟩ rfl (q40 g0 g1 h))
  · exact h.elim
noncomputable def R2 : Cx := { P := Try.prog, inl := fun f => List.contains [] f, tab := tabR2, isB := fun _ => false, tabB := fun _ _ _ _ _ => False, opt := { unroll := 0, carry := [] }, muts := mutsD }
theorem okR2 : CxOK R2 := CxOK.four tabR2_ok (by kernel_rfl) (okInl (by kernel_rfl)) (fun _ _ _ _ _ h => h.elim)
theorem cls_ver {b : List Int} {a x : Int} (h : classB b = (a, x)) (ha : ¬ a < 0) : x = (progB b).1 := by
  unfold classB at h
  split at h
  · cases h; exact absurd (by decide) ha
  · split at h
    · cases h; rfl
    · split at h
      · cases h; rfl
      · cases h; rfl
theorem q64 {b1 : Option Addr} {l2 : Nat} {c3 : Nat} {zs : List Int} (h0 : Bs E b1 l2 c3 zs) (h1 : l2 = 4224) (h : ∀ (a x : Int) (E' : Mem), Mem.le E E' → Hyp (hidC zs = (a, x)) → K (I a) E') :
    Ent R2 8 Try.f64 [L b1 l2 c3] E K := by
  refine same (by kernel_rfl) (?_ : ∃ (zs : List Int), Bs E b1 l2 c3 zs ∧ l2 = 4224 ∧ ∀ (v : Int) (d : List Int) (b' : Option Addr) (l' c' : Nat) (E' : Mem), Mem.le E E' → Hyp (hidP zs = (v, d)) → Bs E' b' l' c' d → Mem.le E E' ∧ bif !decide (v ≠ (0 : Int)) then Mem.le E E' ∧ K (SV.raw (Value.int IntKind.i64 (-1 : Int))) E' else req ((0 : Int) ≤ (17 : Int) ∧ (17 : Int) < (NI l2)) ((∃ (cs : List Value), E' (VS b1 l2 c3) cs ∧ (cs = [] → False)) ∧ ∃ (n : Int), LoadE R2.P E' 5 (VS b1 l2 c3) 17 (SV.raw (U8 n)) ∧ bif n == (0 : Int) then Mem.le E E' ∧ K (SV.raw (Value.int IntKind.i64 0)) E' else req ((0 : Int) ≤ (15 : Int) ∧ (15 : Int) < (NI l2)) ((∃ (cs : List Value), E' (VS b1 l2 c3) cs ∧ (cs = [] → False)) ∧ ∃ (n : Int), LoadE R2.P E' 5 (VS b1 l2 c3) 15 (SV.raw (U8 n)) ∧ bif n == (0 : Int) then Mem.le E E' ∧ K (SV.raw (Value.int IntKind.i64 2)) E' else Mem.le E E' ∧ K (SV.raw (Value.int IntKind.i64 1)) E')))
  delta NI U8 VS
  refine ⟨zs, h0, h1, fun v d b' l' c' E' k r B => ⟨k, ?_⟩⟩
  have r : hidP zs = (v, d) := r
  rw [hidP_eq] at r
  have pc := hidC_eq zs
  unfold classB at pc
  rw [r] at pc
  simp only at pc
  have B' := h0.mono k
  refine condC (fun q => ⟨k, h (-1) 0 E' k ?_⟩) (fun q => req_intro (by omega) ⟨B'.ne (i := 17) (by omega), zs.getD 17 0, B'.load rfl (i := 17) (by omega), condC (fun q2 => ⟨k, h 0 v E' k ?_⟩) (fun q2 => req_intro (by omega) ⟨B'.ne (i := 15) (by omega), zs.getD 15 0, B'.load rfl (i := 15) (by omega), condC (fun q3 => ⟨k, h 2 v E' k ?_⟩) (fun q3 => ⟨k, h 1 v E' k ?_⟩)⟩)⟩)
  · have q : v = 0 := by simpa using q
    rw [if_pos q] at pc; exact pc
  · have q : v ≠ 0 := by simpa using q
    have q2 : zs.getD 17 0 = 0 := by simpa using q2
    rw [if_neg q, if_pos q2] at pc; exact pc
  · have q : v ≠ 0 := by simpa using q
    have q2 : zs.getD 17 0 ≠ 0 := by simpa using q2
    have q3 : zs.getD 15 0 = 0 := by simpa using q3
    rw [if_neg q, if_neg q2, if_pos q3] at pc; exact pc
  · have q : v ≠ 0 := by simpa using q
    have q2 : zs.getD 17 0 ≠ 0 := by simpa using q2
    have q3 : zs.getD 15 0 ≠ 0 := by simpa using q3
    rw [if_neg q, if_neg q2, if_neg q3] at pc; exact pc
noncomputable def tabR3 : FuncId → List SV → Mem → (SV → Mem → Prop) → Prop := fun f args E K => match f with
  | 40 => d1 args fun x0 => dS x0 fun b1 l2 c3 => ∃ (zs : List Int), Bs E b1 l2 c3 zs ∧ l2 = 4224 ∧ (∀ (v : Int) (d : List Int) (b' : Option Addr) (l' c' : Nat) (E' : Mem), Mem.le E E' → Hyp (hidP zs = (v, d)) → Bs E' b' l' c' d → K (.tup [I v, L b' l' c', B (decide (v ≠ 0))]) E')
  | 64 => d1 args fun x0 => dS x0 fun b1 l2 c3 => ∃ (zs : List Int), Bs E b1 l2 c3 zs ∧ l2 = 4224 ∧ (∀ (a x : Int) (E' : Mem), Mem.le E E' → Hyp (hidC zs = (a, x)) → K (I a) E')
  | _ => False
theorem tabR3_ok : TabOK Try.prog tabR3 := by
  intro f args E K h
  unfold tabR3 at h
  split at h
  · replace h := d1_elim h
    obtain ⟨x0, rfl, h⟩ := h
    replace h := dS_elim h
    obtain ⟨b1, l2, c3, rfl, h⟩ := h
    obtain ⟨zs, g0, g1, h⟩ := h
    exact TabSem.congr (valL_cons rfl rfl) (Ent.sem okR1 Try.func40 ⟨by kernel_rfl, by kernel_rfl⟩ rfl (q40 g0 g1 h))
  · replace h := d1_elim h
    obtain ⟨x0, rfl, h⟩ := h
    replace h := dS_elim h
    obtain ⟨b1, l2, c3, rfl, h⟩ := h
    obtain ⟨zs, g0, g1, h⟩ := h
    exact TabSem.congr (valL_cons rfl rfl) (Ent.sem okR2 Try.func64 ⟨by kernel_rfl, by kernel_rfl⟩ rfl (q64 g0 g1 h))
  · exact h.elim
noncomputable def R3 : Cx := { P := Try.prog, inl := fun f => List.contains [41] f, tab := tabR3, isB := fun _ => false, tabB := fun _ _ _ _ _ => False, opt := { unroll := 0, carry := [] }, muts := mutsD }
theorem okR3 : CxOK R3 := CxOK.four tabR3_ok (by kernel_rfl) (okInl (by kernel_rfl)) (fun _ _ _ _ _ h => h.elim)
theorem q39 {a1 : Int} {b2 : Option Addr} {l3 : Nat} {c4 : Nat} {zs : List Int} (h0 : Bs E b2 l3 c4 zs) (h1 : l3 = 8448) (h : ((∀ E' : Mem, Mem.le E E' → Hyp (selF zs = -1) → K (I (-1)) E') ∧ (∀ E' : Mem, Mem.le E E' → Hyp (selF zs = 0) → K (I 0) E') ∧ (∀ E' : Mem, Mem.le E E' → Hyp (selF zs = 1) → K (I 1) E'))) :
    Ent R3 8 Try.f39 [.agg [I a1, L b2 l3 c4]] E K := by
  refine same (by kernel_rfl) (?_ : req (l3 ≤ c4) (req ((0 : Int) ≤ (4224 : Int) ∧ (4224 : Int) ≤ (NI (toN none c4))) (∀ (base' : Option Addr) (E' : Mem), Mem.le E E' → (∀ (cs : List Value), E (VS b2 l3 c4) cs → E' (VS base' 4224 (toN none c4 - 0)) (List.take 4224 (List.drop 0 cs))) → Option.isNone base' = Option.isNone b2 → Mem.le E E' ∧ ∃ (zs : List Int), Bs E' base' 4224 (toN none c4 - 0) zs ∧ 4224 = 4224 ∧ ∀ (a x : Int) (E'_1 : Mem), Mem.le E' E'_1 → Hyp (hidC zs = (a, x)) → Mem.le E' E'_1 ∧ req (l3 ≤ c4) (req ((0 : Int) ≤ (8448 : Int) ∧ (8448 : Int) ≤ (NI (toN none c4))) (∀ (base' : Option Addr) (E' : Mem), Mem.le E'_1 E' → (∀ (cs : List Value), E'_1 (VS b2 l3 c4) cs → E' (VS base' 4224 (toN none c4 - 4224)) (List.take 4224 (List.drop 4224 cs))) → Option.isNone base' = Option.isNone b2 → Mem.le E'_1 E' ∧ ∃ (zs : List Int), Bs E' base' 4224 (toN none c4 - 4224) zs ∧ 4224 = 4224 ∧ ∀ (a_6 x : Int) (E'_2 : Mem), Mem.le E' E'_2 → Hyp (hidC zs = (a_6, x)) → Mem.le E' E'_2 ∧ bif decide (a < (0 : Int)) then bif bif true then decide (a_6 < (0 : Int)) else false then Mem.le E E'_2 ∧ K (SV.raw (Value.int IntKind.i64 (-1 : Int))) E'_2 else bif a != a_6 then bif decide (a > a_6) then Mem.le E E'_2 ∧ K (SV.raw (Value.int IntKind.i64 0)) E'_2 else Mem.le E E'_2 ∧ K (SV.raw (Value.int IntKind.i64 1)) E'_2 else req (l3 ≤ c4) (req ((0 : Int) ≤ (4224 : Int) ∧ (4224 : Int) ≤ (NI (toN none c4))) (∀ (base' : Option Addr) (E' : Mem), Mem.le E'_2 E' → (∀ (cs : List Value), E'_2 (VS b2 l3 c4) cs → E' (VS base' 4224 (toN none c4 - 0)) (List.take 4224 (List.drop 0 cs))) → Option.isNone base' = Option.isNone b2 → Mem.le E'_2 E' ∧ ∃ (zs : List Int), Bs E' base' 4224 (toN none c4 - 0) zs ∧ 4224 = 4224 ∧ ∀ (v : Int) (d : List Int) (b' : Option Addr) (l' c' : Nat) (E'_3 : Mem), Mem.le E' E'_3 → Hyp (hidP zs = (v, d)) → Bs E'_3 b' l' c' d → Mem.le E' E'_3 ∧ req (l3 ≤ c4) (req ((0 : Int) ≤ (8448 : Int) ∧ (8448 : Int) ≤ (NI (toN none c4))) (∀ (base' : Option Addr) (E' : Mem), Mem.le E'_3 E' → (∀ (cs : List Value), E'_3 (VS b2 l3 c4) cs → E' (VS base' 4224 (toN none c4 - (4224 : Nat))) (List.take 4224 (List.drop 4224 cs))) → Option.isNone base' = Option.isNone b2 → Mem.le E'_3 E' ∧ ∃ (zs : List Int), Bs E' base' 4224 (toN none c4 - (4224 : Nat)) zs ∧ (4224 : Nat) = (4224 : Nat) ∧ ∀ (v_1 : Int) (d : List Int) (b' : Option Addr) (l' c' : Nat) (E'_4 : Mem), Mem.le E' E'_4 → Hyp (hidP zs = (v_1, d)) → Bs E'_4 b' l' c' d → Mem.le E' E'_4 ∧ bif decide (v_1 > v) then Mem.le E E'_4 ∧ K (SV.raw (Value.int IntKind.i64 1)) E'_4 else Mem.le E E'_4 ∧ K (SV.raw (Value.int IntKind.i64 0)) E'_4)))) else bif a != a_6 then bif decide (a > a_6) then Mem.le E E'_2 ∧ K (SV.raw (Value.int IntKind.i64 0)) E'_2 else Mem.le E E'_2 ∧ K (SV.raw (Value.int IntKind.i64 1)) E'_2 else req (l3 ≤ c4) (req ((0 : Int) ≤ (4224 : Int) ∧ (4224 : Int) ≤ (NI (toN none c4))) (∀ (base' : Option Addr) (E' : Mem), Mem.le E'_2 E' → (∀ (cs : List Value), E'_2 (VS b2 l3 c4) cs → E' (VS base' 4224 (toN none c4 - 0)) (List.take 4224 (List.drop 0 cs))) → Option.isNone base' = Option.isNone b2 → Mem.le E'_2 E' ∧ ∃ (zs : List Int), Bs E' base' 4224 (toN none c4 - 0) zs ∧ 4224 = 4224 ∧ ∀ (v : Int) (d : List Int) (b' : Option Addr) (l' c' : Nat) (E'_3 : Mem), Mem.le E' E'_3 → Hyp (hidP zs = (v, d)) → Bs E'_3 b' l' c' d → Mem.le E' E'_3 ∧ req (l3 ≤ c4) (req ((0 : Int) ≤ (8448 : Int) ∧ (8448 : Int) ≤ (NI (toN none c4))) (∀ (base' : Option Addr) (E' : Mem), Mem.le E'_3 E' → (∀ (cs : List Value), E'_3 (VS b2 l3 c4) cs → E' (VS base' 4224 (toN none c4 - (4224 : Nat))) (List.take 4224 (List.drop 4224 cs))) → Option.isNone base' = Option.isNone b2 → Mem.le E'_3 E' ∧ ∃ (zs : List Int), Bs E' base' 4224 (toN none c4 - (4224 : Nat)) zs ∧ (4224 : Nat) = (4224 : Nat) ∧ ∀ (v_1 : Int) (d : List Int) (b' : Option Addr) (l' c' : Nat) (E'_4 : Mem), Mem.le E' E'_4 → Hyp (hidP zs = (v_1, d)) → Bs E'_4 b' l' c' d → Mem.le E' E'_4 ∧ bif decide (v_1 > v) then Mem.le E E'_4 ∧ K (SV.raw (Value.int IntKind.i64 1)) E'_4 else Mem.le E E'_4 ∧ K (SV.raw (Value.int IntKind.i64 0)) E'_4)))))))))
  delta NI VS
  obtain ⟨hm, hz, hp⟩ := h
  have hl := h0.2.1
  have hc := h0.2.2.1
  simp only [toN]
  refine req_intro hc (req_intro (by omega) (fun bA EA kA fA nA => ⟨kA, bankF zs 0, Bs.cut (lo := 0) (hi := 4224) h0 fA nA (by decide) (by omega), True.intro, fun a x E1 k1 r1 => ⟨k1, ?_⟩⟩))
  have kk1 := Mem.le_trans kA k1
  refine req_intro hc (req_intro (by omega) (fun bB EB kB fB nB => ⟨kB, bankF zs 1, Bs.cut (lo := 4224) (hi := 8448) (h0.mono kk1) fB nB (by decide) (by omega), True.intro, fun b y E2 k2 r2 => ⟨k2, ?_⟩⟩))
  have kk2 := Mem.le_trans kk1 (Mem.le_trans kB k2)
  have r1 : hidC (bankF zs 0) = (a, x) := r1
  have r2 : hidC (bankF zs 1) = (b, y) := r2
  rw [hidC_eq] at r1 r2
  have e := selF_eq (z := zs) r1 r2
  refine condC (fun g => condC (fun g2 => ⟨kk2, hm E2 kk2 ?_⟩) (fun g2 => ?_)) (fun g => ?_)
  · have g : a < 0 := by simpa using g
    have g2 : b < 0 := by simpa using g2
    show selF zs = -1
    rw [e, if_pos ⟨g, g2⟩]
  · have g2 : ¬ b < 0 := by simpa using g2
    have nn : ¬ (a < 0 ∧ b < 0) := fun q => g2 q.2
    refine condC (fun u => condC (fun w => ⟨kk2, hz E2 kk2 ?_⟩) (fun w => ⟨kk2, hp E2 kk2 ?_⟩)) (fun u => ?_)
    · have u : a ≠ b := by simpa using u
      have w : a > b := by simpa using w
      show selF zs = 0
      rw [e, if_neg nn, if_neg (by omega)]
    · have u : a ≠ b := by simpa using u
      have w : ¬ a > b := by simpa using w
      show selF zs = 1
      rw [e, if_neg nn, if_pos (by omega)]
    · have u : a = b := by simpa using u
      refine req_intro hc (req_intro (by omega) (fun bC EC kC fC nC => ⟨kC, bankF zs 0, Bs.cut (lo := 0) (hi := 4224) (h0.mono kk2) fC nC (by decide) (by omega), True.intro, fun v d b' l' c' E3 k3 r3 _ => ⟨k3, ?_⟩⟩))
      have kk3 := Mem.le_trans kk2 (Mem.le_trans kC k3)
      refine req_intro hc (req_intro (by omega) (fun bD ED kD fD nD => ⟨kD, bankF zs 1, Bs.cut (lo := 4224) (hi := 8448) (h0.mono kk3) fD nD (by decide) (by omega), True.intro, fun v1 d1 b1' l1' c1' E4 k4 r4 _ => ⟨k4, ?_⟩⟩))
      have kk4 := Mem.le_trans kk3 (Mem.le_trans kD k4)
      have r3 : hidP (bankF zs 0) = (v, d) := r3
      have r4 : hidP (bankF zs 1) = (v1, d1) := r4
      rw [hidP_eq] at r3 r4
      have x1 := cls_ver r1 (by omega)
      have x2 := cls_ver r2 (by omega)
      rw [r3] at x1
      rw [r4] at x2
      have x1 : x = v := x1
      have x2 : y = v1 := x2
      refine condC (fun t => ⟨kk4, hp E4 kk4 ?_⟩) (fun t => ⟨kk4, hz E4 kk4 ?_⟩)
      · have t : v1 > v := by simpa using t
        show selF zs = 1
        rw [e, if_neg nn, if_pos (by omega)]
      · have t : ¬ v1 > v := by simpa using t
        show selF zs = 0
        rw [e, if_neg nn, if_neg (by omega)]
  · have g : ¬ a < 0 := by simpa using g
    have nn : ¬ (a < 0 ∧ b < 0) := fun q => g q.1
    refine condC (fun u => condC (fun w => ⟨kk2, hz E2 kk2 ?_⟩) (fun w => ⟨kk2, hp E2 kk2 ?_⟩)) (fun u => ?_)
    · have u : a ≠ b := by simpa using u
      have w : a > b := by simpa using w
      show selF zs = 0
      rw [e, if_neg nn, if_neg (by omega)]
    · have u : a ≠ b := by simpa using u
      have w : ¬ a > b := by simpa using w
      show selF zs = 1
      rw [e, if_neg nn, if_pos (by omega)]
    · have u : a = b := by simpa using u
      refine req_intro hc (req_intro (by omega) (fun bC EC kC fC nC => ⟨kC, bankF zs 0, Bs.cut (lo := 0) (hi := 4224) (h0.mono kk2) fC nC (by decide) (by omega), True.intro, fun v d b' l' c' E3 k3 r3 _ => ⟨k3, ?_⟩⟩))
      have kk3 := Mem.le_trans kk2 (Mem.le_trans kC k3)
      refine req_intro hc (req_intro (by omega) (fun bD ED kD fD nD => ⟨kD, bankF zs 1, Bs.cut (lo := 4224) (hi := 8448) (h0.mono kk3) fD nD (by decide) (by omega), True.intro, fun v1 d1 b1' l1' c1' E4 k4 r4 _ => ⟨k4, ?_⟩⟩))
      have kk4 := Mem.le_trans kk3 (Mem.le_trans kD k4)
      have r3 : hidP (bankF zs 0) = (v, d) := r3
      have r4 : hidP (bankF zs 1) = (v1, d1) := r4
      rw [hidP_eq] at r3 r4
      have x1 := cls_ver r1 (by omega)
      have x2 := cls_ver r2 (by omega)
      rw [r3] at x1
      rw [r4] at x2
      have x1 : x = v := x1
      have x2 : y = v1 := x2
      refine condC (fun t => ⟨kk4, hp E4 kk4 ?_⟩) (fun t => ⟨kk4, hz E4 kk4 ?_⟩)
      · have t : v1 > v := by simpa using t
        show selF zs = 1
        rw [e, if_neg nn, if_pos (by omega)]
      · have t : ¬ v1 > v := by simpa using t
        show selF zs = 0
        rw [e, if_neg nn, if_neg (by omega)]
noncomputable def tabR4 : FuncId → List SV → Mem → (SV → Mem → Prop) → Prop := fun f args E K => match f with
  | 40 => d1 args fun x0 => dS x0 fun b1 l2 c3 => ∃ (zs : List Int), Bs E b1 l2 c3 zs ∧ l2 = 4224 ∧ (∀ (v : Int) (d : List Int) (b' : Option Addr) (l' c' : Nat) (E' : Mem), Mem.le E E' → Hyp (hidP zs = (v, d)) → Bs E' b' l' c' d → K (.tup [I v, L b' l' c', B (decide (v ≠ 0))]) E')
  | 39 => d1 args fun x0 => dC x0 fun l1 => d2 l1 fun x0_0 x0_1 => dI x0_0 fun a1 => dS x0_1 fun b2 l3 c4 => ∃ (zs : List Int), Bs E b2 l3 c4 zs ∧ l3 = 8448 ∧ (((∀ E' : Mem, Mem.le E E' → Hyp (selF zs = -1) → K (I (-1)) E') ∧ (∀ E' : Mem, Mem.le E E' → Hyp (selF zs = 0) → K (I 0) E') ∧ (∀ E' : Mem, Mem.le E E' → Hyp (selF zs = 1) → K (I 1) E')))
  | _ => False
theorem tabR4_ok : TabOK Try.prog tabR4 := by
  intro f args E K h
  unfold tabR4 at h
  split at h
  · replace h := d1_elim h
    obtain ⟨x0, rfl, h⟩ := h
    replace h := dS_elim h
    obtain ⟨b1, l2, c3, rfl, h⟩ := h
    obtain ⟨zs, g0, g1, h⟩ := h
    exact TabSem.congr (valL_cons rfl rfl) (Ent.sem okR1 Try.func40 ⟨by kernel_rfl, by kernel_rfl⟩ rfl (q40 g0 g1 h))
  · replace h := d1_elim h
    obtain ⟨x0, rfl, h⟩ := h
    replace h := dC_elim h
    obtain ⟨l1, hl1, h⟩ := h
    replace h := d2_elim h
    obtain ⟨x0_0, x0_1, rfl, h⟩ := h
    replace h := dI_elim h
    obtain ⟨a1, rfl, h⟩ := h
    replace h := dS_elim h
    obtain ⟨b2, l3, c4, rfl, h⟩ := h
    obtain ⟨zs, g0, g1, h⟩ := h
    exact TabSem.congr (valL_cons (asCells_val hl1) rfl) (Ent.sem okR3 Try.func39 ⟨by kernel_rfl, by kernel_rfl⟩ rfl (q39 g0 g1 h))
  · exact h.elim
noncomputable def R4 : Cx := { P := Try.prog, inl := fun f => List.contains [41, 28] f, tab := tabR4, isB := fun _ => false, tabB := fun _ _ _ _ _ => False, opt := { unroll := 0, carry := [] }, muts := mutsD }
theorem okR4 : CxOK R4 := CxOK.four tabR4_ok (by kernel_rfl) (okInl (by kernel_rfl)) (fun _ _ _ _ _ h => h.elim)
theorem q16r {a1 : Int} {b2 : Option Addr} {l3 : Nat} {c4 : Nat} {zs : List Int} (h0 : Bs E b2 l3 c4 zs) (h : ∀ (v : Int) (d : List Int) (e : Int) (b' : Option Addr) (l' c' : Nat) (E' : Mem), Mem.le E E' → Hyp (selectF a1 zs = ((v, d), e)) → Bs E' b' l' c' d → K (.tup [I v, L b' l' c', I e]) E') :
    Ent R4 8 Try.f16 [.agg [I a1, L b2 l3 c4]] E K := by
  refine same (by kernel_rfl) (?_ : bif a1 == (128 : Int) then Mem.le E E ∧ bif !bif true then (NI l3) == (8448 : Int) else false then Mem.le E E ∧ K (SV.tup [SV.raw (Value.int IntKind.i64 0), SV.raw (VS none 0 0), SV.raw (Value.int IntKind.i64 1)]) E else ∃ (zs : List Int), Bs E b2 l3 c4 zs ∧ l3 = 8448 ∧ (∀ (E' : Mem), Mem.le E E' → Hyp (selF zs = (-1 : Int)) → Mem.le E E' ∧ Mem.le E E' ∧ K (SV.tup [SV.raw (Value.int IntKind.i64 0), SV.raw (VS none 0 0), SV.raw (Value.int IntKind.i64 4)]) E') ∧ (∀ (E' : Mem), Mem.le E E' → Hyp (selF zs = (0 : Int)) → Mem.le E E' ∧ req (l3 ≤ c4) (req ((0 : Int) ≤ (4224 : Int) ∧ (4224 : Int) ≤ (NI (toN none c4))) (∀ (base' : Option Addr) (E'_1 : Mem), Mem.le E' E'_1 → (∀ (cs : List Value), E' (VS b2 l3 c4) cs → E'_1 (VS base' 4224 (toN none c4 - 0)) (List.take 4224 (List.drop 0 cs))) → Option.isNone base' = Option.isNone b2 → Mem.le E' E'_1 ∧ ∃ (zs : List Int), Bs E'_1 base' 4224 (toN none c4 - 0) zs ∧ 4224 = 4224 ∧ ∀ (v : Int) (d : List Int) (b' : Option Addr) (l' c' : Nat) (E' : Mem), Mem.le E'_1 E' → Hyp (hidP zs = (v, d)) → Bs E' b' l' c' d → Mem.le E'_1 E' ∧ Mem.le E E' ∧ K (SV.tup [SV.raw (Value.int IntKind.i64 v), SV.raw (VS b' l' c'), SV.raw (Value.int IntKind.i64 0)]) E'))) ∧ ∀ (E' : Mem), Mem.le E E' → Hyp (selF zs = (1 : Int)) → Mem.le E E' ∧ req (l3 ≤ c4) (req ((0 : Int) ≤ (8448 : Int) ∧ (8448 : Int) ≤ (NI (toN none c4))) (∀ (base' : Option Addr) (E'_1 : Mem), Mem.le E' E'_1 → (∀ (cs : List Value), E' (VS b2 l3 c4) cs → E'_1 (VS base' 4224 (toN none c4 - 4224)) (List.take 4224 (List.drop 4224 cs))) → Option.isNone base' = Option.isNone b2 → Mem.le E' E'_1 ∧ ∃ (zs : List Int), Bs E'_1 base' 4224 (toN none c4 - 4224) zs ∧ 4224 = 4224 ∧ ∀ (v : Int) (d : List Int) (b' : Option Addr) (l' c' : Nat) (E' : Mem), Mem.le E'_1 E' → Hyp (hidP zs = (v, d)) → Bs E' b' l' c' d → Mem.le E'_1 E' ∧ Mem.le E E' ∧ K (SV.tup [SV.raw (Value.int IntKind.i64 v), SV.raw (VS b' l' c'), SV.raw (Value.int IntKind.i64 0)]) E')) else Mem.le E E ∧ Mem.le E E ∧ K (SV.tup [SV.raw (Value.int IntKind.i64 0), SV.raw (VS none 0 0), SV.raw (Value.int IntKind.i64 1)]) E)
  delta NI VS
  have hl := h0.2.1
  have hc := h0.2.2.1
  simp only [toN]
  have no : ¬ memB a1 zs.length → K (.tup [I 0, L none 0 0, I 1]) E := fun q => h 0 [] 1 none 0 0 E (Mem.le_refl _) (by show selectF a1 zs = _; unfold selectF; rw [if_pos q]) (Bs.nil _)
  refine condC (fun g => ⟨Mem.le_refl _, condC (fun g2 => ⟨Mem.le_refl _, no fun q => ?_⟩) (fun g2 => ?_)⟩) (fun g => ⟨Mem.le_refl _, Mem.le_refl _, no fun q => ?_⟩)
  · have := q.2; simp at g2; omega
  · have g : a1 = 128 := by simpa using g
    have g2 : l3 = 8448 := by simp at g2; omega
    have hm : ¬ ¬ memB a1 zs.length := fun q => q ⟨g, by omega⟩
    refine ⟨zs, h0, g2, fun E1 k1 r1 => ⟨k1, k1, ?_⟩, fun E1 k1 r1 => ⟨k1, ?_⟩, fun E1 k1 r1 => ⟨k1, ?_⟩⟩
    · have r1 : selF zs = -1 := r1
      exact h 0 [] 4 none 0 0 E1 k1 (by show selectF a1 zs = _; unfold selectF; rw [if_neg hm, if_pos (by rw [r1]; decide)]) (Bs.nil _)
    · have r1 : selF zs = 0 := r1
      refine req_intro hc (req_intro (by omega) (fun bA EA kA fA nA => ⟨kA, bankF zs 0, Bs.cut (lo := 0) (hi := 4224) (h0.mono k1) fA nA (by decide) (by omega), True.intro, fun v d b' l' c' E2 k2 r2 B2 => ⟨k2, ?_⟩⟩))
      have r2 : hidP (bankF zs 0) = (v, d) := r2
      rw [hidP_eq] at r2
      have kk := Mem.le_trans k1 (Mem.le_trans kA k2)
      exact ⟨kk, h v d 0 b' l' c' E2 kk (by show selectF a1 zs = _; unfold selectF; rw [if_neg hm, r1, if_neg (by decide)]; show (progB (bankF zs 0), (0 : Int)) = _; rw [r2]) B2⟩
    · have r1 : selF zs = 1 := r1
      refine req_intro hc (req_intro (by omega) (fun bA EA kA fA nA => ⟨kA, bankF zs 1, Bs.cut (lo := 4224) (hi := 8448) (h0.mono k1) fA nA (by decide) (by omega), True.intro, fun v d b' l' c' E2 k2 r2 B2 => ⟨k2, ?_⟩⟩))
      have r2 : hidP (bankF zs 1) = (v, d) := r2
      rw [hidP_eq] at r2
      have kk := Mem.le_trans k1 (Mem.le_trans kA k2)
      exact ⟨kk, h v d 0 b' l' c' E2 kk (by show selectF a1 zs = _; unfold selectF; rw [if_neg hm, r1, if_neg (by decide)]; show (progB (bankF zs 1), (0 : Int)) = _; rw [r2]) B2⟩
  · have := q.1; simp at g; omega
noncomputable def tabR5 : FuncId → List SV → Mem → (SV → Mem → Prop) → Prop := fun f args E K => match f with
  | 40 => d1 args fun x0 => dS x0 fun b1 l2 c3 => ∃ (zs : List Int), Bs E b1 l2 c3 zs ∧ l2 = 4224 ∧ (∀ (v : Int) (d : List Int) (b' : Option Addr) (l' c' : Nat) (E' : Mem), Mem.le E E' → Hyp (hidP zs = (v, d)) → Bs E' b' l' c' d → K (.tup [I v, L b' l' c', B (decide (v ≠ 0))]) E')
  | _ => False
theorem tabR5_ok : TabOK Try.prog tabR5 := by
  intro f args E K h
  unfold tabR5 at h
  split at h
  · replace h := d1_elim h
    obtain ⟨x0, rfl, h⟩ := h
    replace h := dS_elim h
    obtain ⟨b1, l2, c3, rfl, h⟩ := h
    obtain ⟨zs, g0, g1, h⟩ := h
    exact TabSem.congr (valL_cons rfl rfl) (Ent.sem okR1 Try.func40 ⟨by kernel_rfl, by kernel_rfl⟩ rfl (q40 g0 g1 h))
  · exact h.elim
noncomputable def R5 : Cx := { P := Try.prog, inl := fun f => List.contains [41] f, tab := tabR5, isB := fun _ => false, tabB := fun _ _ _ _ _ => False, opt := { unroll := 5, carry := [] }, muts := mutsD }
theorem okR5 : CxOK R5 := CxOK.four tabR5_ok (by kernel_rfl) (okInl (by kernel_rfl)) (fun _ _ _ _ _ h => h.elim)
theorem q52 {a1 : Int} {b2 : Option Addr} {l3 : Nat} {c4 : Nat} {a5 : Int} {zs : List Int} (h0 : Bs E b2 l3 c4 zs) (h1 : l3 = 8448) (h : ((∀ E' : Mem, Mem.le E E' → Hyp (findF zs a5 = -1) → K (I (-1)) E') ∧ (∀ E' : Mem, Mem.le E E' → Hyp (findF zs a5 = 0) → K (I 0) E') ∧ (∀ E' : Mem, Mem.le E E' → Hyp (findF zs a5 = 1) → K (I 1) E'))) :
    Ent R5 8 Try.f52 [.agg [I a1, L b2 l3 c4], I a5] E K := by
  refine same (by kernel_rfl) (?_ : req (l3 ≤ c4) (req ((0 : Int) ≤ (4224 : Int) ∧ (4224 : Int) ≤ (NI (toN none c4))) (∀ (base' : Option Addr) (E' : Mem), Mem.le E E' → (∀ (cs : List Value), E (VS b2 l3 c4) cs → E' (VS base' 4224 (toN none c4 - 0)) (List.take 4224 (List.drop 0 cs))) → Option.isNone base' = Option.isNone b2 → Mem.le E E' ∧ ∃ (zs : List Int), Bs E' base' 4224 (toN none c4 - 0) zs ∧ 4224 = 4224 ∧ ∀ (v : Int) (d : List Int) (b' : Option Addr) (l' c' : Nat) (E'_1 : Mem), Mem.le E' E'_1 → Hyp (hidP zs = (v, d)) → Bs E'_1 b' l' c' d → Mem.le E' E'_1 ∧ bif decide (v ≠ (0 : Int)) then bif bif true then v == a5 else false then Mem.le E E'_1 ∧ K (SV.raw (Value.int IntKind.i64 0)) E'_1 else req (l3 ≤ c4) (req ((0 : Int) ≤ (8448 : Int) ∧ (8448 : Int) ≤ (NI (toN none c4))) (∀ (base' : Option Addr) (E' : Mem), Mem.le E'_1 E' → (∀ (cs : List Value), E'_1 (VS b2 l3 c4) cs → E' (VS base' 4224 (toN none c4 - 4224)) (List.take 4224 (List.drop 4224 cs))) → Option.isNone base' = Option.isNone b2 → Mem.le E'_1 E' ∧ ∃ (zs : List Int), Bs E' base' 4224 (toN none c4 - 4224) zs ∧ 4224 = 4224 ∧ ∀ (v : Int) (d : List Int) (b' : Option Addr) (l' c' : Nat) (E'_2 : Mem), Mem.le E' E'_2 → Hyp (hidP zs = (v, d)) → Bs E'_2 b' l' c' d → Mem.le E' E'_2 ∧ bif decide (v ≠ (0 : Int)) then bif bif true then v == a5 else false then Mem.le E E'_2 ∧ K (SV.raw (Value.int IntKind.i64 1)) E'_2 else Mem.le E E'_2 ∧ K (SV.raw (Value.int IntKind.i64 (-1 : Int))) E'_2 else Mem.le E E'_2 ∧ K (SV.raw (Value.int IntKind.i64 (-1 : Int))) E'_2)) else req (l3 ≤ c4) (req ((0 : Int) ≤ (8448 : Int) ∧ (8448 : Int) ≤ (NI (toN none c4))) (∀ (base' : Option Addr) (E' : Mem), Mem.le E'_1 E' → (∀ (cs : List Value), E'_1 (VS b2 l3 c4) cs → E' (VS base' 4224 (toN none c4 - 4224)) (List.take 4224 (List.drop 4224 cs))) → Option.isNone base' = Option.isNone b2 → Mem.le E'_1 E' ∧ ∃ (zs : List Int), Bs E' base' 4224 (toN none c4 - 4224) zs ∧ 4224 = 4224 ∧ ∀ (v : Int) (d : List Int) (b' : Option Addr) (l' c' : Nat) (E'_2 : Mem), Mem.le E' E'_2 → Hyp (hidP zs = (v, d)) → Bs E'_2 b' l' c' d → Mem.le E' E'_2 ∧ bif decide (v ≠ (0 : Int)) then bif bif true then v == a5 else false then Mem.le E E'_2 ∧ K (SV.raw (Value.int IntKind.i64 1)) E'_2 else Mem.le E E'_2 ∧ K (SV.raw (Value.int IntKind.i64 (-1 : Int))) E'_2 else Mem.le E E'_2 ∧ K (SV.raw (Value.int IntKind.i64 (-1 : Int))) E'_2)))))
  delta NI VS
  obtain ⟨hm, hz, hp⟩ := h
  have hl := h0.2.1
  have hc := h0.2.2.1
  simp only [toN]
  refine req_intro hc (req_intro (by omega) (fun bA EA kA fA nA => ⟨kA, bankF zs 0, Bs.cut (lo := 0) (hi := 4224) h0 fA nA (by decide) (by omega), True.intro, fun v d b' l' c' E1 k1 r1 _ => ⟨k1, ?_⟩⟩))
  have kk1 := Mem.le_trans kA k1
  have r1 : hidP (bankF zs 0) = (v, d) := r1
  rw [hidP_eq] at r1
  refine condC (fun u => condC (fun w => ⟨kk1, hz E1 kk1 ?_⟩) (fun w => ?_)) (fun u => ?_)
  · have u : v ≠ 0 := by simpa using u
    have w : v = a5 := by simpa using w
    show findF zs a5 = 0
    unfold findF
    rw [r1, if_pos ⟨u, w⟩]
  · have w : v ≠ a5 := by simpa using w
    have nn : ¬ ((v, d).1 ≠ 0 ∧ (v, d).1 = a5) := fun q => w q.2
    refine req_intro hc (req_intro (by omega) (fun bB EB kB fB nB => ⟨kB, bankF zs 1, Bs.cut (lo := 4224) (hi := 8448) (h0.mono kk1) fB nB (by decide) (by omega), True.intro, fun v1 d1 b1' l1' c1' E2 k2 r2 _ => ⟨k2, ?_⟩⟩))
    have kk2 := Mem.le_trans kk1 (Mem.le_trans kB k2)
    have r2 : hidP (bankF zs 1) = (v1, d1) := r2
    rw [hidP_eq] at r2
    have un : findF zs a5 = if v1 ≠ 0 ∧ v1 = a5 then 1 else -1 := by
      unfold findF
      rw [r1, r2, if_neg nn]
    refine condC (fun u => condC (fun w => ⟨kk2, hp E2 kk2 ?_⟩) (fun w => ⟨kk2, hm E2 kk2 ?_⟩)) (fun u => ⟨kk2, hm E2 kk2 ?_⟩)
    · have u : v1 ≠ 0 := by simpa using u
      have w : v1 = a5 := by simpa using w
      show findF zs a5 = 1
      rw [un, if_pos ⟨u, w⟩]
    · have w : v1 ≠ a5 := by simpa using w
      show findF zs a5 = -1
      rw [un, if_neg (fun q => w q.2)]
    · have u : v1 = 0 := by simpa using u
      show findF zs a5 = -1
      rw [un, if_neg (fun q => q.1 u)]
  · have u : v = 0 := by simpa using u
    have nn : ¬ ((v, d).1 ≠ 0 ∧ (v, d).1 = a5) := fun q => q.1 u
    refine req_intro hc (req_intro (by omega) (fun bB EB kB fB nB => ⟨kB, bankF zs 1, Bs.cut (lo := 4224) (hi := 8448) (h0.mono kk1) fB nB (by decide) (by omega), True.intro, fun v1 d1 b1' l1' c1' E2 k2 r2 _ => ⟨k2, ?_⟩⟩))
    have kk2 := Mem.le_trans kk1 (Mem.le_trans kB k2)
    have r2 : hidP (bankF zs 1) = (v1, d1) := r2
    rw [hidP_eq] at r2
    have un : findF zs a5 = if v1 ≠ 0 ∧ v1 = a5 then 1 else -1 := by
      unfold findF
      rw [r1, r2, if_neg nn]
    refine condC (fun u => condC (fun w => ⟨kk2, hp E2 kk2 ?_⟩) (fun w => ⟨kk2, hm E2 kk2 ?_⟩)) (fun u => ⟨kk2, hm E2 kk2 ?_⟩)
    · have u : v1 ≠ 0 := by simpa using u
      have w : v1 = a5 := by simpa using w
      show findF zs a5 = 1
      rw [un, if_pos ⟨u, w⟩]
    · have w : v1 ≠ a5 := by simpa using w
      show findF zs a5 = -1
      rw [un, if_neg (fun q => w q.2)]
    · have u : v1 = 0 := by simpa using u
      show findF zs a5 = -1
      rw [un, if_neg (fun q => q.1 u)]
theorem q46 {a1 : Int} {b2 : Option Addr} {l3 : Nat} {c4 : Nat} {zs : List Int} (h0 : Bs E b2 l3 c4 zs) (h1 : l3 = 8448) (h : ∀ E' : Mem, Mem.le E E' → K (I (if (progB (bankF zs 1)).1 > (progB (bankF zs 0)).1 then (progB (bankF zs 1)).1 else (progB (bankF zs 0)).1)) E') :
    Ent R5 8 Try.f46 [.agg [I a1, L b2 l3 c4]] E K := by
  refine same (by kernel_rfl) (?_ : req (l3 ≤ c4) (req ((0 : Int) ≤ (4224 : Int) ∧ (4224 : Int) ≤ (↑(toN none c4) : Int)) (∀ (base' : Option Addr) (E' : Mem), Mem.le E E' → (∀ (cs : List Value), E (Value.slice b2 l3 c4) cs → E' (Value.slice base' 4224 (toN none c4 - 0)) (List.take 4224 (List.drop 0 cs))) → Option.isNone base' = Option.isNone b2 → Mem.le E E' ∧ ∃ (zs : List Int), Bs E' base' 4224 (toN none c4 - 0) zs ∧ 4224 = 4224 ∧ ∀ (v : Int) (d : List Int) (b' : Option Addr) (l' c' : Nat) (E'_1 : Mem), Mem.le E' E'_1 → Hyp (hidP zs = (v, d)) → Bs E'_1 b' l' c' d → Mem.le E' E'_1 ∧ req (l3 ≤ c4) (req ((0 : Int) ≤ (8448 : Int) ∧ (8448 : Int) ≤ (↑(toN none c4) : Int)) (∀ (base' : Option Addr) (E' : Mem), Mem.le E'_1 E' → (∀ (cs : List Value), E'_1 (Value.slice b2 l3 c4) cs → E' (Value.slice base' 4224 (toN none c4 - 4224)) (List.take 4224 (List.drop 4224 cs))) → Option.isNone base' = Option.isNone b2 → Mem.le E'_1 E' ∧ ∃ (zs : List Int), Bs E' base' 4224 (toN none c4 - 4224) zs ∧ 4224 = 4224 ∧ ∀ (v_1 : Int) (d : List Int) (b' : Option Addr) (l' c' : Nat) (E'_2 : Mem), Mem.le E' E'_2 → Hyp (hidP zs = (v_1, d)) → Bs E'_2 b' l' c' d → Mem.le E' E'_2 ∧ Mem.le E E'_2 ∧ K (SV.raw (Value.int IntKind.i64 (if v_1 > v then v_1 else v))) E'_2)))))
  have hl := h0.2.1
  have hc := h0.2.2.1
  simp only [toN]
  refine req_intro hc (req_intro (by omega) (fun bA EA kA fA nA => ⟨kA, bankF zs 0, Bs.cut (lo := 0) (hi := 4224) h0 fA nA (by decide) (by omega), True.intro, fun v d b' l' c' E1 k1 r1 _ => ⟨k1, ?_⟩⟩))
  have kk1 := Mem.le_trans kA k1
  refine req_intro hc (req_intro (by omega) (fun bB EB kB fB nB => ⟨kB, bankF zs 1, Bs.cut (lo := 4224) (hi := 8448) (h0.mono kk1) fB nB (by decide) (by omega), True.intro, fun v1 d1 b1' l1' c1' E2 k2 r2 _ => ⟨k2, ?_⟩⟩))
  have kk2 := Mem.le_trans kk1 (Mem.le_trans kB k2)
  have r1 : hidP (bankF zs 0) = (v, d) := r1
  have r2 : hidP (bankF zs 1) = (v1, d1) := r2
  rw [hidP_eq] at r1 r2
  have := h E2 kk2
  rw [r1, r2] at this
  exact ⟨kk2, this⟩
noncomputable def tabR6 : FuncId → List SV → Mem → (SV → Mem → Prop) → Prop := fun f args E K => match f with
  | 52 => d2 args fun x0 x1 => dC x0 fun l1 => d2 l1 fun x0_0 x0_1 => dI x0_0 fun a1 => dS x0_1 fun b2 l3 c4 => dI x1 fun a5 => ∃ (zs : List Int), Bs E b2 l3 c4 zs ∧ l3 = 8448 ∧ (((∀ E' : Mem, Mem.le E E' → Hyp (findF zs a5 = -1) → K (I (-1)) E') ∧ (∀ E' : Mem, Mem.le E E' → Hyp (findF zs a5 = 0) → K (I 0) E') ∧ (∀ E' : Mem, Mem.le E E' → Hyp (findF zs a5 = 1) → K (I 1) E')))
  | _ => False
theorem tabR6_ok : TabOK Try.prog tabR6 := by
  intro f args E K h
  unfold tabR6 at h
  split at h
  · replace h := d2_elim h
    obtain ⟨x0, x1, rfl, h⟩ := h
    replace h := dC_elim h
    obtain ⟨l1, hl1, h⟩ := h
    replace h := d2_elim h
    obtain ⟨x0_0, x0_1, rfl, h⟩ := h
    replace h := dI_elim h
    obtain ⟨a1, rfl, h⟩ := h
    replace h := dS_elim h
    obtain ⟨b2, l3, c4, rfl, h⟩ := h
    replace h := dI_elim h
    obtain ⟨a5, rfl, h⟩ := h
    obtain ⟨zs, g0, g1, h⟩ := h
    exact TabSem.congr (valL_cons (asCells_val hl1) (valL_cons rfl rfl)) (Ent.sem okR5 Try.func52 ⟨by kernel_rfl, by kernel_rfl⟩ rfl (q52 g0 g1 h))
  · exact h.elim
noncomputable def R6 : Cx := { P := Try.prog, inl := fun f => List.contains [41, 28] f, tab := tabR6, isB := fun _ => false, tabB := fun _ _ _ _ _ => False, opt := { unroll := 6, carry := [] }, muts := mutsD }
theorem okR6 : CxOK R6 := CxOK.four tabR6_ok (by kernel_rfl) (okInl (by kernel_rfl)) (fun _ _ _ _ _ h => h.elim)
theorem q24 {a1 : Int} {b2 : Option Addr} {l3 : Nat} {c4 : Nat} {a5 : Int} {zs : List Int} (h0 : Bs E b2 l3 c4 zs) (h : ∀ E' : Mem, Mem.le E E' → K (I (marksF a1 zs a5)) E') :
    Ent R6 8 Try.f24 [.agg [I a1, L b2 l3 c4], I a5] E K := by
  refine same (by kernel_rfl) (?_ : bif a1 == (128 : Int) then Mem.le E E ∧ bif !bif true then (NI l3) == (8448 : Int) else false then Mem.le E E ∧ K (SV.raw (Value.int IntKind.i64 (-1 : Int))) E else ∃ (zs : List Int), Bs E b2 l3 c4 zs ∧ l3 = 8448 ∧ (∀ (E' : Mem), Mem.le E E' → Hyp (findF zs a5 = (-1 : Int)) → Mem.le E E' ∧ Mem.le E E' ∧ K (SV.raw (Value.int IntKind.i64 (-1 : Int))) E') ∧ (∀ (E' : Mem), Mem.le E E' → Hyp (findF zs a5 = (0 : Int)) → Mem.le E E' ∧ req (l3 ≤ c4) (req ((0 : Int) ≤ (4224 : Int) ∧ (4224 : Int) ≤ (NI (toN none c4))) (∀ (base' : Option Addr) (E'_1 : Mem), Mem.le E' E'_1 → (∀ (cs : List Value), E' (VS b2 l3 c4) cs → E'_1 (VS base' 4224 (toN none c4 - 0)) (List.take 4224 (List.drop 0 cs))) → Option.isNone base' = Option.isNone b2 → Mem.le E' E'_1 ∧ (∃ (cs : List Value), E'_1 (VS base' 4224 (toN none c4 - 0)) cs ∧ (cs = [] → False)) ∧ ∃ (n : Int), LoadE R6.P E'_1 5 (VS base' 4224 (toN none c4 - 0)) 15 (SV.raw (U8 n)) ∧ bif n == (0 : Int) then req (l3 ≤ c4) (req ((0 : Int) ≤ (4224 : Int) ∧ (4224 : Int) ≤ (NI (toN none c4))) (∀ (base' : Option Addr) (E' : Mem), Mem.le E'_1 E' → (∀ (cs : List Value), E'_1 (VS b2 l3 c4) cs → E' (VS base' 4224 (toN none c4 - 0)) (List.take 4224 (List.drop 0 cs))) → Option.isNone base' = Option.isNone b2 → Mem.le E'_1 E' ∧ (∃ (cs : List Value), E' (VS base' 4224 (toN none c4 - 0)) cs ∧ (cs = [] → False)) ∧ ∃ (n : Int), LoadE R6.P E' 5 (VS base' 4224 (toN none c4 - 0)) 16 (SV.raw (U8 n)) ∧ bif n == (0 : Int) then req (l3 ≤ c4) (req ((0 : Int) ≤ (4224 : Int) ∧ (4224 : Int) ≤ (NI (toN none c4))) (∀ (base' : Option Addr) (E'_2 : Mem), Mem.le E' E'_2 → (∀ (cs : List Value), E' (VS b2 l3 c4) cs → E'_2 (VS base' 4224 (toN none c4 - 0)) (List.take 4224 (List.drop 0 cs))) → Option.isNone base' = Option.isNone b2 → Mem.le E' E'_2 ∧ (∃ (cs : List Value), E'_2 (VS base' 4224 (toN none c4 - 0)) cs ∧ (cs = [] → False)) ∧ ∃ (n : Int), LoadE R6.P E'_2 5 (VS base' 4224 (toN none c4 - 0)) 17 (SV.raw (U8 n)) ∧ bif n == (0 : Int) then Mem.le E E'_2 ∧ K (SV.raw (Value.int IntKind.i64 3)) E'_2 else Mem.le E E'_2 ∧ K (SV.raw (Value.int IntKind.i64 2)) E'_2)) else req (l3 ≤ c4) (req ((0 : Int) ≤ (4224 : Int) ∧ (4224 : Int) ≤ (NI (toN none c4))) (∀ (base' : Option Addr) (E'_2 : Mem), Mem.le E' E'_2 → (∀ (cs : List Value), E' (VS b2 l3 c4) cs → E'_2 (VS base' 4224 (toN none c4 - 0)) (List.take 4224 (List.drop 0 cs))) → Option.isNone base' = Option.isNone b2 → Mem.le E' E'_2 ∧ (∃ (cs : List Value), E'_2 (VS base' 4224 (toN none c4 - 0)) cs ∧ (cs = [] → False)) ∧ ∃ (n : Int), LoadE R6.P E'_2 5 (VS base' 4224 (toN none c4 - 0)) 17 (SV.raw (U8 n)) ∧ bif n == (0 : Int) then Mem.le E E'_2 ∧ K (SV.raw (Value.int IntKind.i64 3)) E'_2 else Mem.le E E'_2 ∧ K (SV.raw (Value.int IntKind.i64 1)) E'_2)))) else req (l3 ≤ c4) (req ((0 : Int) ≤ (4224 : Int) ∧ (4224 : Int) ≤ (NI (toN none c4))) (∀ (base' : Option Addr) (E' : Mem), Mem.le E'_1 E' → (∀ (cs : List Value), E'_1 (VS b2 l3 c4) cs → E' (VS base' 4224 (toN none c4 - 0)) (List.take 4224 (List.drop 0 cs))) → Option.isNone base' = Option.isNone b2 → Mem.le E'_1 E' ∧ (∃ (cs : List Value), E' (VS base' 4224 (toN none c4 - 0)) cs ∧ (cs = [] → False)) ∧ ∃ (n : Int), LoadE R6.P E' 5 (VS base' 4224 (toN none c4 - 0)) 16 (SV.raw (U8 n)) ∧ bif n == (0 : Int) then req (l3 ≤ c4) (req ((0 : Int) ≤ (4224 : Int) ∧ (4224 : Int) ≤ (NI (toN none c4))) (∀ (base' : Option Addr) (E'_2 : Mem), Mem.le E' E'_2 → (∀ (cs : List Value), E' (VS b2 l3 c4) cs → E'_2 (VS base' 4224 (toN none c4 - 0)) (List.take 4224 (List.drop 0 cs))) → Option.isNone base' = Option.isNone b2 → Mem.le E' E'_2 ∧ (∃ (cs : List Value), E'_2 (VS base' 4224 (toN none c4 - 0)) cs ∧ (cs = [] → False)) ∧ ∃ (n : Int), LoadE R6.P E'_2 5 (VS base' 4224 (toN none c4 - 0)) 17 (SV.raw (U8 n)) ∧ bif n == (0 : Int) then Mem.le E E'_2 ∧ K (SV.raw (Value.int IntKind.i64 3)) E'_2 else Mem.le E E'_2 ∧ K (SV.raw (Value.int IntKind.i64 2)) E'_2)) else req (l3 ≤ c4) (req ((0 : Int) ≤ (4224 : Int) ∧ (4224 : Int) ≤ (NI (toN none c4))) (∀ (base' : Option Addr) (E'_2 : Mem), Mem.le E' E'_2 → (∀ (cs : List Value), E' (VS b2 l3 c4) cs → E'_2 (VS base' 4224 (toN none c4 - 0)) (List.take 4224 (List.drop 0 cs))) → Option.isNone base' = Option.isNone b2 → Mem.le E' E'_2 ∧ (∃ (cs : List Value), E'_2 (VS base' 4224 (toN none c4 - 0)) cs ∧ (cs = [] → False)) ∧ ∃ (n : Int), LoadE R6.P E'_2 5 (VS base' 4224 (toN none c4 - 0)) 17 (SV.raw (U8 n)) ∧ bif n == (0 : Int) then Mem.le E E'_2 ∧ K (SV.raw (Value.int IntKind.i64 3)) E'_2 else Mem.le E E'_2 ∧ K (SV.raw (Value.int IntKind.i64 0)) E'_2))))))) ∧ ∀ (E' : Mem), Mem.le E E' → Hyp (findF zs a5 = (1 : Int)) → Mem.le E E' ∧ req (l3 ≤ c4) (req ((0 : Int) ≤ (8448 : Int) ∧ (8448 : Int) ≤ (NI (toN none c4))) (∀ (base' : Option Addr) (E'_1 : Mem), Mem.le E' E'_1 → (∀ (cs : List Value), E' (VS b2 l3 c4) cs → E'_1 (VS base' 4224 (toN none c4 - 4224)) (List.take 4224 (List.drop 4224 cs))) → Option.isNone base' = Option.isNone b2 → Mem.le E' E'_1 ∧ (∃ (cs : List Value), E'_1 (VS base' 4224 (toN none c4 - 4224)) cs ∧ (cs = [] → False)) ∧ ∃ (n : Int), LoadE R6.P E'_1 5 (VS base' 4224 (toN none c4 - 4224)) 15 (SV.raw (U8 n)) ∧ bif n == (0 : Int) then req (l3 ≤ c4) (req ((0 : Int) ≤ (8448 : Int) ∧ (8448 : Int) ≤ (NI (toN none c4))) (∀ (base' : Option Addr) (E' : Mem), Mem.le E'_1 E' → (∀ (cs : List Value), E'_1 (VS b2 l3 c4) cs → E' (VS base' 4224 (toN none c4 - 4224)) (List.take 4224 (List.drop 4224 cs))) → Option.isNone base' = Option.isNone b2 → Mem.le E'_1 E' ∧ (∃ (cs : List Value), E' (VS base' 4224 (toN none c4 - 4224)) cs ∧ (cs = [] → False)) ∧ ∃ (n : Int), LoadE R6.P E' 5 (VS base' 4224 (toN none c4 - 4224)) 16 (SV.raw (U8 n)) ∧ bif n == (0 : Int) then req (l3 ≤ c4) (req ((0 : Int) ≤ (8448 : Int) ∧ (8448 : Int) ≤ (NI (toN none c4))) (∀ (base' : Option Addr) (E'_2 : Mem), Mem.le E' E'_2 → (∀ (cs : List Value), E' (VS b2 l3 c4) cs → E'_2 (VS base' 4224 (toN none c4 - 4224)) (List.take 4224 (List.drop 4224 cs))) → Option.isNone base' = Option.isNone b2 → Mem.le E' E'_2 ∧ (∃ (cs : List Value), E'_2 (VS base' 4224 (toN none c4 - 4224)) cs ∧ (cs = [] → False)) ∧ ∃ (n : Int), LoadE R6.P E'_2 5 (VS base' 4224 (toN none c4 - 4224)) 17 (SV.raw (U8 n)) ∧ bif n == (0 : Int) then Mem.le E E'_2 ∧ K (SV.raw (Value.int IntKind.i64 3)) E'_2 else Mem.le E E'_2 ∧ K (SV.raw (Value.int IntKind.i64 2)) E'_2)) else req (l3 ≤ c4) (req ((0 : Int) ≤ (8448 : Int) ∧ (8448 : Int) ≤ (NI (toN none c4))) (∀ (base' : Option Addr) (E'_2 : Mem), Mem.le E' E'_2 → (∀ (cs : List Value), E' (VS b2 l3 c4) cs → E'_2 (VS base' 4224 (toN none c4 - 4224)) (List.take 4224 (List.drop 4224 cs))) → Option.isNone base' = Option.isNone b2 → Mem.le E' E'_2 ∧ (∃ (cs : List Value), E'_2 (VS base' 4224 (toN none c4 - 4224)) cs ∧ (cs = [] → False)) ∧ ∃ (n : Int), LoadE R6.P E'_2 5 (VS base' 4224 (toN none c4 - 4224)) 17 (SV.raw (U8 n)) ∧ bif n == (0 : Int) then Mem.le E E'_2 ∧ K (SV.raw (Value.int IntKind.i64 3)) E'_2 else Mem.le E E'_2 ∧ K (SV.raw (Value.int IntKind.i64 1)) E'_2)))) else req (l3 ≤ c4) (req ((0 : Int) ≤ (8448 : Int) ∧ (8448 : Int) ≤ (NI (toN none c4))) (∀ (base' : Option Addr) (E' : Mem), Mem.le E'_1 E' → (∀ (cs : List Value), E'_1 (VS b2 l3 c4) cs → E' (VS base' 4224 (toN none c4 - 4224)) (List.take 4224 (List.drop 4224 cs))) → Option.isNone base' = Option.isNone b2 → Mem.le E'_1 E' ∧ (∃ (cs : List Value), E' (VS base' 4224 (toN none c4 - 4224)) cs ∧ (cs = [] → False)) ∧ ∃ (n : Int), LoadE R6.P E' 5 (VS base' 4224 (toN none c4 - 4224)) 16 (SV.raw (U8 n)) ∧ bif n == (0 : Int) then req (l3 ≤ c4) (req ((0 : Int) ≤ (8448 : Int) ∧ (8448 : Int) ≤ (NI (toN none c4))) (∀ (base' : Option Addr) (E'_2 : Mem), Mem.le E' E'_2 → (∀ (cs : List Value), E' (VS b2 l3 c4) cs → E'_2 (VS base' 4224 (toN none c4 - 4224)) (List.take 4224 (List.drop 4224 cs))) → Option.isNone base' = Option.isNone b2 → Mem.le E' E'_2 ∧ (∃ (cs : List Value), E'_2 (VS base' 4224 (toN none c4 - 4224)) cs ∧ (cs = [] → False)) ∧ ∃ (n : Int), LoadE R6.P E'_2 5 (VS base' 4224 (toN none c4 - 4224)) 17 (SV.raw (U8 n)) ∧ bif n == (0 : Int) then Mem.le E E'_2 ∧ K (SV.raw (Value.int IntKind.i64 3)) E'_2 else Mem.le E E'_2 ∧ K (SV.raw (Value.int IntKind.i64 2)) E'_2)) else req (l3 ≤ c4) (req ((0 : Int) ≤ (8448 : Int) ∧ (8448 : Int) ≤ (NI (toN none c4))) (∀ (base' : Option Addr) (E'_2 : Mem), Mem.le E' E'_2 → (∀ (cs : List Value), E' (VS b2 l3 c4) cs → E'_2 (VS base' 4224 (toN none c4 - 4224)) (List.take 4224 (List.drop 4224 cs))) → Option.isNone base' = Option.isNone b2 → Mem.le E' E'_2 ∧ (∃ (cs : List Value), E'_2 (VS base' 4224 (toN none c4 - 4224)) cs ∧ (cs = [] → False)) ∧ ∃ (n : Int), LoadE R6.P E'_2 5 (VS base' 4224 (toN none c4 - 4224)) 17 (SV.raw (U8 n)) ∧ bif n == (0 : Int) then Mem.le E E'_2 ∧ K (SV.raw (Value.int IntKind.i64 3)) E'_2 else Mem.le E E'_2 ∧ K (SV.raw (Value.int IntKind.i64 0)) E'_2)))))) else Mem.le E E ∧ Mem.le E E ∧ K (SV.raw (Value.int IntKind.i64 (-1 : Int))) E)
  delta NI U8 VS
  have hl := h0.2.1
  have hc := h0.2.2.1
  simp only [toN]
  have no : ¬ memB a1 zs.length → K (I (-1)) E := fun q => by
    have := h E (Mem.le_refl _)
    unfold marksF at this
    rwa [if_pos q] at this
  refine condC (fun g => ⟨Mem.le_refl _, condC (fun g2 => ⟨Mem.le_refl _, no fun q => ?_⟩) (fun g2 => ?_)⟩) (fun g => ⟨Mem.le_refl _, Mem.le_refl _, no fun q => ?_⟩)
  · have := q.2; simp at g2; omega
  · have g : a1 = 128 := by simpa using g
    have g2 : l3 = 8448 := by simp at g2; omega
    have hm : ¬ ¬ memB a1 zs.length := fun q => q ⟨g, by omega⟩
    refine ⟨zs, h0, g2, fun E1 k1 r1 => ⟨k1, k1, ?_⟩, fun E1 k1 r1 => ⟨k1, ?_⟩, fun E1 k1 r1 => ⟨k1, ?_⟩⟩
    · have r1 : findF zs a5 = -1 := r1
      have := h E1 k1
      unfold marksF at this
      rwa [if_neg hm, if_pos (by rw [r1]; decide)] at this
    · have r1 : findF zs a5 = 0 := r1
      have mk : marksF a1 zs a5 = markB (bankF zs 0) := by unfold marksF; rw [if_neg hm, r1, if_neg (by decide)]; rfl
      unfold markB at mk
      refine req_intro hc (req_intro (by omega) (fun b15 E15 k15 f15 n15 => ?_))
      have H15 := Bs.cut (lo := 0) (hi := 4224) (h0.mono k1) f15 n15 (by decide) (by omega)
      have le15 := Mem.le_trans k1 k15
      refine ⟨k15, H15.ne (i := 15) (by decide), (bankF zs 0).getD 15 0, H15.load rfl (i := 15) (by decide), condC (fun u15 => ?_) (fun u15 => ?_)⟩
      · have u15 : (bankF zs 0).getD 15 0 = 0 := by simpa using u15
        refine req_intro hc (req_intro (by omega) (fun b16y E16y k16y f16y n16y => ?_))
        have H16y := Bs.cut (lo := 0) (hi := 4224) (h0.mono le15) f16y n16y (by decide) (by omega)
        have le16y := Mem.le_trans le15 k16y
        refine ⟨k16y, H16y.ne (i := 16) (by decide), (bankF zs 0).getD 16 0, H16y.load rfl (i := 16) (by decide), condC (fun u16 => ?_) (fun u16 => ?_)⟩
        · have u16 : (bankF zs 0).getD 16 0 = 0 := by simpa using u16
          refine req_intro hc (req_intro (by omega) (fun b17yy E17yy k17yy f17yy n17yy => ?_))
          have H17yy := Bs.cut (lo := 0) (hi := 4224) (h0.mono le16y) f17yy n17yy (by decide) (by omega)
          have le17yy := Mem.le_trans le16y k17yy
          refine ⟨k17yy, H17yy.ne (i := 17) (by decide), (bankF zs 0).getD 17 0, H17yy.load rfl (i := 17) (by decide), condC (fun u17 => ?_) (fun u17 => ?_)⟩
          · have u17 : (bankF zs 0).getD 17 0 = 0 := by simpa using u17
            have g := h _ le17yy
            rw [mk] at g
            rw [if_pos u17] at g
            exact ⟨le17yy, g⟩
          · have u17 : ¬ (bankF zs 0).getD 17 0 = 0 := by simpa using u17
            have g := h _ le17yy
            rw [mk] at g
            rw [if_neg u17] at g
            rw [if_pos u16] at g
            exact ⟨le17yy, g⟩
        · have u16 : ¬ (bankF zs 0).getD 16 0 = 0 := by simpa using u16
          refine req_intro hc (req_intro (by omega) (fun b17yn E17yn k17yn f17yn n17yn => ?_))
          have H17yn := Bs.cut (lo := 0) (hi := 4224) (h0.mono le16y) f17yn n17yn (by decide) (by omega)
          have le17yn := Mem.le_trans le16y k17yn
          refine ⟨k17yn, H17yn.ne (i := 17) (by decide), (bankF zs 0).getD 17 0, H17yn.load rfl (i := 17) (by decide), condC (fun u17 => ?_) (fun u17 => ?_)⟩
          · have u17 : (bankF zs 0).getD 17 0 = 0 := by simpa using u17
            have g := h _ le17yn
            rw [mk] at g
            rw [if_pos u17] at g
            exact ⟨le17yn, g⟩
          · have u17 : ¬ (bankF zs 0).getD 17 0 = 0 := by simpa using u17
            have g := h _ le17yn
            rw [mk] at g
            rw [if_neg u17] at g
            rw [if_neg u16] at g
            rw [if_pos u15] at g
            exact ⟨le17yn, g⟩
      · have u15 : ¬ (bankF zs 0).getD 15 0 = 0 := by simpa using u15
        refine req_intro hc (req_intro (by omega) (fun b16n E16n k16n f16n n16n => ?_))
        have H16n := Bs.cut (lo := 0) (hi := 4224) (h0.mono le15) f16n n16n (by decide) (by omega)
        have le16n := Mem.le_trans le15 k16n
        refine ⟨k16n, H16n.ne (i := 16) (by decide), (bankF zs 0).getD 16 0, H16n.load rfl (i := 16) (by decide), condC (fun u16 => ?_) (fun u16 => ?_)⟩
        · have u16 : (bankF zs 0).getD 16 0 = 0 := by simpa using u16
          refine req_intro hc (req_intro (by omega) (fun b17ny E17ny k17ny f17ny n17ny => ?_))
          have H17ny := Bs.cut (lo := 0) (hi := 4224) (h0.mono le16n) f17ny n17ny (by decide) (by omega)
          have le17ny := Mem.le_trans le16n k17ny
          refine ⟨k17ny, H17ny.ne (i := 17) (by decide), (bankF zs 0).getD 17 0, H17ny.load rfl (i := 17) (by decide), condC (fun u17 => ?_) (fun u17 => ?_)⟩
          · have u17 : (bankF zs 0).getD 17 0 = 0 := by simpa using u17
            have g := h _ le17ny
            rw [mk] at g
            rw [if_pos u17] at g
            exact ⟨le17ny, g⟩
          · have u17 : ¬ (bankF zs 0).getD 17 0 = 0 := by simpa using u17
            have g := h _ le17ny
            rw [mk] at g
            rw [if_neg u17] at g
            rw [if_pos u16] at g
            exact ⟨le17ny, g⟩
        · have u16 : ¬ (bankF zs 0).getD 16 0 = 0 := by simpa using u16
          refine req_intro hc (req_intro (by omega) (fun b17nn E17nn k17nn f17nn n17nn => ?_))
          have H17nn := Bs.cut (lo := 0) (hi := 4224) (h0.mono le16n) f17nn n17nn (by decide) (by omega)
          have le17nn := Mem.le_trans le16n k17nn
          refine ⟨k17nn, H17nn.ne (i := 17) (by decide), (bankF zs 0).getD 17 0, H17nn.load rfl (i := 17) (by decide), condC (fun u17 => ?_) (fun u17 => ?_)⟩
          · have u17 : (bankF zs 0).getD 17 0 = 0 := by simpa using u17
            have g := h _ le17nn
            rw [mk] at g
            rw [if_pos u17] at g
            exact ⟨le17nn, g⟩
          · have u17 : ¬ (bankF zs 0).getD 17 0 = 0 := by simpa using u17
            have g := h _ le17nn
            rw [mk] at g
            rw [if_neg u17] at g
            rw [if_neg u16] at g
            rw [if_neg u15] at g
            exact ⟨le17nn, g⟩
    · have r1 : findF zs a5 = 1 := r1
      have mk : marksF a1 zs a5 = markB (bankF zs 1) := by unfold marksF; rw [if_neg hm, r1, if_neg (by decide)]; rfl
      unfold markB at mk
      refine req_intro hc (req_intro (by omega) (fun b15 E15 k15 f15 n15 => ?_))
      have H15 := Bs.cut (lo := 4224) (hi := 8448) (h0.mono k1) f15 n15 (by decide) (by omega)
      have le15 := Mem.le_trans k1 k15
      refine ⟨k15, H15.ne (i := 15) (by decide), (bankF zs 1).getD 15 0, H15.load rfl (i := 15) (by decide), condC (fun u15 => ?_) (fun u15 => ?_)⟩
      · have u15 : (bankF zs 1).getD 15 0 = 0 := by simpa using u15
        refine req_intro hc (req_intro (by omega) (fun b16y E16y k16y f16y n16y => ?_))
        have H16y := Bs.cut (lo := 4224) (hi := 8448) (h0.mono le15) f16y n16y (by decide) (by omega)
        have le16y := Mem.le_trans le15 k16y
        refine ⟨k16y, H16y.ne (i := 16) (by decide), (bankF zs 1).getD 16 0, H16y.load rfl (i := 16) (by decide), condC (fun u16 => ?_) (fun u16 => ?_)⟩
        · have u16 : (bankF zs 1).getD 16 0 = 0 := by simpa using u16
          refine req_intro hc (req_intro (by omega) (fun b17yy E17yy k17yy f17yy n17yy => ?_))
          have H17yy := Bs.cut (lo := 4224) (hi := 8448) (h0.mono le16y) f17yy n17yy (by decide) (by omega)
          have le17yy := Mem.le_trans le16y k17yy
          refine ⟨k17yy, H17yy.ne (i := 17) (by decide), (bankF zs 1).getD 17 0, H17yy.load rfl (i := 17) (by decide), condC (fun u17 => ?_) (fun u17 => ?_)⟩
          · have u17 : (bankF zs 1).getD 17 0 = 0 := by simpa using u17
            have g := h _ le17yy
            rw [mk] at g
            rw [if_pos u17] at g
            exact ⟨le17yy, g⟩
          · have u17 : ¬ (bankF zs 1).getD 17 0 = 0 := by simpa using u17
            have g := h _ le17yy
            rw [mk] at g
            rw [if_neg u17] at g
            rw [if_pos u16] at g
            exact ⟨le17yy, g⟩
        · have u16 : ¬ (bankF zs 1).getD 16 0 = 0 := by simpa using u16
          refine req_intro hc (req_intro (by omega) (fun b17yn E17yn k17yn f17yn n17yn => ?_))
          have H17yn := Bs.cut (lo := 4224) (hi := 8448) (h0.mono le16y) f17yn n17yn (by decide) (by omega)
          have le17yn := Mem.le_trans le16y k17yn
          refine ⟨k17yn, H17yn.ne (i := 17) (by decide), (bankF zs 1).getD 17 0, H17yn.load rfl (i := 17) (by decide), condC (fun u17 => ?_) (fun u17 => ?_)⟩
          · have u17 : (bankF zs 1).getD 17 0 = 0 := by simpa using u17
            have g := h _ le17yn
            rw [mk] at g
            rw [if_pos u17] at g
            exact ⟨le17yn, g⟩
          · have u17 : ¬ (bankF zs 1).getD 17 0 = 0 := by simpa using u17
            have g := h _ le17yn
            rw [mk] at g
            rw [if_neg u17] at g
            rw [if_neg u16] at g
            rw [if_pos u15] at g
            exact ⟨le17yn, g⟩
      · have u15 : ¬ (bankF zs 1).getD 15 0 = 0 := by simpa using u15
        refine req_intro hc (req_intro (by omega) (fun b16n E16n k16n f16n n16n => ?_))
        have H16n := Bs.cut (lo := 4224) (hi := 8448) (h0.mono le15) f16n n16n (by decide) (by omega)
        have le16n := Mem.le_trans le15 k16n
        refine ⟨k16n, H16n.ne (i := 16) (by decide), (bankF zs 1).getD 16 0, H16n.load rfl (i := 16) (by decide), condC (fun u16 => ?_) (fun u16 => ?_)⟩
        · have u16 : (bankF zs 1).getD 16 0 = 0 := by simpa using u16
          refine req_intro hc (req_intro (by omega) (fun b17ny E17ny k17ny f17ny n17ny => ?_))
          have H17ny := Bs.cut (lo := 4224) (hi := 8448) (h0.mono le16n) f17ny n17ny (by decide) (by omega)
          have le17ny := Mem.le_trans le16n k17ny
          refine ⟨k17ny, H17ny.ne (i := 17) (by decide), (bankF zs 1).getD 17 0, H17ny.load rfl (i := 17) (by decide), condC (fun u17 => ?_) (fun u17 => ?_)⟩
          · have u17 : (bankF zs 1).getD 17 0 = 0 := by simpa using u17
            have g := h _ le17ny
            rw [mk] at g
            rw [if_pos u17] at g
            exact ⟨le17ny, g⟩
          · have u17 : ¬ (bankF zs 1).getD 17 0 = 0 := by simpa using u17
            have g := h _ le17ny
            rw [mk] at g
            rw [if_neg u17] at g
            rw [if_pos u16] at g
            exact ⟨le17ny, g⟩
        · have u16 : ¬ (bankF zs 1).getD 16 0 = 0 := by simpa using u16
          refine req_intro hc (req_intro (by omega) (fun b17nn E17nn k17nn f17nn n17nn => ?_))
          have H17nn := Bs.cut (lo := 4224) (hi := 8448) (h0.mono le16n) f17nn n17nn (by decide) (by omega)
          have le17nn := Mem.le_trans le16n k17nn
          refine ⟨k17nn, H17nn.ne (i := 17) (by decide), (bankF zs 1).getD 17 0, H17nn.load rfl (i := 17) (by decide), condC (fun u17 => ?_) (fun u17 => ?_)⟩
          · have u17 : (bankF zs 1).getD 17 0 = 0 := by simpa using u17
            have g := h _ le17nn
            rw [mk] at g
            rw [if_pos u17] at g
            exact ⟨le17nn, g⟩
          · have u17 : ¬ (bankF zs 1).getD 17 0 = 0 := by simpa using u17
            have g := h _ le17nn
            rw [mk] at g
            rw [if_neg u17] at g
            rw [if_neg u16] at g
            rw [if_neg u15] at g
            exact ⟨le17nn, g⟩
  · have := q.1; simp at g; omega
theorem q72H {a1 : Int} {b2 : Option Addr} {l3 : Nat} {c4 : Nat} {a5 : Int} {b6 : Option Addr} {l7 : Nat} {c8 : Nat} {zs : List Int} {ds : List Int} (h0 : Bs E b2 l3 c4 zs) (h1 : Bs E b6 l7 c8 ds) (h2 : validF a1 l3) (h3 : 0 ≤ a5) (h4 : a5 + l7 ≤ l3) (h : ∀ (b' : Option Addr) (l' c' : Nat) (ms : List (Int × List Int)) (E' : Mem), Mem.le E E' → Hyp (progF a1 zs a5 ds = (ms, 0)) → FL E' b' l' c' ms → K (.tup [L b' l' c', I 0]) E') :
    Ent FC 8 Try.f72 [.agg [I a1, L b2 l3 c4], I a5, L b6 l7 c8] E K := by
  refine s15 h0 h1 ?_
  intro b' l' c' ms e E' hE he hF
  have hl := h0.2.1
  have hd := h1.2.1
  have he : progF a1 zs a5 ds = (ms, e) := he
  have := he.symm.trans (progF_mk (by rw [hl]; exact h2) h3 (by omega))
  simp only [Prod.mk.injEq] at this
  obtain ⟨-, rfl⟩ := this
  exact h b' l' c' ms E' hE he hF
noncomputable def tabR7 : FuncId → List SV → Mem → (SV → Mem → Prop) → Prop := fun f args E K => match f with
  | 52 => d2 args fun x0 x1 => dC x0 fun l1 => d2 l1 fun x0_0 x0_1 => dI x0_0 fun a1 => dS x0_1 fun b2 l3 c4 => dI x1 fun a5 => ∃ (zs : List Int), Bs E b2 l3 c4 zs ∧ l3 = 8448 ∧ (((∀ E' : Mem, Mem.le E E' → Hyp (findF zs a5 = -1) → K (I (-1)) E') ∧ (∀ E' : Mem, Mem.le E E' → Hyp (findF zs a5 = 0) → K (I 0) E') ∧ (∀ E' : Mem, Mem.le E E' → Hyp (findF zs a5 = 1) → K (I 1) E')))
  | 72 => d3 args fun x0 x1 x2 => dC x0 fun l1 => d2 l1 fun x0_0 x0_1 => dI x0_0 fun a1 => dS x0_1 fun b2 l3 c4 => dI x1 fun a5 => dS x2 fun b6 l7 c8 => ∃ (zs : List Int) (ds : List Int), Bs E b2 l3 c4 zs ∧ Bs E b6 l7 c8 ds ∧ validF a1 l3 ∧ 0 ≤ a5 ∧ a5 + l7 ≤ l3 ∧ (∀ (b' : Option Addr) (l' c' : Nat) (ms : List (Int × List Int)) (E' : Mem), Mem.le E E' → Hyp (progF a1 zs a5 ds = (ms, 0)) → FL E' b' l' c' ms → K (.tup [L b' l' c', I 0]) E')
  | _ => False
theorem tabR7_ok : TabOK Try.prog tabR7 := by
  intro f args E K h
  unfold tabR7 at h
  split at h
  · replace h := d2_elim h
    obtain ⟨x0, x1, rfl, h⟩ := h
    replace h := dC_elim h
    obtain ⟨l1, hl1, h⟩ := h
    replace h := d2_elim h
    obtain ⟨x0_0, x0_1, rfl, h⟩ := h
    replace h := dI_elim h
    obtain ⟨a1, rfl, h⟩ := h
    replace h := dS_elim h
    obtain ⟨b2, l3, c4, rfl, h⟩ := h
    replace h := dI_elim h
    obtain ⟨a5, rfl, h⟩ := h
    obtain ⟨zs, g0, g1, h⟩ := h
    exact TabSem.congr (valL_cons (asCells_val hl1) (valL_cons rfl rfl)) (Ent.sem okR5 Try.func52 ⟨by kernel_rfl, by kernel_rfl⟩ rfl (q52 g0 g1 h))
  · replace h := d3_elim h
    obtain ⟨x0, x1, x2, rfl, h⟩ := h
    replace h := dC_elim h
    obtain ⟨l1, hl1, h⟩ := h
    replace h := d2_elim h
    obtain ⟨x0_0, x0_1, rfl, h⟩ := h
    replace h := dI_elim h
    obtain ⟨a1, rfl, h⟩ := h
    replace h := dS_elim h
    obtain ⟨b2, l3, c4, rfl, h⟩ := h
    replace h := dI_elim h
    obtain ⟨a5, rfl, h⟩ := h
    replace h := dS_elim h
    obtain ⟨b6, l7, c8, rfl, h⟩ := h
    obtain ⟨zs, ds, g0, g1, g2, g3, g4, h⟩ := h
    exact TabSem.congr (valL_cons (asCells_val hl1) (valL_cons rfl (valL_cons rfl rfl))) (Ent.sem okFC Try.func72 ⟨by kernel_rfl, by kernel_rfl⟩ rfl (q72H g0 g1 g2 g3 g4 h))
  · exact h.elim
noncomputable def R7 : Cx := { P := Try.prog, inl := fun f => List.contains [28, 47] f, tab := tabR7, isB := fun _ => false, tabB := fun _ _ _ _ _ => False, opt := { unroll := 0, carry := [] }, muts := mutsD }
theorem okR7 : CxOK R7 := CxOK.four tabR7_ok (by kernel_rfl) (okInl (by kernel_rfl)) (fun _ _ _ _ _ h => h.elim)
theorem q20r {a1 : Int} {b2 : Option Addr} {l3 : Nat} {c4 : Nat} {a5 : Int} {a6 : Int} {zs : List Int} (h0 : Bs E b2 l3 c4 zs) (h : ∀ (b' : Option Addr) (l' c' : Nat) (ms : List (Int × List Int)) (e : Int) (E' : Mem), Mem.le E E' → Hyp (markF a1 zs a5 a6 = (ms, e)) → FL E' b' l' c' ms → K (.tup [L b' l' c', I e]) E') :
    Ent R7 8 Try.f20 [.agg [I a1, L b2 l3 c4], I a5, I a6] E K := by
  refine same (by kernel_rfl) (?_ : bif a1 == (128 : Int) then Mem.le E E ∧ bif !bif true then (NI l3) == (8448 : Int) else false then Mem.le E E ∧ K (SV.tup [SV.raw (VS none 0 0), SV.raw (Value.int IntKind.i64 1)]) E else bif bif false then true else decide (a6 < (1 : Int)) then Mem.le E E ∧ K (SV.tup [SV.raw (VS none 0 0), SV.raw (Value.int IntKind.i64 1)]) E else bif bif false then true else decide (a6 > (3 : Int)) then Mem.le E E ∧ K (SV.tup [SV.raw (VS none 0 0), SV.raw (Value.int IntKind.i64 1)]) E else ∃ (zs : List Int), Bs E b2 l3 c4 zs ∧ l3 = 8448 ∧ (∀ (E' : Mem), Mem.le E E' → Hyp (findF zs a5 = (-1 : Int)) → Mem.le E E' ∧ Mem.le E E' ∧ K (SV.tup [SV.raw (VS none 0 0), SV.raw (Value.int IntKind.i64 4)]) E') ∧ (∀ (E' : Mem), Mem.le E E' → Hyp (findF zs a5 = (0 : Int)) → Mem.le E E' ∧ ∀ (base : Option Addr) (E'_1 : Mem), Mem.le E' E'_1 → WinE E'_1 base [U8 0] → ∃ (zs : List Int), ∃ (ds : List Int), Bs E'_1 b2 l3 c4 zs ∧ Bs E'_1 (Option.map (fun (x : Addr) => Addr.add x 0) base) 1 1 ds ∧ validF a1 l3 ∧ (0 : Int) ≤ WI ((14 : Int) + a6) ∧ WI ((14 : Int) + a6) + (1 : Int) ≤ (NI l3) ∧ ∀ (b' : Option Addr) (l' c' : Nat) (ms : List (Int × List Int)) (E' : Mem), Mem.le E'_1 E' → Hyp (progF a1 zs (WI ((14 : Int) + a6)) ds = (ms, (0 : Int))) → FL E' b' l' c' ms → req (l' ≤ c') (req ((0 : Int) ≤ (1 : Int) ∧ (1 : Int) ≤ (NI (toN none l'))) (∀ (base' : Option Addr) (E'_2 : Mem), Mem.le E' E'_2 → (∀ (cs : List Value), E' (VS b' l' c') cs → E'_2 (VS base' (toN none l' - 1) (toN none c' - 1)) (List.take ((toN none l' - 1) * 2) (List.drop 2 cs))) → Option.isNone base' = Option.isNone b' → ∃ (cs : List Value), (cs = [] ∨ E'_2 (VS base' (toN none l' - 1) (toN none c' - 1)) cs) ∧ (toN none l' - 1) * 2 ≤ List.length cs ∧ (∀ (x : Value), List.Mem x cs → Value.oneCell' x = true) ∧ 2 ≤ 2 ∧ 2 ≤ 2 ∧ 1 ≤ 1 ∧ req ((1 + (toN none l' - 1)) * 32 ≤ 140737488355328) (∀ (cap' tot' : Nat), 1 + (toN none l' - 1) ≤ cap' → cap' * 2 ≤ tot' → ∀ (base : Option Addr) (E' : Mem), Mem.le E'_2 E' → WinE E' base (Value.int IntKind.i64 a1 :: VS b2 l3 c4 :: (List.take ((toN none l' - (1 : Nat)) * 2) cs)) → Mem.le E E' ∧ K (SV.tup [SV.raw (VS (Option.map (fun (x : Addr) => Addr.add x 0) base) (1 + (toN none l' - (1 : Nat))) cap'), SV.raw (Value.int IntKind.i64 0)]) E')))) ∧ ∀ (E' : Mem), Mem.le E E' → Hyp (findF zs a5 = (1 : Int)) → Mem.le E E' ∧ ∀ (base : Option Addr) (E'_1 : Mem), Mem.le E' E'_1 → WinE E'_1 base [U8 0] → ∃ (zs : List Int), ∃ (ds : List Int), Bs E'_1 b2 l3 c4 zs ∧ Bs E'_1 (Option.map (fun (x : Addr) => Addr.add x 0) base) 1 1 ds ∧ validF a1 l3 ∧ (0 : Int) ≤ WI ((4238 : Int) + a6) ∧ WI ((4238 : Int) + a6) + (1 : Int) ≤ (NI l3) ∧ ∀ (b' : Option Addr) (l' c' : Nat) (ms : List (Int × List Int)) (E' : Mem), Mem.le E'_1 E' → Hyp (progF a1 zs (WI ((4238 : Int) + a6)) ds = (ms, (0 : Int))) → FL E' b' l' c' ms → req (l' ≤ c') (req ((0 : Int) ≤ (1 : Int) ∧ (1 : Int) ≤ (NI (toN none l'))) (∀ (base' : Option Addr) (E'_2 : Mem), Mem.le E' E'_2 → (∀ (cs : List Value), E' (VS b' l' c') cs → E'_2 (VS base' (toN none l' - 1) (toN none c' - 1)) (List.take ((toN none l' - 1) * 2) (List.drop 2 cs))) → Option.isNone base' = Option.isNone b' → ∃ (cs : List Value), (cs = [] ∨ E'_2 (VS base' (toN none l' - 1) (toN none c' - 1)) cs) ∧ (toN none l' - 1) * 2 ≤ List.length cs ∧ (∀ (x : Value), List.Mem x cs → Value.oneCell' x = true) ∧ 2 ≤ 2 ∧ 2 ≤ 2 ∧ 1 ≤ 1 ∧ req ((1 + (toN none l' - 1)) * 32 ≤ 140737488355328) (∀ (cap' tot' : Nat), 1 + (toN none l' - 1) ≤ cap' → cap' * 2 ≤ tot' → ∀ (base : Option Addr) (E' : Mem), Mem.le E'_2 E' → WinE E' base (Value.int IntKind.i64 a1 :: VS b2 l3 c4 :: (List.take ((toN none l' - (1 : Nat)) * 2) cs)) → Mem.le E E' ∧ K (SV.tup [SV.raw (VS (Option.map (fun (x : Addr) => Addr.add x 0) base) (1 + (toN none l' - (1 : Nat))) cap'), SV.raw (Value.int IntKind.i64 0)]) E'))) else Mem.le E E ∧ Mem.le E E ∧ K (SV.tup [SV.raw (VS none 0 0), SV.raw (Value.int IntKind.i64 1)]) E)
  delta WI NI U8 VS
  have hl := h0.2.1
  have hc := h0.2.2.1
  have no : (¬ memB a1 zs.length ∨ a6 < 1 ∨ 3 < a6) → K (.tup [L none 0 0, I 1]) E := fun q => h none 0 0 [] 1 E (Mem.le_refl _) (by show markF a1 zs a5 a6 = _; unfold markF; rw [if_pos q]) (FL.nil _)
  refine condC (fun g => ⟨Mem.le_refl _, condC (fun g2 => ⟨Mem.le_refl _, no (.inl fun q => ?_)⟩) (fun g2 => condC (fun g3 => ⟨Mem.le_refl _, no (.inr (.inl ?_))⟩) (fun g3 => condC (fun g4 => ⟨Mem.le_refl _, no (.inr (.inr ?_))⟩) (fun g4 => ?_)))⟩) (fun g => ⟨Mem.le_refl _, Mem.le_refl _, no (.inl fun q => ?_)⟩)
  · have := q.2; simp at g2; omega
  · simpa using g3
  · simpa using g4
  · have g : a1 = 128 := by simpa using g
    have g2 : l3 = 8448 := by simp at g2; omega
    have g3 : 1 ≤ a6 := by simp at g3; omega
    have g4 : a6 ≤ 3 := by simp at g4; omega
    have zl : zs.length = 8448 := by omega
    refine ⟨zs, h0, g2, fun E1 k1 r1 => ⟨k1, k1, ?_⟩, fun E1 k1 r1 => ⟨k1, ?_⟩, fun E1 k1 r1 => ⟨k1, ?_⟩⟩
    · have r1 : findF zs a5 = -1 := r1
      refine h none 0 0 [] 4 E1 k1 ?_ (FL.nil _)
      show markF a1 zs a5 a6 = _
      unfold markF
      rw [if_neg (fun q => q.elim (fun z => z ⟨g, zl⟩) (fun z => by omega)), r1, if_pos (by decide)]
    · have r1 : findF zs a5 = 0 := r1
      have w1 : IntKind.wrap .i64 ((14 : Int) + a6) = ((14 + a6.toNat : Nat) : Int) := by rw [wrap_i64 (by omega)]; omega
      rw [w1]
      refine fun bw Ew kw ww => ⟨zs, [0], h0.mono (Mem.le_trans k1 kw), Bs.win (zs := [0]) ww rfl rfl (Nat.le_refl _) (by decide), by rw [g, g2]; exact validB, by omega, by omega, fun b3 l4 c3 m3 E3 k3 r3 F3 => ?_⟩
      have r3 : progF a1 zs ((14 + a6.toNat : Nat) : Int) [0] = (m3, 0) := r3
      have kk3 := Mem.le_trans k1 (Mem.le_trans kw k3)
      have X0 : LI E [(a1, b2, l3, c4)] [(a1, zs)] 1 1 2 1 := ⟨FLr.snoc (FLr.nil E) rfl h0, rfl, ⟨Nat.le_refl _, Nat.le_refl _⟩, ⟨Nat.le_refl _, Nat.le_refl _⟩, g, zl⟩
      subst g
      obtain ⟨p1, p2, p3, p4⟩ := prog_li (ms := [((128 : Int), zs)]) rfl zl (by show 14 + a6.toNat + 1 ≤ 8448; omega) r3
      have ee : progL [((128 : Int), zs)] (14 + a6.toNat) [0] = m3 := by
        rw [← p2]
        have r4 := r3
        rw [progF_mk (by rw [zl]; exact validB) (by omega) (by show (((14 + a6.toNat : Nat) : Int)) + 1 ≤ _; rw [zl]; omega)] at r4
        rw [← (Prod.mk.inj r4).1]; rfl
      refine X0.app kk3 F3 p1 (by show 1 + 1 ≤ 100000; decide) p2 p3 p4 fun base' E' cs cap' tot' rs' e1 e2 e3 base E5 k5 w5 => ?_
      have kk5 := Mem.le_trans kk3 (Mem.le_trans e2 k5)
      refine ⟨kk5, h _ _ _ m3 0 E5 kk5 ?_ (FL.win w5 e1 ((ee ▸ e3.R).mono k5) (ee ▸ e3.hn) e3.hc.1)⟩
      show markF 128 zs a5 a6 = (m3, 0)
      unfold markF
      rw [if_neg (fun q => q.elim (fun z => z ⟨rfl, zl⟩) (fun z => by omega)), r1, if_neg (by decide), ← r3]
      congr 1
      omega
    · have r1 : findF zs a5 = 1 := r1
      have w1 : IntKind.wrap .i64 ((4238 : Int) + a6) = ((4238 + a6.toNat : Nat) : Int) := by rw [wrap_i64 (by omega)]; omega
      rw [w1]
      refine fun bw Ew kw ww => ⟨zs, [0], h0.mono (Mem.le_trans k1 kw), Bs.win (zs := [0]) ww rfl rfl (Nat.le_refl _) (by decide), by rw [g, g2]; exact validB, by omega, by omega, fun b3 l4 c3 m3 E3 k3 r3 F3 => ?_⟩
      have r3 : progF a1 zs ((4238 + a6.toNat : Nat) : Int) [0] = (m3, 0) := r3
      have kk3 := Mem.le_trans k1 (Mem.le_trans kw k3)
      have X0 : LI E [(a1, b2, l3, c4)] [(a1, zs)] 1 1 2 1 := ⟨FLr.snoc (FLr.nil E) rfl h0, rfl, ⟨Nat.le_refl _, Nat.le_refl _⟩, ⟨Nat.le_refl _, Nat.le_refl _⟩, g, zl⟩
      subst g
      obtain ⟨p1, p2, p3, p4⟩ := prog_li (ms := [((128 : Int), zs)]) rfl zl (by show 4238 + a6.toNat + 1 ≤ 8448; omega) r3
      have ee : progL [((128 : Int), zs)] (4238 + a6.toNat) [0] = m3 := by
        rw [← p2]
        have r4 := r3
        rw [progF_mk (by rw [zl]; exact validB) (by omega) (by show (((4238 + a6.toNat : Nat) : Int)) + 1 ≤ _; rw [zl]; omega)] at r4
        rw [← (Prod.mk.inj r4).1]; rfl
      refine X0.app kk3 F3 p1 (by show 1 + 1 ≤ 100000; decide) p2 p3 p4 fun base' E' cs cap' tot' rs' e1 e2 e3 base E5 k5 w5 => ?_
      have kk5 := Mem.le_trans kk3 (Mem.le_trans e2 k5)
      refine ⟨kk5, h _ _ _ m3 0 E5 kk5 ?_ (FL.win w5 e1 ((ee ▸ e3.R).mono k5) (ee ▸ e3.hn) e3.hc.1)⟩
      show markF 128 zs a5 a6 = (m3, 0)
      unfold markF
      rw [if_neg (fun q => q.elim (fun z => z ⟨rfl, zl⟩) (fun z => by omega)), r1, if_neg (by decide), ← r3]
      congr 1
      omega
  · have := q.1; simp at g; omega
theorem q49H {a1 : Int} {b2 : Option Addr} {l3 : Nat} {c4 : Nat} {a5 : Int} {zs : List Int} (h0 : Bs E b2 l3 c4 zs) (h1 : validF a1 l3) (h2 : 0 ≤ a5) (h3 : a5 < (l3 : Int) / a1) (h : ∀ (b' : Option Addr) (l' c' : Nat) (ms : List (Int × List Int)) (E' : Mem), Mem.le E E' → Hyp (erasF a1 zs a5 = (ms, 0)) → FL E' b' l' c' ms → K (.tup [L b' l' c', I 0]) E') :
    Ent FD 8 Try.f49 [.agg [I a1, L b2 l3 c4], I a5] E K := by
  refine s17 h0 ?_
  intro b' l' c' ms e E' hE he hF
  have hl := h0.2.1
  have he : erasF a1 zs a5 = (ms, e) := he
  have := he.symm.trans (erasF_mk (by rw [hl]; exact h1) h2 (by rw [hl]; exact h3))
  simp only [Prod.mk.injEq] at this
  obtain ⟨-, rfl⟩ := this
  exact h b' l' c' ms E' hE he hF
noncomputable def R9 : Cx := { P := Try.prog, inl := fun f => List.contains [] f, tab := fun _ _ _ _ => False, isB := fun _ => false, tabB := fun _ _ _ _ _ => False, opt := { unroll := 0, carry := [5] }, muts := mutsD }
theorem okR9 : CxOK R9 := CxOK.four (fun _ _ _ _ h => h.elim) (by kernel_rfl) (okInl (by kernel_rfl)) (fun _ _ _ _ _ h => h.elim)
def sh48 (a1 : Int) (b2 : Option Addr) (l3 c4 k i : Nat) (E : Mem) : St := ⟨[none, some (I (k : Nat)), some (.loc 0 0), none, none, some (I (i : Nat))] ++ List.replicate 13 none, [⟨24, .lst [I a1, L b2 l3 c4], 2, true⟩], E⟩
theorem r48 {a1 : Int} {b2 : Option Addr} {l3 c4 k i : Nat} {zs : List Int} {E0 : Mem} (h0 : Bs E b2 l3 c4 zs) (h1 : l3 = 8448) (hk : k < 66) (hi : i ≤ 128) (hp : ∀ j, j < i → zs.getD (k * 128 + j) 0 = 255) (hE : Mem.le E0 E) (h : K (B (((zs.drop (k * 128)).take 128).any fun x => decide (x ≠ 255))) E)
    (ih : i < 128 → (∀ j, j < i + 1 → zs.getD (k * 128 + j) 0 = 255) → Lp R9 8 Try.f48 [1, 0, 1, 0] 0 (pubK E0 K) (sh48 a1 b2 l3 c4 k (i + 1) E)) : Rnd R9 8 Try.f48 [1, 0, 1, 0] 0 (pubK E0 K) (sh48 a1 b2 l3 c4 k i E) := by
  refine same (by kernel_rfl) (?_ : bif decide ((NI i) < (128 : Int)) then req ((0 : Int) ≤ WI (WI ((NI k) * (128 : Int)) + (NI i)) ∧ WI (WI ((NI k) * (128 : Int)) + (NI i)) < (NI l3)) ((∃ (cs : List Value), E (VS b2 l3 c4) cs ∧ (cs = [] → False)) ∧ ∃ (n : Int), LoadE R9.P E 5 (VS b2 l3 c4) (Int.toNat (WI (WI ((NI k) * (128 : Int)) + (NI i))) * 1) (SV.raw (U8 n)) ∧ bif n != (255 : Int) then Mem.le E0 E ∧ K (SV.raw (Value.bool true)) E else Lp R9 8 Try.f48 [1, 0, 1, 0] 0 (pubK E0 K) { fr := none :: some (I (NI k)) :: some (SV.loc 0 0) :: none :: none :: some (I (WI ((NI i) + (1 : Int)))) :: n8 (n4 (none :: [])), bx := [⟨24, .lst [I a1, L b2 l3 c4], 2, true⟩], E := E : St }) else Mem.le E0 E ∧ K (SV.raw (Value.bool false)) E)
  delta WI NI U8 VS n4 n8
  have z0 := h0.2.1
  have w1 : IntKind.wrap .i64 ((k : Int) * 128) = ((k * 128 : Nat) : Int) := by rw [wrap_i64 (by omega)]; omega
  have w2 : IntKind.wrap .i64 (IntKind.wrap .i64 ((k : Int) * 128) + (i : Int)) = ((k * 128 + i : Nat) : Int) := by rw [w1, wrap_i64 (by omega)]; omega
  have w3 : IntKind.wrap .i64 ((i : Int) + 1) = ((i + 1 : Nat) : Int) := by rw [wrap_i64 (by omega)]; omega
  have gd : ∀ j, j < 128 → ((zs.drop (k * 128)).take 128)[j]? = some (zs.getD (k * 128 + j) 0) := fun j hj => by
    rw [List.getElem?_take_of_lt hj, List.getElem?_drop, List.getD_eq_getElem?_getD, List.getElem?_eq_getElem (by omega)]; rfl
  rw [w2, w3]
  refine condC (fun g => ?_) (fun g => ⟨hE, ?_⟩)
  · have g : i < 128 := by simp at g; omega
    refine req_intro (by omega) ⟨h0.ne (i := k * 128 + i) (by omega), zs.getD (k * 128 + i) 0, h0.load rfl (i := k * 128 + i) (by omega), condC (fun q => ⟨hE, ?_⟩) (fun q => ?_)⟩
    · have q : zs.getD (k * 128 + i) 0 ≠ 255 := by simpa using q
      rw [List.any_eq_true.2 ⟨_, List.mem_of_getElem? (gd i g), by simpa using q⟩] at h
      exact h
    · have q : zs.getD (k * 128 + i) 0 = 255 := by simpa using q
      refine Lp_re [some 0] (ih g fun j hj => ?_) (wkG (Mem.le_refl _))
      by_cases c : j < i
      · exact hp j c
      · rw [show j = i by omega]; exact q
  · have g : i = 128 := by simp at g; omega
    have e : ((zs.drop (k * 128)).take 128).any (fun x => decide (x ≠ 255)) = false := by
      rw [List.any_eq_false]
      intro x hx
      obtain ⟨j, hj⟩ := List.getElem?_of_mem hx
      have hj2 : j < 128 := by
        have := (List.getElem?_eq_some_iff.1 hj).1
        rw [List.length_take] at this; omega
      rw [gd j hj2] at hj
      rw [← Option.some.inj hj, hp j (by omega)]; decide
    rw [e] at h
    exact h
theorem q48 {a1 : Int} {b2 : Option Addr} {l3 : Nat} {c4 : Nat} {a5 : Int} {zs : List Int} (h0 : Bs E b2 l3 c4 zs) (h1 : l3 = 8448) (h2 : 0 ≤ a5) (h3 : a5 < 66) (h : K (B (((zs.drop (Int.toNat a5 * 128)).take 128).any fun x => decide (x ≠ 255))) E) :
    Ent R9 8 Try.f48 [.agg [I a1, L b2 l3 c4], I a5] E K := by
  refine same (by kernel_rfl) (?_ : Lp R9 8 Try.f48 [1, 0, 1, 0] 0 (pubK E K) { fr := [some (SV.agg [I a1, L b2 l3 c4]), some (I a5), some (SV.loc 0 0), none, none, some (I (0 : Int)), none, none, none, none, none, none, none, none, none, none, none, none, none], bx := [⟨24, Row.lst [I a1, L b2 l3 c4], 2, true⟩], E := E : St })
  obtain ⟨k, rfl⟩ : ∃ k : Nat, a5 = k := ⟨a5.toNat, by omega⟩
  rw [Int.toNat_natCast] at h
  refine Lp_re [some 0] (Lp_ind okR9 (fun x : {i : Nat // i ≤ 128 ∧ ∀ j, j < i → zs.getD (k * 128 + j) 0 = 255} => sh48 a1 b2 l3 c4 k x.1 E) (fun x => 128 - x.1) (fun x ih => r48 h0 h1 (by omega) x.2.1 x.2.2 (Mem.le_refl _) h fun g e => ih ⟨x.1 + 1, by omega, e⟩ (by show 128 - (_ + 1) < 128 - _; omega)) ⟨0, by decide, fun j hj => by omega⟩) (wkG (Mem.le_refl _))
noncomputable def tabRA : FuncId → List SV → Mem → (SV → Mem → Prop) → Prop := fun f args E K => match f with
  | 16 => d1 args fun x0 => dC x0 fun l1 => d2 l1 fun x0_0 x0_1 => dI x0_0 fun a1 => dS x0_1 fun b2 l3 c4 => ∃ (zs : List Int), Bs E b2 l3 c4 zs ∧ (∀ (v : Int) (d : List Int) (e : Int) (b' : Option Addr) (l' c' : Nat) (E' : Mem), Mem.le E E' → Hyp (selectF a1 zs = ((v, d), e)) → Bs E' b' l' c' d → K (.tup [I v, L b' l' c', I e]) E')
  | 46 => d1 args fun x0 => dC x0 fun l1 => d2 l1 fun x0_0 x0_1 => dI x0_0 fun a1 => dS x0_1 fun b2 l3 c4 => ∃ (zs : List Int), Bs E b2 l3 c4 zs ∧ l3 = 8448 ∧ (∀ E' : Mem, Mem.le E E' → K (I (if (progB (bankF zs 1)).1 > (progB (bankF zs 0)).1 then (progB (bankF zs 1)).1 else (progB (bankF zs 0)).1)) E')
  | 39 => d1 args fun x0 => dC x0 fun l1 => d2 l1 fun x0_0 x0_1 => dI x0_0 fun a1 => dS x0_1 fun b2 l3 c4 => ∃ (zs : List Int), Bs E b2 l3 c4 zs ∧ l3 = 8448 ∧ (((∀ E' : Mem, Mem.le E E' → Hyp (selF zs = -1) → K (I (-1)) E') ∧ (∀ E' : Mem, Mem.le E E' → Hyp (selF zs = 0) → K (I 0) E') ∧ (∀ E' : Mem, Mem.le E E' → Hyp (selF zs = 1) → K (I 1) E')))
  | 34 => d2 args fun x0 x1 => dI x0 fun a1 => dS x1 fun b2 l3 c4 => ∃ (zs : List Int), Bs E b2 l3 c4 zs ∧ 0 ≤ a1 ∧ a1 ≤ 1000000000 ∧ l3 ≤ 4096 ∧ (∀ (b' : Option Addr) (l' c' : Nat) (ys : List Int) (E' : Mem), Mem.le E E' → Hyp (ys = hidH a1 zs) → Bs E' b' l' c' ys → K (L b' l' c') E')
  | 72 => d3 args fun x0 x1 x2 => dC x0 fun l1 => d2 l1 fun x0_0 x0_1 => dI x0_0 fun a1 => dS x0_1 fun b2 l3 c4 => dI x1 fun a5 => dS x2 fun b6 l7 c8 => ∃ (zs : List Int) (ds : List Int), Bs E b2 l3 c4 zs ∧ Bs E b6 l7 c8 ds ∧ validF a1 l3 ∧ 0 ≤ a5 ∧ a5 + l7 ≤ l3 ∧ (∀ (b' : Option Addr) (l' c' : Nat) (ms : List (Int × List Int)) (E' : Mem), Mem.le E E' → Hyp (progF a1 zs a5 ds = (ms, 0)) → FL E' b' l' c' ms → K (.tup [L b' l' c', I 0]) E')
  | 49 => d2 args fun x0 x1 => dC x0 fun l1 => d2 l1 fun x0_0 x0_1 => dI x0_0 fun a1 => dS x0_1 fun b2 l3 c4 => dI x1 fun a5 => ∃ (zs : List Int), Bs E b2 l3 c4 zs ∧ validF a1 l3 ∧ 0 ≤ a5 ∧ a5 < (l3 : Int) / a1 ∧ (∀ (b' : Option Addr) (l' c' : Nat) (ms : List (Int × List Int)) (E' : Mem), Mem.le E E' → Hyp (erasF a1 zs a5 = (ms, 0)) → FL E' b' l' c' ms → K (.tup [L b' l' c', I 0]) E')
  | 48 => d2 args fun x0 x1 => dC x0 fun l1 => d2 l1 fun x0_0 x0_1 => dI x0_0 fun a1 => dS x0_1 fun b2 l3 c4 => dI x1 fun a5 => ∃ (zs : List Int), Bs E b2 l3 c4 zs ∧ l3 = 8448 ∧ 0 ≤ a5 ∧ a5 < 66 ∧ (K (B (((zs.drop (Int.toNat a5 * 128)).take 128).any fun x => decide (x ≠ 255))) E)
  | _ => False
theorem tabRA_ok : TabOK Try.prog tabRA := by
  intro f args E K h
  unfold tabRA at h
  split at h
  · replace h := d1_elim h
    obtain ⟨x0, rfl, h⟩ := h
    replace h := dC_elim h
    obtain ⟨l1, hl1, h⟩ := h
    replace h := d2_elim h
    obtain ⟨x0_0, x0_1, rfl, h⟩ := h
    replace h := dI_elim h
    obtain ⟨a1, rfl, h⟩ := h
    replace h := dS_elim h
    obtain ⟨b2, l3, c4, rfl, h⟩ := h
    obtain ⟨zs, g0, h⟩ := h
    exact TabSem.congr (valL_cons (asCells_val hl1) rfl) (Ent.sem okR4 Try.func16 ⟨by kernel_rfl, by kernel_rfl⟩ rfl (q16r g0 h))
  · replace h := d1_elim h
    obtain ⟨x0, rfl, h⟩ := h
    replace h := dC_elim h
    obtain ⟨l1, hl1, h⟩ := h
    replace h := d2_elim h
    obtain ⟨x0_0, x0_1, rfl, h⟩ := h
    replace h := dI_elim h
    obtain ⟨a1, rfl, h⟩ := h
    replace h := dS_elim h
    obtain ⟨b2, l3, c4, rfl, h⟩ := h
    obtain ⟨zs, g0, g1, h⟩ := h
    exact TabSem.congr (valL_cons (asCells_val hl1) rfl) (Ent.sem okR5 Try.func46 ⟨by kernel_rfl, by kernel_rfl⟩ rfl (q46 g0 g1 h))
  · replace h := d1_elim h
    obtain ⟨x0, rfl, h⟩ := h
    replace h := dC_elim h
    obtain ⟨l1, hl1, h⟩ := h
    replace h := d2_elim h
    obtain ⟨x0_0, x0_1, rfl, h⟩ := h
    replace h := dI_elim h
    obtain ⟨a1, rfl, h⟩ := h
    replace h := dS_elim h
    obtain ⟨b2, l3, c4, rfl, h⟩ := h
    obtain ⟨zs, g0, g1, h⟩ := h
    exact TabSem.congr (valL_cons (asCells_val hl1) rfl) (Ent.sem okR3 Try.func39 ⟨by kernel_rfl, by kernel_rfl⟩ rfl (q39 g0 g1 h))
  · replace h := d2_elim h
    obtain ⟨x0, x1, rfl, h⟩ := h
    replace h := dI_elim h
    obtain ⟨a1, rfl, h⟩ := h
    replace h := dS_elim h
    obtain ⟨b2, l3, c4, rfl, h⟩ := h
    obtain ⟨zs, g0, g1, g2, g3, h⟩ := h
    exact TabSem.congr (valL_cons rfl (valL_cons rfl rfl)) (Ent.sem okH2 Try.func34 ⟨by kernel_rfl, by kernel_rfl⟩ rfl (q34 g0 g1 g2 g3 h))
  · replace h := d3_elim h
    obtain ⟨x0, x1, x2, rfl, h⟩ := h
    replace h := dC_elim h
    obtain ⟨l1, hl1, h⟩ := h
    replace h := d2_elim h
    obtain ⟨x0_0, x0_1, rfl, h⟩ := h
    replace h := dI_elim h
    obtain ⟨a1, rfl, h⟩ := h
    replace h := dS_elim h
    obtain ⟨b2, l3, c4, rfl, h⟩ := h
    replace h := dI_elim h
    obtain ⟨a5, rfl, h⟩ := h
    replace h := dS_elim h
    obtain ⟨b6, l7, c8, rfl, h⟩ := h
    obtain ⟨zs, ds, g0, g1, g2, g3, g4, h⟩ := h
    exact TabSem.congr (valL_cons (asCells_val hl1) (valL_cons rfl (valL_cons rfl rfl))) (Ent.sem okFC Try.func72 ⟨by kernel_rfl, by kernel_rfl⟩ rfl (q72H g0 g1 g2 g3 g4 h))
  · replace h := d2_elim h
    obtain ⟨x0, x1, rfl, h⟩ := h
    replace h := dC_elim h
    obtain ⟨l1, hl1, h⟩ := h
    replace h := d2_elim h
    obtain ⟨x0_0, x0_1, rfl, h⟩ := h
    replace h := dI_elim h
    obtain ⟨a1, rfl, h⟩ := h
    replace h := dS_elim h
    obtain ⟨b2, l3, c4, rfl, h⟩ := h
    replace h := dI_elim h
    obtain ⟨a5, rfl, h⟩ := h
    obtain ⟨zs, g0, g1, g2, g3, h⟩ := h
    exact TabSem.congr (valL_cons (asCells_val hl1) (valL_cons rfl rfl)) (Ent.sem okFD Try.func49 ⟨by kernel_rfl, by kernel_rfl⟩ rfl (q49H g0 g1 g2 g3 h))
  · replace h := d2_elim h
    obtain ⟨x0, x1, rfl, h⟩ := h
    replace h := dC_elim h
    obtain ⟨l1, hl1, h⟩ := h
    replace h := d2_elim h
    obtain ⟨x0_0, x0_1, rfl, h⟩ := h
    replace h := dI_elim h
    obtain ⟨a1, rfl, h⟩ := h
    replace h := dS_elim h
    obtain ⟨b2, l3, c4, rfl, h⟩ := h
    replace h := dI_elim h
    obtain ⟨a5, rfl, h⟩ := h
    obtain ⟨zs, g0, g1, g2, g3, h⟩ := h
    exact TabSem.congr (valL_cons (asCells_val hl1) (valL_cons rfl rfl)) (Ent.sem okR9 Try.func48 ⟨by kernel_rfl, by kernel_rfl⟩ rfl (q48 g0 g1 g2 g3 h))
  · exact h.elim
noncomputable def RA : Cx := { P := Try.prog, inl := fun f => List.contains [32, 47] f, tab := tabRA, isB := fun _ => false, tabB := fun _ _ _ _ _ => False, opt := { unroll := 0, carry := [12, 13], cuts := [10, 12, 19, 20, 21] }, muts := (fun o => match o with | .call _ => true | o => mutsD o) }
theorem okRA : CxOK RA := CxOK.four tabRA_ok (by kernel_rfl) (okInl (by kernel_rfl)) (fun _ _ _ _ _ h => h.elim)
def shI_0 (s v : Int) (b pb : Option Addr) (l c pl pc n cap tot : Nat) (rs : List FRow) (E : Mem) : St := ⟨[none, some (I v), some (L pb pl pc), some (.loc 0 0), none, none, none, none, none, none, none, some (I 0), some (.slc 1 0 n cap)] ++ List.replicate 89 none, [⟨24, .lst [I s, L b l c], 2, true⟩, ⟨24, .vals (rs.flatMap rowV), tot, true⟩], E⟩
theorem i19_0 {s v : Int} {b pb : Option Addr} {l c pl pc n cap tot N : Nat} {rs : List FRow} {ms : List (Int × List Int)} {p : List Int} {KK : KT} (hp : Bs E pb pl pc p) (hpl : pl ≤ 4096) (X : LI E rs ms n cap tot N) (hN : N ≤ 60000) (h : ∀ (E' : Mem) (n' cap' tot' : Nat) (rs' : List FRow), Mem.le E E' → LI E' rs' (progL ms 32 p) n' cap' tot' (N + p.length) → Ct RA 8 Try.f18 [1, 1, 1, 1, 1, 1, 1, 1, 1, 1] 0 KK (shI_0 s v b pb l c pl pc n' cap' tot' rs' E')) : Pc RA 8 Try.f18 [1, 1, 1, 1, 1, 1, 1, 1, 1] 0 KK (shI_0 s v b pb l c pl pc n cap tot rs E) := by
  refine same (by kernel_rfl) (?_ : req ((0 : Int) ≤ WI ((NI n) - (1 : Int)) ∧ WI ((NI n) - (1 : Int)) < (NI n)) (∃ (n_1 : Int), ∃ (base : Option Addr), ∃ (len : Nat), ∃ (cap_1 : Nat), LoadV RA.P 24 (List.flatMap rowV rs) (0 + Int.toNat (WI ((NI n) - (1 : Int))) * 2) (SV.agg [SV.raw (Value.int IntKind.i64 n_1), SV.raw (VS base len cap_1)]) ∧ ∃ (zs : List Int), ∃ (ds : List Int), Bs E base len cap_1 zs ∧ Bs E pb pl pc ds ∧ validF n_1 len ∧ (0 : Int) ≤ (32 : Int) ∧ (32 : Int) + (NI pl) ≤ (NI len) ∧ ∀ (b' : Option Addr) (l' c' : Nat) (ms : List (Int × List Int)) (E' : Mem), Mem.le E E' → Hyp (progF n_1 zs 32 ds = (ms, (0 : Int))) → FL E' b' l' c' ms → Mem.le E E' ∧ req (l' ≤ c') (req ((0 : Int) ≤ (1 : Int) ∧ (1 : Int) ≤ (NI (toN none l'))) (∀ (base' : Option Addr) (E'_1 : Mem), Mem.le E' E'_1 → (∀ (cs : List Value), E' (VS b' l' c') cs → E'_1 (VS base' (toN none l' - 1) (toN none c' - 1)) (List.take ((toN none l' - 1) * 2) (List.drop 2 cs))) → Option.isNone base' = Option.isNone b' → ∃ (cs : List Value), (cs = [] ∨ E'_1 (VS base' (toN none l' - 1) (toN none c' - 1)) cs) ∧ (toN none l' - 1) * 2 ≤ List.length cs ∧ (∀ (x : Value), List.Mem x cs → Value.oneCell' x = true) ∧ n * 2 ≤ List.length (Row.cells (Row.vals (List.flatMap rowV rs))) ∧ cap * 2 ≤ tot ∧ n ≤ cap ∧ req ((n + (toN none l' - 1)) * 32 ≤ 140737488355328) (∀ (cap' tot' : Nat), n + (toN none l' - 1) ≤ cap' → cap' * 2 ≤ tot' → Ct RA 8 Try.f18 [1, 1, 1, 1, 1, 1, 1, 1, 1, 1] 0 KK { fr := none :: some (I v) :: some (L pb pl pc) :: some (SV.loc 0 0) :: n4 (n2 (none :: (some (I 0) :: some (SV.slc 2 0 (n + (toN none l' - 1)) cap') :: n32 (n32 (n4 (n2 (some (SV.slc 1 0 n cap) :: some (I 0) :: some (I 0) :: some (I 32) :: some (L pb pl pc) :: some (SV.slc 2 0 (n + (toN none l' - 1)) cap') :: n8 (n4 (none :: []))))))))), bx := [⟨24, .lst [I s, L b l c], 2, true⟩, ⟨24, .lst [], 0, false⟩, ⟨24, .vals (List.take (n * 2) (List.flatMap rowV rs) ++ List.take ((toN none l' - 1) * 2) cs), tot', true⟩], E := E'_1 : St })))))
  delta WI NI VS n2 n4 n8 n32
  obtain ⟨q1, b2, c2, q2, q3⟩ := X.load (by omega)
  have pl1 : p.length = pl := hp.2.1
  refine req_intro q1 ⟨128, b2, 8448, c2, q2, _, _, q3, hp, validB, by decide, by omega, fun b3 l3 c3 m3 E3 k3 r3 F3 => ⟨k3, ?_⟩⟩
  have r3 : progF 128 (lastM ms).2 ((32 : Nat) : Int) p = (m3, 0) := r3
  obtain ⟨p1, p2, p3, p4⟩ := prog_li X.l1 X.l2 (by omega) r3
  refine X.app k3 F3 p1 (by omega) p2 p3 p4 fun base' E' cs cap' tot' rs' e1 e2 e3 => ?_
  rw [e1]
  exact Ct_re [some 0, some 2] (h E' _ cap' tot' rs' (Mem.le_trans k3 e2) e3) (wkG (Mem.le_refl _))
theorem i20_0 {s v : Int} {b pb : Option Addr} {l c pl pc n cap tot N : Nat} {rs : List FRow} {ms : List (Int × List Int)} {p : List Int} {KK : KT} (hp : Bs E pb pl pc p) (hpl : pl ≤ 4096) (hv : 0 ≤ v ∧ v ≤ 1000000000) (X : LI E rs ms n cap tot N) (hN : N ≤ 60000) (h : ∀ (E' : Mem) (n' cap' tot' : Nat) (rs' : List FRow), Mem.le E E' → LI E' rs' (progL ms 0 (hdrF v p)) n' cap' tot' (N + (hdrF v p).length) → Ct RA 8 Try.f18 [1, 1, 1, 1, 1, 1, 1, 1, 1, 1, 1] 0 KK (shI_0 s v b pb l c pl pc n' cap' tot' rs' E')) : Pc RA 8 Try.f18 [1, 1, 1, 1, 1, 1, 1, 1, 1, 1] 0 KK (shI_0 s v b pb l c pl pc n cap tot rs E) := by
  refine same (by kernel_rfl) (?_ : ∃ (zs : List Int), Bs E pb pl pc zs ∧ (0 : Int) ≤ v ∧ v ≤ (1000000000 : Int) ∧ pl ≤ 4096 ∧ ∀ (b' : Option Addr) (l' c' : Nat) (ys : List Int) (E' : Mem), Mem.le E E' → Hyp (ys = hidH v zs) → Bs E' b' l' c' ys → Mem.le E E' ∧ req ((0 : Int) ≤ WI ((NI n) - (1 : Int)) ∧ WI ((NI n) - (1 : Int)) < (NI n)) (∃ (n_1 : Int), ∃ (base : Option Addr), ∃ (len : Nat), ∃ (cap_1 : Nat), LoadV RA.P 24 (List.flatMap rowV rs) (0 + Int.toNat (WI ((NI n) - (1 : Int))) * 2) (SV.agg [SV.raw (Value.int IntKind.i64 n_1), SV.raw (VS base len cap_1)]) ∧ ∃ (zs : List Int), ∃ (ds : List Int), Bs E' base len cap_1 zs ∧ Bs E' b' l' c' ds ∧ validF n_1 len ∧ (0 : Int) ≤ (0 : Int) ∧ (0 : Int) + (NI l') ≤ (NI len) ∧ ∀ (b'_1 : Option Addr) (l'_1 c'_1 : Nat) (ms : List (Int × List Int)) (E'_1 : Mem), Mem.le E' E'_1 → Hyp (progF n_1 zs 0 ds = (ms, (0 : Int))) → FL E'_1 b'_1 l'_1 c'_1 ms → Mem.le E' E'_1 ∧ req (l'_1 ≤ c'_1) (req ((0 : Int) ≤ (1 : Int) ∧ (1 : Int) ≤ (NI (toN none l'_1))) (∀ (base' : Option Addr) (E' : Mem), Mem.le E'_1 E' → (∀ (cs : List Value), E'_1 (VS b'_1 l'_1 c'_1) cs → E' (VS base' (toN none l'_1 - 1) (toN none c'_1 - 1)) (List.take ((toN none l'_1 - 1) * 2) (List.drop 2 cs))) → Option.isNone base' = Option.isNone b'_1 → ∃ (cs : List Value), (cs = [] ∨ E' (VS base' (toN none l'_1 - 1) (toN none c'_1 - 1)) cs) ∧ (toN none l'_1 - 1) * 2 ≤ List.length cs ∧ (∀ (x : Value), List.Mem x cs → Value.oneCell' x = true) ∧ n * 2 ≤ List.length (Row.cells (Row.vals (List.flatMap rowV rs))) ∧ cap * 2 ≤ tot ∧ n ≤ cap ∧ req ((n + (toN none l'_1 - 1)) * 32 ≤ 140737488355328) (∀ (cap' tot' : Nat), n + (toN none l'_1 - 1) ≤ cap' → cap' * 2 ≤ tot' → Ct RA 8 Try.f18 [1, 1, 1, 1, 1, 1, 1, 1, 1, 1, 1] 0 KK { fr := none :: some (I v) :: some (L pb pl pc) :: some (SV.loc 0 0) :: n4 (n2 (none :: (some (I 0) :: some (SV.slc 2 0 (n + (toN none l'_1 - 1)) cap') :: n32 (n32 (n8 (n4 (some (SV.slc 1 0 n cap) :: some (I 0) :: some (I 0) :: some (I v) :: some (L pb pl pc) :: some (L b' l' c') :: some (SV.slc 2 0 (n + (toN none l'_1 - 1)) cap') :: n4 (n2 [])))))))), bx := [⟨24, .lst [I s, L b l c], 2, true⟩, ⟨24, .lst [], 0, false⟩, ⟨24, .vals (List.take (n * 2) (List.flatMap rowV rs) ++ List.take ((toN none l'_1 - (1 : Nat)) * 2) cs), tot', true⟩], E := E' : St })))))
  delta WI NI VS n2 n4 n8 n32
  refine ⟨p, hp, hv.1, hv.2, hpl, fun bH lH cH ys E1 k1 r1 B1 => ⟨k1, ?_⟩⟩
  have r1 : ys = hidH v p := r1
  rw [hidH_eq] at r1
  subst r1
  have hh := hdrF_len v p
  have lh : lH = 14 := by rw [← B1.2.1, hh]
  subst lh
  obtain ⟨q1, b2, c2, q2, q3⟩ := X.load (by omega)
  refine req_intro q1 ⟨128, b2, 8448, c2, q2, _, _, q3.mono k1, B1, validB, by decide, by omega, fun b3 l3 c3 m3 E3 k3 r3 F3 => ?_⟩
  have r3 : progF 128 (lastM ms).2 ((0 : Nat) : Int) (hdrF v p) = (m3, 0) := r3
  obtain ⟨p1, p2, p3, p4⟩ := prog_li X.l1 X.l2 (by omega) r3
  have kk := Mem.le_trans k1 k3
  first
  | (refine ⟨k3, ?_⟩
     refine X.app kk F3 p1 (by omega) p2 p3 p4 fun base' E' cs cap' tot' rs' e1 e2 e3 => ?_
     rw [e1]
     exact Ct_re [some 0, some 2] (h E' _ cap' tot' rs' (Mem.le_trans kk e2) e3) (wkG (Mem.le_refl _)))
  | (refine X.app kk F3 p1 (by omega) p2 p3 p4 fun base' E' cs cap' tot' rs' e1 e2 e3 => ?_
     rw [e1]
     exact Ct_re [some 0, some 2] (h E' _ cap' tot' rs' (Mem.le_trans kk e2) e3) (wkG (Mem.le_refl _)))
def shI_1 (s v : Int) (b pb : Option Addr) (l c pl pc n cap tot : Nat) (rs : List FRow) (E : Mem) : St := ⟨[none, some (I v), some (L pb pl pc), some (.loc 0 0), none, none, none, none, none, none, none, some (I 1), some (.slc 1 0 n cap)] ++ List.replicate 89 none, [⟨24, .lst [I s, L b l c], 2, true⟩, ⟨24, .vals (rs.flatMap rowV), tot, true⟩], E⟩
theorem i19_1 {s v : Int} {b pb : Option Addr} {l c pl pc n cap tot N : Nat} {rs : List FRow} {ms : List (Int × List Int)} {p : List Int} {KK : KT} (hp : Bs E pb pl pc p) (hpl : pl ≤ 4096) (X : LI E rs ms n cap tot N) (hN : N ≤ 60000) (h : ∀ (E' : Mem) (n' cap' tot' : Nat) (rs' : List FRow), Mem.le E E' → LI E' rs' (progL ms 4256 p) n' cap' tot' (N + p.length) → Ct RA 8 Try.f18 [1, 1, 1, 1, 1, 1, 1, 1, 1, 1] 0 KK (shI_1 s v b pb l c pl pc n' cap' tot' rs' E')) : Pc RA 8 Try.f18 [1, 1, 1, 1, 1, 1, 1, 1, 1] 0 KK (shI_1 s v b pb l c pl pc n cap tot rs E) := by
  refine same (by kernel_rfl) (?_ : req ((0 : Int) ≤ WI ((NI n) - (1 : Int)) ∧ WI ((NI n) - (1 : Int)) < (NI n)) (∃ (n_1 : Int), ∃ (base : Option Addr), ∃ (len : Nat), ∃ (cap_1 : Nat), LoadV RA.P 24 (List.flatMap rowV rs) (0 + Int.toNat (WI ((NI n) - (1 : Int))) * 2) (SV.agg [SV.raw (Value.int IntKind.i64 n_1), SV.raw (VS base len cap_1)]) ∧ ∃ (zs : List Int), ∃ (ds : List Int), Bs E base len cap_1 zs ∧ Bs E pb pl pc ds ∧ validF n_1 len ∧ (0 : Int) ≤ (4256 : Int) ∧ (4256 : Int) + (NI pl) ≤ (NI len) ∧ ∀ (b' : Option Addr) (l' c' : Nat) (ms : List (Int × List Int)) (E' : Mem), Mem.le E E' → Hyp (progF n_1 zs 4256 ds = (ms, (0 : Int))) → FL E' b' l' c' ms → Mem.le E E' ∧ req (l' ≤ c') (req ((0 : Int) ≤ (1 : Int) ∧ (1 : Int) ≤ (NI (toN none l'))) (∀ (base' : Option Addr) (E'_1 : Mem), Mem.le E' E'_1 → (∀ (cs : List Value), E' (VS b' l' c') cs → E'_1 (VS base' (toN none l' - 1) (toN none c' - 1)) (List.take ((toN none l' - 1) * 2) (List.drop 2 cs))) → Option.isNone base' = Option.isNone b' → ∃ (cs : List Value), (cs = [] ∨ E'_1 (VS base' (toN none l' - 1) (toN none c' - 1)) cs) ∧ (toN none l' - 1) * 2 ≤ List.length cs ∧ (∀ (x : Value), List.Mem x cs → Value.oneCell' x = true) ∧ n * 2 ≤ List.length (Row.cells (Row.vals (List.flatMap rowV rs))) ∧ cap * 2 ≤ tot ∧ n ≤ cap ∧ req ((n + (toN none l' - 1)) * 32 ≤ 140737488355328) (∀ (cap' tot' : Nat), n + (toN none l' - 1) ≤ cap' → cap' * 2 ≤ tot' → Ct RA 8 Try.f18 [1, 1, 1, 1, 1, 1, 1, 1, 1, 1] 0 KK { fr := none :: some (I v) :: some (L pb pl pc) :: some (SV.loc 0 0) :: n4 (n2 (none :: (some (I 1) :: some (SV.slc 2 0 (n + (toN none l' - 1)) cap') :: n32 (n32 (n4 (n2 (some (SV.slc 1 0 n cap) :: some (I 1) :: some (I 4224) :: some (I 4256) :: some (L pb pl pc) :: some (SV.slc 2 0 (n + (toN none l' - 1)) cap') :: n8 (n4 (none :: []))))))))), bx := [⟨24, .lst [I s, L b l c], 2, true⟩, ⟨24, .lst [], 0, false⟩, ⟨24, .vals (List.take (n * 2) (List.flatMap rowV rs) ++ List.take ((toN none l' - 1) * 2) cs), tot', true⟩], E := E'_1 : St })))))
  delta WI NI VS n2 n4 n8 n32
  obtain ⟨q1, b2, c2, q2, q3⟩ := X.load (by omega)
  have pl1 : p.length = pl := hp.2.1
  refine req_intro q1 ⟨128, b2, 8448, c2, q2, _, _, q3, hp, validB, by decide, by omega, fun b3 l3 c3 m3 E3 k3 r3 F3 => ⟨k3, ?_⟩⟩
  have r3 : progF 128 (lastM ms).2 ((4256 : Nat) : Int) p = (m3, 0) := r3
  obtain ⟨p1, p2, p3, p4⟩ := prog_li X.l1 X.l2 (by omega) r3
  refine X.app k3 F3 p1 (by omega) p2 p3 p4 fun base' E' cs cap' tot' rs' e1 e2 e3 => ?_
  rw [e1]
  exact Ct_re [some 0, some 2] (h E' _ cap' tot' rs' (Mem.le_trans k3 e2) e3) (wkG (Mem.le_refl _))
theorem i20_1 {s v : Int} {b pb : Option Addr} {l c pl pc n cap tot N : Nat} {rs : List FRow} {ms : List (Int × List Int)} {p : List Int} {KK : KT} (hp : Bs E pb pl pc p) (hpl : pl ≤ 4096) (hv : 0 ≤ v ∧ v ≤ 1000000000) (X : LI E rs ms n cap tot N) (hN : N ≤ 60000) (h : ∀ (E' : Mem) (n' cap' tot' : Nat) (rs' : List FRow), Mem.le E E' → LI E' rs' (progL ms 4224 (hdrF v p)) n' cap' tot' (N + (hdrF v p).length) → Ct RA 8 Try.f18 [1, 1, 1, 1, 1, 1, 1, 1, 1, 1, 1] 0 KK (shI_1 s v b pb l c pl pc n' cap' tot' rs' E')) : Pc RA 8 Try.f18 [1, 1, 1, 1, 1, 1, 1, 1, 1, 1] 0 KK (shI_1 s v b pb l c pl pc n cap tot rs E) := by
  refine same (by kernel_rfl) (?_ : ∃ (zs : List Int), Bs E pb pl pc zs ∧ (0 : Int) ≤ v ∧ v ≤ (1000000000 : Int) ∧ pl ≤ 4096 ∧ ∀ (b' : Option Addr) (l' c' : Nat) (ys : List Int) (E' : Mem), Mem.le E E' → Hyp (ys = hidH v zs) → Bs E' b' l' c' ys → Mem.le E E' ∧ req ((0 : Int) ≤ WI ((NI n) - (1 : Int)) ∧ WI ((NI n) - (1 : Int)) < (NI n)) (∃ (n_1 : Int), ∃ (base : Option Addr), ∃ (len : Nat), ∃ (cap_1 : Nat), LoadV RA.P 24 (List.flatMap rowV rs) (0 + Int.toNat (WI ((NI n) - (1 : Int))) * 2) (SV.agg [SV.raw (Value.int IntKind.i64 n_1), SV.raw (VS base len cap_1)]) ∧ ∃ (zs : List Int), ∃ (ds : List Int), Bs E' base len cap_1 zs ∧ Bs E' b' l' c' ds ∧ validF n_1 len ∧ (0 : Int) ≤ (4224 : Int) ∧ (4224 : Int) + (NI l') ≤ (NI len) ∧ ∀ (b'_1 : Option Addr) (l'_1 c'_1 : Nat) (ms : List (Int × List Int)) (E'_1 : Mem), Mem.le E' E'_1 → Hyp (progF n_1 zs 4224 ds = (ms, (0 : Int))) → FL E'_1 b'_1 l'_1 c'_1 ms → Mem.le E' E'_1 ∧ req (l'_1 ≤ c'_1) (req ((0 : Int) ≤ (1 : Int) ∧ (1 : Int) ≤ (NI (toN none l'_1))) (∀ (base' : Option Addr) (E' : Mem), Mem.le E'_1 E' → (∀ (cs : List Value), E'_1 (VS b'_1 l'_1 c'_1) cs → E' (VS base' (toN none l'_1 - 1) (toN none c'_1 - 1)) (List.take ((toN none l'_1 - 1) * 2) (List.drop 2 cs))) → Option.isNone base' = Option.isNone b'_1 → ∃ (cs : List Value), (cs = [] ∨ E' (VS base' (toN none l'_1 - 1) (toN none c'_1 - 1)) cs) ∧ (toN none l'_1 - 1) * 2 ≤ List.length cs ∧ (∀ (x : Value), List.Mem x cs → Value.oneCell' x = true) ∧ n * 2 ≤ List.length (Row.cells (Row.vals (List.flatMap rowV rs))) ∧ cap * 2 ≤ tot ∧ n ≤ cap ∧ req ((n + (toN none l'_1 - 1)) * 32 ≤ 140737488355328) (∀ (cap' tot' : Nat), n + (toN none l'_1 - 1) ≤ cap' → cap' * 2 ≤ tot' → Ct RA 8 Try.f18 [1, 1, 1, 1, 1, 1, 1, 1, 1, 1, 1] 0 KK { fr := none :: some (I v) :: some (L pb pl pc) :: some (SV.loc 0 0) :: n4 (n2 (none :: (some (I 1) :: some (SV.slc 2 0 (n + (toN none l'_1 - 1)) cap') :: n32 (n32 (n8 (n4 (some (SV.slc 1 0 n cap) :: some (I 1) :: some (I 4224) :: some (I v) :: some (L pb pl pc) :: some (L b' l' c') :: some (SV.slc 2 0 (n + (toN none l'_1 - 1)) cap') :: n4 (n2 [])))))))), bx := [⟨24, .lst [I s, L b l c], 2, true⟩, ⟨24, .lst [], 0, false⟩, ⟨24, .vals (List.take (n * 2) (List.flatMap rowV rs) ++ List.take ((toN none l'_1 - (1 : Nat)) * 2) cs), tot', true⟩], E := E' : St })))))
  delta WI NI VS n2 n4 n8 n32
  refine ⟨p, hp, hv.1, hv.2, hpl, fun bH lH cH ys E1 k1 r1 B1 => ⟨k1, ?_⟩⟩
  have r1 : ys = hidH v p := r1
  rw [hidH_eq] at r1
  subst r1
  have hh := hdrF_len v p
  have lh : lH = 14 := by rw [← B1.2.1, hh]
  subst lh
  obtain ⟨q1, b2, c2, q2, q3⟩ := X.load (by omega)
  refine req_intro q1 ⟨128, b2, 8448, c2, q2, _, _, q3.mono k1, B1, validB, by decide, by omega, fun b3 l3 c3 m3 E3 k3 r3 F3 => ?_⟩
  have r3 : progF 128 (lastM ms).2 ((4224 : Nat) : Int) (hdrF v p) = (m3, 0) := r3
  obtain ⟨p1, p2, p3, p4⟩ := prog_li X.l1 X.l2 (by omega) r3
  have kk := Mem.le_trans k1 k3
  first
  | (refine ⟨k3, ?_⟩
     refine X.app kk F3 p1 (by omega) p2 p3 p4 fun base' E' cs cap' tot' rs' e1 e2 e3 => ?_
     rw [e1]
     exact Ct_re [some 0, some 2] (h E' _ cap' tot' rs' (Mem.le_trans kk e2) e3) (wkG (Mem.le_refl _)))
  | (refine X.app kk F3 p1 (by omega) p2 p3 p4 fun base' E' cs cap' tot' rs' e1 e2 e3 => ?_
     rw [e1]
     exact Ct_re [some 0, some 2] (h E' _ cap' tot' rs' (Mem.le_trans kk e2) e3) (wkG (Mem.le_refl _)))
def l0F (z : List Int) (k : Nat) : List (Int × List Int) := if z.getD (4224 * k + 14) 0 ≠ 255 then progL [(128, z)] (4224 * k + 14) [0] else [(128, z)]
theorem now_all {z : List Int} {k : Nat} (hz : z.length = 8448) (hb : ∀ x ∈ z, 0 ≤ x ∧ x ≤ 255) (hk : k < 2) : ∀ n, n ≤ 33 →
    (∀ j, 4224 * k + 128 * n ≤ j → j ≠ 4224 * k + 14 → (lastM (cleanL z k (l0F z k) n)).2.getD j 0 = z.getD j 0) ∧
    (n = 0 → ((lastM (cleanL z k (l0F z k) n)).2.getD (4224 * k + 14) 0 = 255 ↔ z.getD (4224 * k + 14) 0 = 255)) ∧ (lastM (cleanL z k (l0F z k) n)).2.length = 8448 := by
  generalize hP : (fun w : List Int => Out w z (4224 * k) (4224 * k + 4224) ∧ (w.getD (4224 * k + 14) 0 = 0 ∨ w.getD (4224 * k + 14) 0 = 255)) = P
  generalize hR0 : (fun w : List Int => Out w z (4224 * k) (4224 * k + 4224) ∧ (w = z ∨ w.getD (4224 * k + 14) 0 ≠ 80)) = R
  have hR : ∀ w, P w → R w := fun w h => by
    rw [← hP] at h; rw [← hR0]; exact ⟨h.1, .inr (by omega)⟩
  have hRz : R z := by rw [← hR0]; exact ⟨Out.refl _ _ _, .inl rfl⟩
  have st0 : ∃ l0 : List (Int × List Int), l0F z k = l0 ∧ AllM 128 8448 P R l0 ∧ Chain l0 ∧
      (∀ j, j ≠ 4224 * k + 14 → (lastM l0).2.getD j 0 = z.getD j 0) ∧ (z.getD (4224 * k + 14) 0 = 255 → (lastM l0).2.getD (4224 * k + 14) 0 = 255) ∧ (z.getD (4224 * k + 14) 0 ≠ 255 → (lastM l0).2.getD (4224 * k + 14) 0 ≠ 255) := by
    have h1 : AllM 128 8448 R R [(128, z)] := ⟨by simp, fun m hm => by
      rw [List.mem_singleton] at hm; subst hm; exact ⟨rfl, hz, hb, hRz⟩, hRz⟩
    unfold l0F
    by_cases q : z.getD (4224 * k + 14) 0 ≠ 255
    · rw [if_pos q, progL_eq (z := z) validB rfl hz (by simp; omega)]
      have gs : ∀ j, (stp (gP [0]) (4224 * k + 14) z 1).getD j 0 = if j = 4224 * k + 14 then 0 else z.getD j 0 := fun j => by
        rw [stp_get]
        by_cases c : j = 4224 * k + 14
        · rw [if_pos (by omega), if_pos c]
          subst c
          show band8 _ ([(0 : Int)].getD _ 0) = 0
          rw [Nat.sub_self]
          show band8 _ 0 = 0
          rw [band8_eq]; simp
        · rw [if_neg (by omega), if_neg c]
      have ml := mems_last (s := 128) (g := gP [0]) (a := 4224 * k + 14) (n := 1) (zs := z) (l := [((128 : Int), z)]) (by decide)
      refine ⟨_, rfl, chg_all2 (P := R) (n := 1) hR (fun i x => band8_bd _ _) h1 (fun i h1 h2 => ?_) (by decide), chain_chg (by simp) (chain_one _), ?_, fun h => absurd h q, fun _ => ?_⟩
      · have : i = 1 := by omega
        subst this
        rw [← hP]
        show Out (stp (gP [0]) (4224 * k + 14) z 1) z _ _ ∧ _
        exact ⟨⟨stp_len _ _ _ _, fun j hj => by rw [gs, if_neg (by omega)]⟩, .inl (by rw [show (lastM [((128 : Int), z)]).2 = z from rfl, gs, if_pos rfl])⟩
      · intro j hj
        rw [show [(0 : Int)].length + 1 = 1 + 1 from rfl, ml]
        simp only
        rw [gs, if_neg hj]
      · rw [show [(0 : Int)].length + 1 = 1 + 1 from rfl, ml]
        simp only
        rw [gs, if_pos rfl]; decide
    · rw [if_neg q]
      have q2 : z.getD (4224 * k + 14) 0 = 255 := Decidable.byContradiction q
      refine ⟨_, rfl, ⟨h1.1, h1.2.1, ?_⟩, chain_one _, fun _ _ => rfl, fun _ => q2, fun h => absurd h q⟩
      rw [← hP]
      exact ⟨Out.refl _ _ _, .inr q2⟩
  obtain ⟨l0, e0, c0, d0, g0, g1, g2⟩ := st0
  intro n hn
  obtain ⟨a1, a2, a3, a4, a5⟩ := clean_all hz hk hP.symm hR c0 d0 ⟨g0, g1⟩ n hn
  rw [e0]
  refine ⟨fun j h1 h2 => a4 j (.inr h1) h2, fun h0 => ?_, a1.last.2⟩
  subst h0
  exact ⟨fun h => Decidable.byContradiction fun q => g2 q h, fun h => a5 rfl h⟩
theorem used_iff {z : List Int} {k i : Nat} (hz : z.length = 8448) (hk : k < 2) (hi : i < 33) : usedS z k i = true ↔ ∃ j, 4224 * k + 128 * i ≤ j ∧ j < 4224 * k + 128 * i + 128 ∧ z.getD j 0 ≠ 255 := by
  constructor
  · intro h
    refine Classical.byContradiction fun q => ?_
    rw [used_no fun j h1 h2 => Decidable.byContradiction fun h3 => q ⟨j, h1, h2, h3⟩] at h
    cases h
  · rintro ⟨j, h1, h2, h3⟩
    have hq : ((z.drop (4224 * k + 128 * i)).take 128).getD (j - (4224 * k + 128 * i)) 0 = z.getD j 0 := by rw [getTake _ _ _ (by omega), getDrop]; congr 1; omega
    have hl : j - (4224 * k + 128 * i) < ((z.drop (4224 * k + 128 * i)).take 128).length := by rw [List.length_take, List.length_drop]; omega
    rw [← hq, List.getD_eq_getElem?_getD, List.getElem?_eq_getElem hl] at h3
    unfold usedS
    rw [List.any_eq_true]
    exact ⟨_, List.getElem_mem hl, by simpa using h3⟩
theorem now_used {z : List Int} {k i : Nat} (hz : z.length = 8448) (hb : ∀ x ∈ z, 0 ≤ x ∧ x ≤ 255) (hk : k < 2) (hi : i < 33) : usedS (lastM (cleanL z k (l0F z k) i)).2 k i = usedS z k i := by
  obtain ⟨a1, a2, a3⟩ := now_all hz hb hk i (by omega)
  have same : ∀ j, 4224 * k + 128 * i ≤ j → ((lastM (cleanL z k (l0F z k) i)).2.getD j 0 ≠ 255 ↔ z.getD j 0 ≠ 255) := fun j hj => by
    by_cases c : j = 4224 * k + 14
    · have : i = 0 := by omega
      rw [c]; exact not_congr (a2 this)
    · rw [a1 j hj c]
  have : usedS (lastM (cleanL z k (l0F z k) i)).2 k i = true ↔ usedS z k i = true := by
    rw [used_iff a3 hk hi, used_iff hz hk hi]
    constructor
    · rintro ⟨j, h1, h2, h3⟩; exact ⟨j, h1, h2, (same j h1).1 h3⟩
    · rintro ⟨j, h1, h2, h3⟩; exact ⟨j, h1, h2, (same j h1).2 h3⟩
  cases h1 : usedS (lastM (cleanL z k (l0F z k) i)).2 k i <;> cases h2 : usedS z k i <;> simp_all
def shR_0 (s v : Int) (b pb : Option Addr) (l c pl pc n cap tot i : Nat) (rs : List FRow) (E : Mem) : St := ⟨[none, some (I v), some (L pb pl pc), some (.loc 0 0), none, none, none, none, none, none, none, some (I 0), some (.slc 1 0 n cap), some (I ((0 + i : Nat) : Int))] ++ List.replicate 88 none, [⟨24, .lst [I s, L b l c], 2, true⟩, ⟨24, .vals (rs.flatMap rowV), tot, true⟩], E⟩
theorem rI_0 {s v : Int} {b pb : Option Addr} {l c pl pc n cap tot N i : Nat} {rs : List FRow} {ms : List (Int × List Int)} {p : List Int} {KK : KT} {z : List Int} (X : LI E rs (cleanL z 0 ms i) n cap tot (N + 128 * i)) (hu : i < 33 → usedS (lastM (cleanL z 0 ms i)).2 0 i = usedS z 0 i) (hN : N ≤ 50000) (hi : i ≤ 33)
    (h : i = 33 → Ct RA 8 Try.f18 [1, 1, 1, 1, 1, 1, 1, 1, 1] 0 KK (shI_0 s v b pb l c pl pc n cap tot rs E))
    (ih : ∀ (E' : Mem) (n' cap' tot' : Nat) (rs' : List FRow), i < 33 → Mem.le E E' → LI E' rs' (cleanL z 0 ms (i + 1)) n' cap' tot' (N + 128 * (i + 1)) → Lp RA 8 Try.f18 [1, 1, 1, 1, 1, 1, 1, 1, 0, 1, 0] 0 KK (shR_0 s v b pb l c pl pc n' cap' tot' (i + 1) rs' E')) :
    Rnd RA 8 Try.f18 [1, 1, 1, 1, 1, 1, 1, 1, 0, 1, 0] 0 KK (shR_0 s v b pb l c pl pc n cap tot i rs E) := by
  refine same (by kernel_rfl) (?_ : ((128 : Int) = (0 : Int) → False) ∧ bif decide ((NI (0 + i)) < (33 : Int)) then req ((0 : Int) ≤ WI ((NI n) - (1 : Int)) ∧ WI ((NI n) - (1 : Int)) < (NI n)) (∃ (n_1 : Int), ∃ (base : Option Addr), ∃ (len : Nat), ∃ (cap_1 : Nat), LoadV RA.P 24 (List.flatMap rowV rs) (0 + Int.toNat (WI ((NI n) - (1 : Int))) * 2) (SV.agg [SV.raw (Value.int IntKind.i64 n_1), SV.raw (VS base len cap_1)]) ∧ ∃ (zs : List Int), Bs E base len cap_1 zs ∧ len = 8448 ∧ (0 : Int) ≤ (NI (0 + i)) ∧ (NI (0 + i)) < (66 : Int) ∧ Mem.le E E ∧ bif List.any (List.take 128 (List.drop (Int.toNat (NI (0 + i)) * 128) zs)) fun (x : Int) => decide (x ≠ (255 : Int)) then ∃ (zs : List Int), Bs E base len cap_1 zs ∧ validF n_1 len ∧ (0 : Int) ≤ (NI (0 + i)) ∧ (NI (0 + i)) < (NI len) / n_1 ∧ ∀ (b' : Option Addr) (l' c' : Nat) (ms : List (Int × List Int)) (E' : Mem), Mem.le E E' → Hyp (erasF n_1 zs (NI (0 + i)) = (ms, (0 : Int))) → FL E' b' l' c' ms → Mem.le E E' ∧ req (l' ≤ c') (req ((0 : Int) ≤ (1 : Int) ∧ (1 : Int) ≤ (NI (toN none l'))) (∀ (base' : Option Addr) (E'_1 : Mem), Mem.le E' E'_1 → (∀ (cs : List Value), E' (VS b' l' c') cs → E'_1 (VS base' (toN none l' - 1) (toN none c' - 1)) (List.take ((toN none l' - 1) * 2) (List.drop 2 cs))) → Option.isNone base' = Option.isNone b' → ∃ (cs : List Value), (cs = [] ∨ E'_1 (VS base' (toN none l' - 1) (toN none c' - 1)) cs) ∧ (toN none l' - 1) * 2 ≤ List.length cs ∧ (∀ (x : Value), List.Mem x cs → Value.oneCell' x = true) ∧ n * 2 ≤ List.length (Row.cells (Row.vals (List.flatMap rowV rs))) ∧ cap * 2 ≤ tot ∧ n ≤ cap ∧ req ((n + (toN none l' - 1)) * 32 ≤ 140737488355328) (∀ (cap' tot' : Nat), n + (toN none l' - 1) ≤ cap' → cap' * 2 ≤ tot' → Lp RA 8 Try.f18 [1, 1, 1, 1, 1, 1, 1, 1, 0, 1, 0] 0 KK { fr := none :: some (I v) :: some (L pb pl pc) :: some (SV.loc 0 0) :: n4 (n2 (none :: (some (I 0) :: some (SV.slc 3 0 (n + (toN none l' - 1)) cap') :: some (I (WI ((NI (0 + i)) + (1 : Int)))) :: n32 (n32 (n16 (n8 [])))))), bx := [⟨24, .lst [I s, L b l c], 2, true⟩, ⟨24, .lst [], 0, false⟩, ⟨24, .lst [I n_1, L base len cap_1], 2, true⟩, ⟨24, .vals (List.take (n * 2) (List.flatMap rowV rs) ++ List.take ((toN none l' - 1) * 2) cs), tot', true⟩], E := E'_1 : St }))) else Lp RA 8 Try.f18 [1, 1, 1, 1, 1, 1, 1, 1, 0, 1, 0] 0 KK { fr := none :: some (I v) :: some (L pb pl pc) :: some (SV.loc 0 0) :: n4 (n2 (none :: (some (I 0) :: some (SV.slc 1 0 n cap) :: some (I (WI ((NI (0 + i)) + (1 : Int)))) :: n32 (n32 (n16 (n8 [])))))), bx := [⟨24, .lst [I s, L b l c], 2, true⟩, ⟨24, .vals (List.flatMap rowV rs), tot, true⟩, ⟨24, .lst [I n_1, L base len cap_1], 2, true⟩], E := E : St }) else Ct RA 8 Try.f18 [1, 1, 1, 1, 1, 1, 1, 1, 1] 0 KK { fr := none :: some (I v) :: some (L pb pl pc) :: some (SV.loc 0 0) :: n4 (n2 (none :: (some (I 0) :: some (SV.slc 1 0 n cap) :: some (I (NI (0 + i))) :: n32 (n8 (n2 (some (I (NI (0 + i))) :: some (I 0) :: some (I 1) :: some (I 4224) :: some (I 33) :: some (B (decide ((NI (0 + i)) < (33 : Int)))) :: n32 (n8 []))))))), bx := [⟨24, .lst [I s, L b l c], 2, true⟩, ⟨24, .vals (List.flatMap rowV rs), tot, true⟩], E := E : St })
  delta WI NI VS n2 n4 n8 n16 n32
  refine ⟨by decide, condC (fun g => ?_) (fun g => ?_)⟩
  · have g : i < 33 := by simp at g; omega
    have hu := hu g
    have w1 : Int.toNat ((0 + i : Nat) : Int) * 128 = 4224 * 0 + 128 * i := by rw [Int.toNat_natCast]; omega
    have w4 : IntKind.wrap .i64 (((0 + i : Nat) : Int) + 1) = ((0 + (i + 1) : Nat) : Int) := by rw [wrap_i64 (by omega)]; omega
    rw [w1, w4]
    obtain ⟨q1, b2, c2, q2, q3⟩ := X.load (by omega)
    refine req_intro q1 ⟨128, b2, 8448, c2, q2, _, q3, rfl, by omega, by omega, Mem.le_refl _, ?_⟩
    rw [show (((lastM (cleanL z 0 ms i)).2.drop (4224 * 0 + 128 * i)).take 128).any (fun x => decide (x ≠ 255)) = usedS (lastM (cleanL z 0 ms i)).2 0 i from rfl, hu]
    refine condC (fun u => ?_) (fun u => ?_)
    · have ce : cleanL z 0 ms (i + 1) = erasL (cleanL z 0 ms i) (33 * 0 + i) := by rw [cleanL, if_pos u]
      refine ⟨_, q3, validB, by omega, by omega, fun b4 l4 c4 m4 E4 k4 r4 F4 => ⟨k4, ?_⟩⟩
      have r4 : erasF 128 (lastM (cleanL z 0 ms i)).2 ((33 * 0 + i : Nat) : Int) = (m4, 0) := r4
      obtain ⟨p1, p2, p3, p4⟩ := eras_li X.l1 X.l2 (by omega) r4
      refine X.app k4 F4 p1 (by omega) p2 p3 p4 fun base' E' cs cap' tot' rs' e1 e2 e3 => ?_
      rw [e1]
      exact Lp_re [some 0, some 3] (ih E' _ cap' tot' rs' g (Mem.le_trans k4 e2) (by rw [ce]; exact ⟨e3.R, e3.hn, e3.hc, ⟨e3.hb.1, by have := e3.hb.2; omega⟩, e3.l1, e3.l2⟩)) (wkG (Mem.le_refl _))
    · have ce : cleanL z 0 ms (i + 1) = cleanL z 0 ms i := by rw [cleanL, if_neg (by rw [u]; decide)]
      exact Lp_re [some 0, some 1] (ih E n cap tot rs g (Mem.le_refl _) (by rw [ce]; exact ⟨X.R, X.hn, X.hc, ⟨X.hb.1, by have := X.hb.2; omega⟩, X.l1, X.l2⟩)) (wkG (Mem.le_refl _))
  · have g : i = 33 := by simp at g; omega
    exact Ct_re [some 0, some 1] (h g) (wkG (Mem.le_refl _))
theorem i12_0 {s v : Int} {b pb : Option Addr} {l c pl pc n cap tot N : Nat} {rs : List FRow} {ms : List (Int × List Int)} {p : List Int} {KK : KT} {z : List Int} (X : LI E rs ms n cap tot N) (hu : ∀ i, i < 33 → usedS (lastM (cleanL z 0 ms i)).2 0 i = usedS z 0 i) (hN : N ≤ 50000)
    (h : ∀ (E' : Mem) (n' cap' tot' : Nat) (rs' : List FRow), Mem.le E E' → LI E' rs' (cleanL z 0 ms 33) n' cap' tot' (N + 128 * 33) → Ct RA 8 Try.f18 [1, 1, 1, 1, 1, 1, 1, 1, 1] 0 KK (shI_0 s v b pb l c pl pc n' cap' tot' rs' E')) :
    Pc RA 8 Try.f18 [1, 1, 1, 1, 1, 1, 1, 1] 0 KK (shI_0 s v b pb l c pl pc n cap tot rs E) := by
  refine same (by kernel_rfl) (?_ : ((128 : Int) = (0 : Int) → False) ∧ Lp RA 8 Try.f18 [1, 1, 1, 1, 1, 1, 1, 1, 0, 1, 0] 0 KK { fr := none :: some (I v) :: some (L pb pl pc) :: some (SV.loc 0 0) :: n4 (n2 (none :: (some (I 0) :: some (SV.slc 1 0 n cap) :: some (I 0) :: n32 (n4 (n2 (none :: (some (I 0) :: some (I 0) :: some (I 0) :: n32 (n8 (n4 (n2 [])))))))))), bx := [⟨24, .lst [I s, L b l c], 2, true⟩, ⟨24, .vals (List.flatMap rowV rs), tot, true⟩], E := E : St })
  delta n2 n4 n8 n32
  refine ⟨by decide, ?_⟩
  have key := Lp_ind okRA (n := 8) (fn := Try.f18) (p := [1, 1, 1, 1, 1, 1, 1, 1, 0, 1, 0]) (n0 := 0) (K := KK) (fun x : {x : Mem × Nat × Nat × Nat × Nat × List FRow // Mem.le E x.1 ∧ x.2.1 ≤ 33 ∧ LI x.1 x.2.2.2.2.2 (cleanL z 0 ms x.2.1) x.2.2.1 x.2.2.2.1 x.2.2.2.2.1 (N + 128 * x.2.1)} => shR_0 s v b pb l c pl pc x.1.2.2.1 x.1.2.2.2.1 x.1.2.2.2.2.1 x.1.2.1 x.1.2.2.2.2.2 x.1.1) (fun x => 33 - x.1.2.1)
    (fun x ih => rI_0 (p := []) x.2.2.2 (hu _) hN x.2.2.1 (fun e => h _ _ _ _ _ x.2.1 (by have := x.2.2.2; rw [e] at this; exact this)) fun E' n' cap' tot' rs' hlt hle X' => ih ⟨⟨E', x.1.2.1 + 1, n', cap', tot', rs'⟩, Mem.le_trans x.2.1 hle, hlt, X'⟩ (by show 33 - (_ + 1) < 33 - _; omega))
  exact Lp_re [some 0, some 1] (key ⟨⟨E, 0, n, cap, tot, rs⟩, Mem.le_refl _, Nat.zero_le _, X⟩) (wkG (Mem.le_refl _))
theorem i10_0 {s v : Int} {b pb : Option Addr} {l c pl pc n cap tot N : Nat} {rs : List FRow} {ms : List (Int × List Int)} {p : List Int} {KK : KT} {z : List Int} (hz : Bs E b l c z) (hl : l = 8448) (X : LI E rs [(128, z)] n cap tot 1)
    (h : ∀ (E' : Mem) (n' cap' tot' : Nat) (rs' : List FRow), Mem.le E E' → LI E' rs' (l0F z 0) n' cap' tot' 2 → Ct RA 8 Try.f18 [1, 1, 1, 1, 1, 1, 1, 1] 0 KK (shI_0 s v b pb l c pl pc n' cap' tot' rs' E')) :
    Pc RA 8 Try.f18 [1, 1, 1, 1, 1, 1, 1] 0 KK (shI_0 s v b pb l c pl pc n cap tot rs E) := by
  refine same (by kernel_rfl) (?_ : req ((0 : Int) ≤ (14 : Int) ∧ (14 : Int) < (NI l)) ((∃ (cs : List Value), E (VS b l c) cs ∧ (cs = [] → False)) ∧ ∃ (n_1 : Int), LoadE RA.P E 5 (VS b l c) 14 (SV.raw (U8 n_1)) ∧ bif n_1 != (255 : Int) then req ((0 : Int) ≤ WI ((NI n) - (1 : Int)) ∧ WI ((NI n) - (1 : Int)) < (NI n)) (∃ (n_2 : Int), ∃ (base : Option Addr), ∃ (len : Nat), ∃ (cap_1 : Nat), LoadV RA.P 24 (List.flatMap rowV rs) (0 + Int.toNat (WI ((NI n) - (1 : Int))) * 2) (SV.agg [SV.raw (Value.int IntKind.i64 n_2), SV.raw (VS base len cap_1)]) ∧ ∀ (base_1 : Option Addr) (E' : Mem), Mem.le E E' → WinE E' base_1 [U8 0] → ∃ (zs : List Int), ∃ (ds : List Int), Bs E' base len cap_1 zs ∧ Bs E' (Option.map (fun (x : Addr) => Addr.add x 0) base_1) 1 1 ds ∧ validF n_2 len ∧ (0 : Int) ≤ (14 : Int) ∧ (15 : Int) ≤ (NI len) ∧ ∀ (b' : Option Addr) (l' c' : Nat) (ms : List (Int × List Int)) (E'_1 : Mem), Mem.le E' E'_1 → Hyp (progF n_2 zs 14 ds = (ms, (0 : Int))) → FL E'_1 b' l' c' ms → req (l' ≤ c') (req ((0 : Int) ≤ (1 : Int) ∧ (1 : Int) ≤ (NI (toN none l'))) (∀ (base' : Option Addr) (E' : Mem), Mem.le E'_1 E' → (∀ (cs : List Value), E'_1 (VS b' l' c') cs → E' (VS base' (toN none l' - 1) (toN none c' - 1)) (List.take ((toN none l' - 1) * 2) (List.drop 2 cs))) → Option.isNone base' = Option.isNone b' → ∃ (cs : List Value), (cs = [] ∨ E' (VS base' (toN none l' - 1) (toN none c' - 1)) cs) ∧ (toN none l' - 1) * 2 ≤ List.length cs ∧ (∀ (x : Value), List.Mem x cs → Value.oneCell' x = true) ∧ n * 2 ≤ List.length (Row.cells (Row.vals (List.flatMap rowV rs))) ∧ cap * 2 ≤ tot ∧ n ≤ cap ∧ req ((n + (toN none l' - 1)) * 32 ≤ 140737488355328) (∀ (cap' tot' : Nat), n + (toN none l' - 1) ≤ cap' → cap' * 2 ≤ tot' → Ct RA 8 Try.f18 [1, 1, 1, 1, 1, 1, 1, 1] 0 KK { fr := none :: some (I v) :: some (L pb pl pc) :: some (SV.loc 0 0) :: n4 (n2 (none :: (some (I 0) :: some (SV.slc 3 0 (n + (toN none l' - 1)) cap') :: n16 (n8 (n2 (some (SV.loc 0 1) :: some (L b l c) :: some (I 0) :: some (I 0) :: some (I 14) :: some (SV.rp (VS b l c) 14) :: some (SV.raw (U8 n_1)) :: some (B (n_1 != (255 : Int))) :: some (SV.slc 1 0 n cap) :: some (I 0) :: some (I 0) :: some (I 14) :: some (SV.slc 2 0 1 1) :: some (SV.slc 3 0 (n + (toN none l' - 1)) cap') :: n32 (n16 (none :: [])))))))), bx := [⟨24, .lst [I s, L b l c], 2, true⟩, ⟨24, .lst [], 0, false⟩, ⟨5, .lst [SV.raw (U8 0)], 1, false⟩, ⟨24, .vals (List.take (n * 2) (List.flatMap rowV rs) ++ List.take ((toN none l' - 1) * 2) cs), tot', true⟩], E := E' : St })))) else Ct RA 8 Try.f18 [1, 1, 1, 1, 1, 1, 1, 1] 0 KK { fr := none :: some (I v) :: some (L pb pl pc) :: some (SV.loc 0 0) :: n4 (n2 (none :: (some (I 0) :: some (SV.slc 1 0 n cap) :: n16 (n8 (n2 (some (SV.loc 0 1) :: some (L b l c) :: some (I 0) :: some (I 0) :: some (I 14) :: some (SV.rp (VS b l c) 14) :: some (SV.raw (U8 n_1)) :: some (B (n_1 != (255 : Int))) :: n32 (n16 (n4 (n2 (none :: [])))))))))), bx := [⟨24, .lst [I s, L b l c], 2, true⟩, ⟨24, .vals (List.flatMap rowV rs), tot, true⟩], E := E : St }))
  delta WI NI U8 VS n2 n4 n8 n16 n32
  refine req_intro (by omega) ⟨hz.ne (i := 14) (by omega), z.getD 14 0, hz.load rfl (i := 14) (by omega), condC (fun g => ?_) (fun g => ?_)⟩
  · have g : z.getD (4224 * 0 + 14) 0 ≠ 255 := by simpa using g
    have el : l0F z 0 = progL [(128, z)] 14 [0] := by unfold l0F; rw [if_pos g]
    rw [el] at h
    obtain ⟨q1, b2, c2, q2, q3⟩ := X.load (by decide)
    refine req_intro q1 ⟨128, b2, 8448, c2, q2, fun bw Ew kw ww => ⟨_, [0], q3.mono kw, Bs.win (zs := [0]) ww rfl rfl (Nat.le_refl _) (by decide), validB, by decide, by decide, fun b3 l3 c3 m3 E3 k3 r3 F3 => ?_⟩⟩
    have r3 : progF 128 (lastM [((128 : Int), z)]).2 ((14 : Nat) : Int) [0] = (m3, 0) := r3
    obtain ⟨p1, p2, p3, p4⟩ := prog_li X.l1 X.l2 (by simp) r3
    refine X.app (Mem.le_trans kw k3) F3 p1 (by show 1 + 1 ≤ _; decide) p2 p3 p4 fun base' E' cs cap' tot' rs' e1 e2 e3 => ?_
    rw [e1]
    exact Ct_re [some 0, some 3] (h E' _ cap' tot' rs' (Mem.le_trans kw (Mem.le_trans k3 e2)) e3) (wkG (Mem.le_refl _))
  · have g : z.getD (4224 * 0 + 14) 0 = 255 := by simpa using g
    have el : l0F z 0 = [(128, z)] := by unfold l0F; rw [if_neg (fun q => q g)]
    rw [el] at h
    exact Ct_re [some 0, some 1] (h E n cap tot rs (Mem.le_refl _) ⟨X.R, X.hn, X.hc, ⟨X.hb.1, Nat.le_succ_of_le X.hb.2⟩, X.l1, X.l2⟩) (wkG (Mem.le_refl _))
theorem i21_0 {s v : Int} {b pb : Option Addr} {l c pl pc n cap tot N : Nat} {rs : List FRow} {ms : List (Int × List Int)} {p : List Int} {K : SV → Mem → Prop} {E0 : Mem} (X : LI E rs ms n cap tot N) (hN : N ≤ 60000) (hE : Mem.le E0 E)
    (h : ∀ (fb : Option Addr) (n' cap' : Nat) (E' : Mem), Mem.le E0 E' → FL E' fb n' cap' (progL ms 14 [80]) → K (.tup [L fb n' cap', I 0]) E') : Pc RA 8 Try.f18 [1, 1, 1, 1, 1, 1, 1, 1, 1, 1, 1] 0 (pubK E0 K) (shI_0 s v b pb l c pl pc n cap tot rs E) := by
  refine same (by kernel_rfl) (?_ : req ((0 : Int) ≤ WI ((NI n) - (1 : Int)) ∧ WI ((NI n) - (1 : Int)) < (NI n)) (∃ (n_1 : Int), ∃ (base : Option Addr), ∃ (len : Nat), ∃ (cap_1 : Nat), LoadV RA.P 24 (List.flatMap rowV rs) (0 + Int.toNat (WI ((NI n) - (1 : Int))) * 2) (SV.agg [SV.raw (Value.int IntKind.i64 n_1), SV.raw (VS base len cap_1)]) ∧ ∀ (base_1 : Option Addr) (E' : Mem), Mem.le E E' → WinE E' base_1 [U8 80] → ∃ (zs : List Int), ∃ (ds : List Int), Bs E' base len cap_1 zs ∧ Bs E' (Option.map (fun (x : Addr) => Addr.add x 0) base_1) 1 1 ds ∧ validF n_1 len ∧ (0 : Int) ≤ (14 : Int) ∧ (15 : Int) ≤ (NI len) ∧ ∀ (b' : Option Addr) (l' c' : Nat) (ms : List (Int × List Int)) (E'_1 : Mem), Mem.le E' E'_1 → Hyp (progF n_1 zs 14 ds = (ms, (0 : Int))) → FL E'_1 b' l' c' ms → req (l' ≤ c') (req ((0 : Int) ≤ (1 : Int) ∧ (1 : Int) ≤ (NI (toN none l'))) (∀ (base' : Option Addr) (E' : Mem), Mem.le E'_1 E' → (∀ (cs : List Value), E'_1 (VS b' l' c') cs → E' (VS base' (toN none l' - 1) (toN none c' - 1)) (List.take ((toN none l' - 1) * 2) (List.drop 2 cs))) → Option.isNone base' = Option.isNone b' → ∃ (cs : List Value), (cs = [] ∨ E' (VS base' (toN none l' - 1) (toN none c' - 1)) cs) ∧ (toN none l' - 1) * 2 ≤ List.length cs ∧ (∀ (x : Value), List.Mem x cs → Value.oneCell' x = true) ∧ n * 2 ≤ List.length (Row.cells (Row.vals (List.flatMap rowV rs))) ∧ cap * 2 ≤ tot ∧ n ≤ cap ∧ req ((n + (toN none l' - 1)) * 32 ≤ 140737488355328) (∀ (cap' tot' : Nat), n + (toN none l' - 1) ≤ cap' → cap' * 2 ≤ tot' → ∀ (base : Option Addr) (E'_2 : Mem), Mem.le E' E'_2 → WinE E'_2 base (List.take (n * 2) (List.flatMap rowV rs) ++ List.take ((toN none l' - 1) * 2) cs) → Mem.le E0 E'_2 ∧ K (SV.tup [SV.raw (VS (Option.map (fun (x : Addr) => Addr.add x 0) base) (n + (toN none l' - 1)) cap'), SV.raw (Value.int IntKind.i64 0)]) E'_2)))))
  delta WI NI U8 VS
  obtain ⟨q1, b2, c2, q2, q3⟩ := X.load (by omega)
  refine req_intro q1 ⟨128, b2, 8448, c2, q2, fun bw Ew kw ww => ⟨_, [80], q3.mono kw, Bs.win (zs := [80]) ww rfl rfl (Nat.le_refl _) (by decide), validB, by decide, by decide, fun b3 l3 c3 m3 E3 k3 r3 F3 => ?_⟩⟩
  have r3 : progF 128 (lastM ms).2 ((14 : Nat) : Int) [80] = (m3, 0) := r3
  obtain ⟨p1, p2, p3, p4⟩ := prog_li X.l1 X.l2 (by simp) r3
  refine X.app (Mem.le_trans kw k3) F3 p1 (by show N + 1 ≤ _; omega) p2 p3 p4 fun base' E' cs cap' tot' rs' e1 e2 e3 base E5 k5 w5 => ?_
  have kk : Mem.le E0 E5 := Mem.le_trans hE (Mem.le_trans kw (Mem.le_trans k3 (Mem.le_trans e2 k5)))
  exact ⟨kk, h _ _ _ E5 kk (FL.win w5 e1 (e3.R.mono k5) e3.hn e3.hc.1)⟩
theorem c18_0 {s v : Int} {b pb : Option Addr} {l c pl pc : Nat} {p : List Int} {K : SV → Mem → Prop} {E0 : Mem} {z : List Int} (hs : s = 128) (hl : l = 8448) (hz : Bs E b l c z) (hp : Bs E pb pl pc p) (hv : 0 ≤ v ∧ v ≤ 1000000000) (hpl : pl ≤ 4096) (hE : Mem.le E0 E)
    (h : ∀ (fb : Option Addr) (n' cap' : Nat) (E' : Mem), Mem.le E0 E' → FL E' fb n' cap' (instL 128 z 0 v p) → K (.tup [L fb n' cap', I 0]) E') : Ct RA 8 Try.f18 [1, 1, 1, 1, 1, 1, 1] 0 (pubK E0 K) (shI_0 s v b pb l c pl pc 1 1 2 [(s, b, l, c)] E) := by
  have X0 : LI E [(s, b, l, c)] [(128, z)] 1 1 2 1 := ⟨FLr.snoc (FLr.nil E) hs hz, rfl, ⟨Nat.le_refl _, Nat.le_refl _⟩, ⟨Nat.le_refl _, Nat.le_refl _⟩, rfl, by show z.length = 8448; rw [hz.2.1, hl]⟩
  have pl1 : p.length = pl := hp.2.1
  have hh := hdrF_len v p
  have zl : z.length = 8448 := by rw [hz.2.1, hl]
  refine Ct_intro okRA (i10_0 (N := 0) (ms := []) (p := []) hz hl X0 fun E1 n1 cap1 tot1 rs1 k1 X1 => ?_)
  refine Ct_intro okRA (i12_0 (p := []) X1 (fun i hi => now_used zl hz.2.2.2.1 (by decide) hi) (by decide) fun E2 n2 cap2 tot2 rs2 k2 X2 => ?_)
  have k2 := Mem.le_trans k1 k2
  refine Ct_intro okRA (i19_0 (hp.mono k2) hpl X2 (by decide) fun E3 n3 cap3 tot3 rs3 k3 X3 => ?_)
  have k3 := Mem.le_trans k2 k3
  refine Ct_intro okRA (i20_0 (hp.mono k3) hpl hv X3 (by omega) fun E4 n4 cap4 tot4 rs4 k4 X4 => ?_)
  have k4 := Mem.le_trans k3 k4
  exact Ct_intro okRA (i21_0 (p := []) X4 (by omega) (Mem.le_trans hE k4) h)
def shR_1 (s v : Int) (b pb : Option Addr) (l c pl pc n cap tot i : Nat) (rs : List FRow) (E : Mem) : St := ⟨[none, some (I v), some (L pb pl pc), some (.loc 0 0), none, none, none, none, none, none, none, some (I 1), some (.slc 1 0 n cap), some (I ((33 + i : Nat) : Int))] ++ List.replicate 88 none, [⟨24, .lst [I s, L b l c], 2, true⟩, ⟨24, .vals (rs.flatMap rowV), tot, true⟩], E⟩
theorem rI_1 {s v : Int} {b pb : Option Addr} {l c pl pc n cap tot N i : Nat} {rs : List FRow} {ms : List (Int × List Int)} {p : List Int} {KK : KT} {z : List Int} (X : LI E rs (cleanL z 1 ms i) n cap tot (N + 128 * i)) (hu : i < 33 → usedS (lastM (cleanL z 1 ms i)).2 1 i = usedS z 1 i) (hN : N ≤ 50000) (hi : i ≤ 33)
    (h : i = 33 → Ct RA 8 Try.f18 [1, 1, 1, 1, 1, 1, 1, 1, 1] 0 KK (shI_1 s v b pb l c pl pc n cap tot rs E))
    (ih : ∀ (E' : Mem) (n' cap' tot' : Nat) (rs' : List FRow), i < 33 → Mem.le E E' → LI E' rs' (cleanL z 1 ms (i + 1)) n' cap' tot' (N + 128 * (i + 1)) → Lp RA 8 Try.f18 [1, 1, 1, 1, 1, 1, 1, 1, 0, 1, 0] 0 KK (shR_1 s v b pb l c pl pc n' cap' tot' (i + 1) rs' E')) :
    Rnd RA 8 Try.f18 [1, 1, 1, 1, 1, 1, 1, 1, 0, 1, 0] 0 KK (shR_1 s v b pb l c pl pc n cap tot i rs E) := by
  refine same (by kernel_rfl) (?_ : ((128 : Int) = (0 : Int) → False) ∧ bif decide ((NI (33 + i)) < (66 : Int)) then req ((0 : Int) ≤ WI ((NI n) - (1 : Int)) ∧ WI ((NI n) - (1 : Int)) < (NI n)) (∃ (n_1 : Int), ∃ (base : Option Addr), ∃ (len : Nat), ∃ (cap_1 : Nat), LoadV RA.P 24 (List.flatMap rowV rs) (0 + Int.toNat (WI ((NI n) - (1 : Int))) * 2) (SV.agg [SV.raw (Value.int IntKind.i64 n_1), SV.raw (VS base len cap_1)]) ∧ ∃ (zs : List Int), Bs E base len cap_1 zs ∧ len = 8448 ∧ (0 : Int) ≤ (NI (33 + i)) ∧ (NI (33 + i)) < (66 : Int) ∧ Mem.le E E ∧ bif List.any (List.take 128 (List.drop (Int.toNat (NI (33 + i)) * 128) zs)) fun (x : Int) => decide (x ≠ (255 : Int)) then ∃ (zs : List Int), Bs E base len cap_1 zs ∧ validF n_1 len ∧ (0 : Int) ≤ (NI (33 + i)) ∧ (NI (33 + i)) < (NI len) / n_1 ∧ ∀ (b' : Option Addr) (l' c' : Nat) (ms : List (Int × List Int)) (E' : Mem), Mem.le E E' → Hyp (erasF n_1 zs (NI (33 + i)) = (ms, (0 : Int))) → FL E' b' l' c' ms → Mem.le E E' ∧ req (l' ≤ c') (req ((0 : Int) ≤ (1 : Int) ∧ (1 : Int) ≤ (NI (toN none l'))) (∀ (base' : Option Addr) (E'_1 : Mem), Mem.le E' E'_1 → (∀ (cs : List Value), E' (VS b' l' c') cs → E'_1 (VS base' (toN none l' - 1) (toN none c' - 1)) (List.take ((toN none l' - 1) * 2) (List.drop 2 cs))) → Option.isNone base' = Option.isNone b' → ∃ (cs : List Value), (cs = [] ∨ E'_1 (VS base' (toN none l' - 1) (toN none c' - 1)) cs) ∧ (toN none l' - 1) * 2 ≤ List.length cs ∧ (∀ (x : Value), List.Mem x cs → Value.oneCell' x = true) ∧ n * 2 ≤ List.length (Row.cells (Row.vals (List.flatMap rowV rs))) ∧ cap * 2 ≤ tot ∧ n ≤ cap ∧ req ((n + (toN none l' - 1)) * 32 ≤ 140737488355328) (∀ (cap' tot' : Nat), n + (toN none l' - 1) ≤ cap' → cap' * 2 ≤ tot' → Lp RA 8 Try.f18 [1, 1, 1, 1, 1, 1, 1, 1, 0, 1, 0] 0 KK { fr := none :: some (I v) :: some (L pb pl pc) :: some (SV.loc 0 0) :: n4 (n2 (none :: (some (I 1) :: some (SV.slc 3 0 (n + (toN none l' - 1)) cap') :: some (I (WI ((NI (33 + i)) + (1 : Int)))) :: n32 (n32 (n16 (n8 [])))))), bx := [⟨24, .lst [I s, L b l c], 2, true⟩, ⟨24, .lst [], 0, false⟩, ⟨24, .lst [I n_1, L base len cap_1], 2, true⟩, ⟨24, .vals (List.take (n * 2) (List.flatMap rowV rs) ++ List.take ((toN none l' - 1) * 2) cs), tot', true⟩], E := E'_1 : St }))) else Lp RA 8 Try.f18 [1, 1, 1, 1, 1, 1, 1, 1, 0, 1, 0] 0 KK { fr := none :: some (I v) :: some (L pb pl pc) :: some (SV.loc 0 0) :: n4 (n2 (none :: (some (I 1) :: some (SV.slc 1 0 n cap) :: some (I (WI ((NI (33 + i)) + (1 : Int)))) :: n32 (n32 (n16 (n8 [])))))), bx := [⟨24, .lst [I s, L b l c], 2, true⟩, ⟨24, .vals (List.flatMap rowV rs), tot, true⟩, ⟨24, .lst [I n_1, L base len cap_1], 2, true⟩], E := E : St }) else Ct RA 8 Try.f18 [1, 1, 1, 1, 1, 1, 1, 1, 1] 0 KK { fr := none :: some (I v) :: some (L pb pl pc) :: some (SV.loc 0 0) :: n4 (n2 (none :: (some (I 1) :: some (SV.slc 1 0 n cap) :: some (I (NI (33 + i))) :: n32 (n8 (n2 (some (I (NI (33 + i))) :: some (I 1) :: some (I 2) :: some (I 8448) :: some (I 66) :: some (B (decide ((NI (33 + i)) < (66 : Int)))) :: n32 (n8 []))))))), bx := [⟨24, .lst [I s, L b l c], 2, true⟩, ⟨24, .vals (List.flatMap rowV rs), tot, true⟩], E := E : St })
  delta WI NI VS n2 n4 n8 n16 n32
  refine ⟨by decide, condC (fun g => ?_) (fun g => ?_)⟩
  · have g : i < 33 := by simp at g; omega
    have hu := hu g
    have w1 : Int.toNat ((33 + i : Nat) : Int) * 128 = 4224 * 1 + 128 * i := by rw [Int.toNat_natCast]; omega
    have w4 : IntKind.wrap .i64 (((33 + i : Nat) : Int) + 1) = ((33 + (i + 1) : Nat) : Int) := by rw [wrap_i64 (by omega)]; omega
    rw [w1, w4]
    obtain ⟨q1, b2, c2, q2, q3⟩ := X.load (by omega)
    refine req_intro q1 ⟨128, b2, 8448, c2, q2, _, q3, rfl, by omega, by omega, Mem.le_refl _, ?_⟩
    rw [show (((lastM (cleanL z 1 ms i)).2.drop (4224 * 1 + 128 * i)).take 128).any (fun x => decide (x ≠ 255)) = usedS (lastM (cleanL z 1 ms i)).2 1 i from rfl, hu]
    refine condC (fun u => ?_) (fun u => ?_)
    · have ce : cleanL z 1 ms (i + 1) = erasL (cleanL z 1 ms i) (33 * 1 + i) := by rw [cleanL, if_pos u]
      refine ⟨_, q3, validB, by omega, by omega, fun b4 l4 c4 m4 E4 k4 r4 F4 => ⟨k4, ?_⟩⟩
      have r4 : erasF 128 (lastM (cleanL z 1 ms i)).2 ((33 * 1 + i : Nat) : Int) = (m4, 0) := r4
      obtain ⟨p1, p2, p3, p4⟩ := eras_li X.l1 X.l2 (by omega) r4
      refine X.app k4 F4 p1 (by omega) p2 p3 p4 fun base' E' cs cap' tot' rs' e1 e2 e3 => ?_
      rw [e1]
      exact Lp_re [some 0, some 3] (ih E' _ cap' tot' rs' g (Mem.le_trans k4 e2) (by rw [ce]; exact ⟨e3.R, e3.hn, e3.hc, ⟨e3.hb.1, by have := e3.hb.2; omega⟩, e3.l1, e3.l2⟩)) (wkG (Mem.le_refl _))
    · have ce : cleanL z 1 ms (i + 1) = cleanL z 1 ms i := by rw [cleanL, if_neg (by rw [u]; decide)]
      exact Lp_re [some 0, some 1] (ih E n cap tot rs g (Mem.le_refl _) (by rw [ce]; exact ⟨X.R, X.hn, X.hc, ⟨X.hb.1, by have := X.hb.2; omega⟩, X.l1, X.l2⟩)) (wkG (Mem.le_refl _))
  · have g : i = 33 := by simp at g; omega
    exact Ct_re [some 0, some 1] (h g) (wkG (Mem.le_refl _))
theorem i12_1 {s v : Int} {b pb : Option Addr} {l c pl pc n cap tot N : Nat} {rs : List FRow} {ms : List (Int × List Int)} {p : List Int} {KK : KT} {z : List Int} (X : LI E rs ms n cap tot N) (hu : ∀ i, i < 33 → usedS (lastM (cleanL z 1 ms i)).2 1 i = usedS z 1 i) (hN : N ≤ 50000)
    (h : ∀ (E' : Mem) (n' cap' tot' : Nat) (rs' : List FRow), Mem.le E E' → LI E' rs' (cleanL z 1 ms 33) n' cap' tot' (N + 128 * 33) → Ct RA 8 Try.f18 [1, 1, 1, 1, 1, 1, 1, 1, 1] 0 KK (shI_1 s v b pb l c pl pc n' cap' tot' rs' E')) :
    Pc RA 8 Try.f18 [1, 1, 1, 1, 1, 1, 1, 1] 0 KK (shI_1 s v b pb l c pl pc n cap tot rs E) := by
  refine same (by kernel_rfl) (?_ : ((128 : Int) = (0 : Int) → False) ∧ Lp RA 8 Try.f18 [1, 1, 1, 1, 1, 1, 1, 1, 0, 1, 0] 0 KK { fr := none :: some (I v) :: some (L pb pl pc) :: some (SV.loc 0 0) :: n4 (n2 (none :: (some (I 1) :: some (SV.slc 1 0 n cap) :: some (I 33) :: n32 (n4 (n2 (none :: (some (I 1) :: some (I 4224) :: some (I 33) :: n32 (n8 (n4 (n2 [])))))))))), bx := [⟨24, .lst [I s, L b l c], 2, true⟩, ⟨24, .vals (List.flatMap rowV rs), tot, true⟩], E := E : St })
  delta n2 n4 n8 n32
  refine ⟨by decide, ?_⟩
  have key := Lp_ind okRA (n := 8) (fn := Try.f18) (p := [1, 1, 1, 1, 1, 1, 1, 1, 0, 1, 0]) (n0 := 0) (K := KK) (fun x : {x : Mem × Nat × Nat × Nat × Nat × List FRow // Mem.le E x.1 ∧ x.2.1 ≤ 33 ∧ LI x.1 x.2.2.2.2.2 (cleanL z 1 ms x.2.1) x.2.2.1 x.2.2.2.1 x.2.2.2.2.1 (N + 128 * x.2.1)} => shR_1 s v b pb l c pl pc x.1.2.2.1 x.1.2.2.2.1 x.1.2.2.2.2.1 x.1.2.1 x.1.2.2.2.2.2 x.1.1) (fun x => 33 - x.1.2.1)
    (fun x ih => rI_1 (p := []) x.2.2.2 (hu _) hN x.2.2.1 (fun e => h _ _ _ _ _ x.2.1 (by have := x.2.2.2; rw [e] at this; exact this)) fun E' n' cap' tot' rs' hlt hle X' => ih ⟨⟨E', x.1.2.1 + 1, n', cap', tot', rs'⟩, Mem.le_trans x.2.1 hle, hlt, X'⟩ (by show 33 - (_ + 1) < 33 - _; omega))
  exact Lp_re [some 0, some 1] (key ⟨⟨E, 0, n, cap, tot, rs⟩, Mem.le_refl _, Nat.zero_le _, X⟩) (wkG (Mem.le_refl _))
theorem i10_1 {s v : Int} {b pb : Option Addr} {l c pl pc n cap tot N : Nat} {rs : List FRow} {ms : List (Int × List Int)} {p : List Int} {KK : KT} {z : List Int} (hz : Bs E b l c z) (hl : l = 8448) (X : LI E rs [(128, z)] n cap tot 1)
    (h : ∀ (E' : Mem) (n' cap' tot' : Nat) (rs' : List FRow), Mem.le E E' → LI E' rs' (l0F z 1) n' cap' tot' 2 → Ct RA 8 Try.f18 [1, 1, 1, 1, 1, 1, 1, 1] 0 KK (shI_1 s v b pb l c pl pc n' cap' tot' rs' E')) :
    Pc RA 8 Try.f18 [1, 1, 1, 1, 1, 1, 1] 0 KK (shI_1 s v b pb l c pl pc n cap tot rs E) := by
  refine same (by kernel_rfl) (?_ : req ((0 : Int) ≤ (4238 : Int) ∧ (4238 : Int) < (NI l)) ((∃ (cs : List Value), E (VS b l c) cs ∧ (cs = [] → False)) ∧ ∃ (n_1 : Int), LoadE RA.P E 5 (VS b l c) 4238 (SV.raw (U8 n_1)) ∧ bif n_1 != (255 : Int) then req ((0 : Int) ≤ WI ((NI n) - (1 : Int)) ∧ WI ((NI n) - (1 : Int)) < (NI n)) (∃ (n_2 : Int), ∃ (base : Option Addr), ∃ (len : Nat), ∃ (cap_1 : Nat), LoadV RA.P 24 (List.flatMap rowV rs) (0 + Int.toNat (WI ((NI n) - (1 : Int))) * 2) (SV.agg [SV.raw (Value.int IntKind.i64 n_2), SV.raw (VS base len cap_1)]) ∧ ∀ (base_1 : Option Addr) (E' : Mem), Mem.le E E' → WinE E' base_1 [U8 0] → ∃ (zs : List Int), ∃ (ds : List Int), Bs E' base len cap_1 zs ∧ Bs E' (Option.map (fun (x : Addr) => Addr.add x 0) base_1) 1 1 ds ∧ validF n_2 len ∧ (0 : Int) ≤ (4238 : Int) ∧ (4239 : Int) ≤ (NI len) ∧ ∀ (b' : Option Addr) (l' c' : Nat) (ms : List (Int × List Int)) (E'_1 : Mem), Mem.le E' E'_1 → Hyp (progF n_2 zs 4238 ds = (ms, (0 : Int))) → FL E'_1 b' l' c' ms → req (l' ≤ c') (req ((0 : Int) ≤ (1 : Int) ∧ (1 : Int) ≤ (NI (toN none l'))) (∀ (base' : Option Addr) (E' : Mem), Mem.le E'_1 E' → (∀ (cs : List Value), E'_1 (VS b' l' c') cs → E' (VS base' (toN none l' - 1) (toN none c' - 1)) (List.take ((toN none l' - 1) * 2) (List.drop 2 cs))) → Option.isNone base' = Option.isNone b' → ∃ (cs : List Value), (cs = [] ∨ E' (VS base' (toN none l' - 1) (toN none c' - 1)) cs) ∧ (toN none l' - 1) * 2 ≤ List.length cs ∧ (∀ (x : Value), List.Mem x cs → Value.oneCell' x = true) ∧ n * 2 ≤ List.length (Row.cells (Row.vals (List.flatMap rowV rs))) ∧ cap * 2 ≤ tot ∧ n ≤ cap ∧ req ((n + (toN none l' - 1)) * 32 ≤ 140737488355328) (∀ (cap' tot' : Nat), n + (toN none l' - 1) ≤ cap' → cap' * 2 ≤ tot' → Ct RA 8 Try.f18 [1, 1, 1, 1, 1, 1, 1, 1] 0 KK { fr := none :: some (I v) :: some (L pb pl pc) :: some (SV.loc 0 0) :: n4 (n2 (none :: (some (I 1) :: some (SV.slc 3 0 (n + (toN none l' - 1)) cap') :: n16 (n8 (n2 (some (SV.loc 0 1) :: some (L b l c) :: some (I 1) :: some (I 4224) :: some (I 4238) :: some (SV.rp (VS b l c) 4238) :: some (SV.raw (U8 n_1)) :: some (B (n_1 != (255 : Int))) :: some (SV.slc 1 0 n cap) :: some (I 1) :: some (I 4224) :: some (I 4238) :: some (SV.slc 2 0 1 1) :: some (SV.slc 3 0 (n + (toN none l' - 1)) cap') :: n32 (n16 (none :: [])))))))), bx := [⟨24, .lst [I s, L b l c], 2, true⟩, ⟨24, .lst [], 0, false⟩, ⟨5, .lst [SV.raw (U8 0)], 1, false⟩, ⟨24, .vals (List.take (n * 2) (List.flatMap rowV rs) ++ List.take ((toN none l' - 1) * 2) cs), tot', true⟩], E := E' : St })))) else Ct RA 8 Try.f18 [1, 1, 1, 1, 1, 1, 1, 1] 0 KK { fr := none :: some (I v) :: some (L pb pl pc) :: some (SV.loc 0 0) :: n4 (n2 (none :: (some (I 1) :: some (SV.slc 1 0 n cap) :: n16 (n8 (n2 (some (SV.loc 0 1) :: some (L b l c) :: some (I 1) :: some (I 4224) :: some (I 4238) :: some (SV.rp (VS b l c) 4238) :: some (SV.raw (U8 n_1)) :: some (B (n_1 != (255 : Int))) :: n32 (n16 (n4 (n2 (none :: [])))))))))), bx := [⟨24, .lst [I s, L b l c], 2, true⟩, ⟨24, .vals (List.flatMap rowV rs), tot, true⟩], E := E : St }))
  delta WI NI U8 VS n2 n4 n8 n16 n32
  refine req_intro (by omega) ⟨hz.ne (i := 4238) (by omega), z.getD 4238 0, hz.load rfl (i := 4238) (by omega), condC (fun g => ?_) (fun g => ?_)⟩
  · have g : z.getD (4224 * 1 + 14) 0 ≠ 255 := by simpa using g
    have el : l0F z 1 = progL [(128, z)] 4238 [0] := by unfold l0F; rw [if_pos g]
    rw [el] at h
    obtain ⟨q1, b2, c2, q2, q3⟩ := X.load (by decide)
    refine req_intro q1 ⟨128, b2, 8448, c2, q2, fun bw Ew kw ww => ⟨_, [0], q3.mono kw, Bs.win (zs := [0]) ww rfl rfl (Nat.le_refl _) (by decide), validB, by decide, by decide, fun b3 l3 c3 m3 E3 k3 r3 F3 => ?_⟩⟩
    have r3 : progF 128 (lastM [((128 : Int), z)]).2 ((4238 : Nat) : Int) [0] = (m3, 0) := r3
    obtain ⟨p1, p2, p3, p4⟩ := prog_li X.l1 X.l2 (by simp) r3
    refine X.app (Mem.le_trans kw k3) F3 p1 (by show 1 + 1 ≤ _; decide) p2 p3 p4 fun base' E' cs cap' tot' rs' e1 e2 e3 => ?_
    rw [e1]
    exact Ct_re [some 0, some 3] (h E' _ cap' tot' rs' (Mem.le_trans kw (Mem.le_trans k3 e2)) e3) (wkG (Mem.le_refl _))
  · have g : z.getD (4224 * 1 + 14) 0 = 255 := by simpa using g
    have el : l0F z 1 = [(128, z)] := by unfold l0F; rw [if_neg (fun q => q g)]
    rw [el] at h
    exact Ct_re [some 0, some 1] (h E n cap tot rs (Mem.le_refl _) ⟨X.R, X.hn, X.hc, ⟨X.hb.1, Nat.le_succ_of_le X.hb.2⟩, X.l1, X.l2⟩) (wkG (Mem.le_refl _))
theorem i21_1 {s v : Int} {b pb : Option Addr} {l c pl pc n cap tot N : Nat} {rs : List FRow} {ms : List (Int × List Int)} {p : List Int} {K : SV → Mem → Prop} {E0 : Mem} (X : LI E rs ms n cap tot N) (hN : N ≤ 60000) (hE : Mem.le E0 E)
    (h : ∀ (fb : Option Addr) (n' cap' : Nat) (E' : Mem), Mem.le E0 E' → FL E' fb n' cap' (progL ms 4238 [80]) → K (.tup [L fb n' cap', I 0]) E') : Pc RA 8 Try.f18 [1, 1, 1, 1, 1, 1, 1, 1, 1, 1, 1] 0 (pubK E0 K) (shI_1 s v b pb l c pl pc n cap tot rs E) := by
  refine same (by kernel_rfl) (?_ : req ((0 : Int) ≤ WI ((NI n) - (1 : Int)) ∧ WI ((NI n) - (1 : Int)) < (NI n)) (∃ (n_1 : Int), ∃ (base : Option Addr), ∃ (len : Nat), ∃ (cap_1 : Nat), LoadV RA.P 24 (List.flatMap rowV rs) (0 + Int.toNat (WI ((NI n) - (1 : Int))) * 2) (SV.agg [SV.raw (Value.int IntKind.i64 n_1), SV.raw (VS base len cap_1)]) ∧ ∀ (base_1 : Option Addr) (E' : Mem), Mem.le E E' → WinE E' base_1 [U8 80] → ∃ (zs : List Int), ∃ (ds : List Int), Bs E' base len cap_1 zs ∧ Bs E' (Option.map (fun (x : Addr) => Addr.add x 0) base_1) 1 1 ds ∧ validF n_1 len ∧ (0 : Int) ≤ (4238 : Int) ∧ (4239 : Int) ≤ (NI len) ∧ ∀ (b' : Option Addr) (l' c' : Nat) (ms : List (Int × List Int)) (E'_1 : Mem), Mem.le E' E'_1 → Hyp (progF n_1 zs 4238 ds = (ms, (0 : Int))) → FL E'_1 b' l' c' ms → req (l' ≤ c') (req ((0 : Int) ≤ (1 : Int) ∧ (1 : Int) ≤ (NI (toN none l'))) (∀ (base' : Option Addr) (E' : Mem), Mem.le E'_1 E' → (∀ (cs : List Value), E'_1 (VS b' l' c') cs → E' (VS base' (toN none l' - 1) (toN none c' - 1)) (List.take ((toN none l' - 1) * 2) (List.drop 2 cs))) → Option.isNone base' = Option.isNone b' → ∃ (cs : List Value), (cs = [] ∨ E' (VS base' (toN none l' - 1) (toN none c' - 1)) cs) ∧ (toN none l' - 1) * 2 ≤ List.length cs ∧ (∀ (x : Value), List.Mem x cs → Value.oneCell' x = true) ∧ n * 2 ≤ List.length (Row.cells (Row.vals (List.flatMap rowV rs))) ∧ cap * 2 ≤ tot ∧ n ≤ cap ∧ req ((n + (toN none l' - 1)) * 32 ≤ 140737488355328) (∀ (cap' tot' : Nat), n + (toN none l' - 1) ≤ cap' → cap' * 2 ≤ tot' → ∀ (base : Option Addr) (E'_2 : Mem), Mem.le E' E'_2 → WinE E'_2 base (List.take (n * 2) (List.flatMap rowV rs) ++ List.take ((toN none l' - 1) * 2) cs) → Mem.le E0 E'_2 ∧ K (SV.tup [SV.raw (VS (Option.map (fun (x : Addr) => Addr.add x 0) base) (n + (toN none l' - 1)) cap'), SV.raw (Value.int IntKind.i64 0)]) E'_2)))))
  delta WI NI U8 VS
  obtain ⟨q1, b2, c2, q2, q3⟩ := X.load (by omega)
  refine req_intro q1 ⟨128, b2, 8448, c2, q2, fun bw Ew kw ww => ⟨_, [80], q3.mono kw, Bs.win (zs := [80]) ww rfl rfl (Nat.le_refl _) (by decide), validB, by decide, by decide, fun b3 l3 c3 m3 E3 k3 r3 F3 => ?_⟩⟩
  have r3 : progF 128 (lastM ms).2 ((4238 : Nat) : Int) [80] = (m3, 0) := r3
  obtain ⟨p1, p2, p3, p4⟩ := prog_li X.l1 X.l2 (by simp) r3
  refine X.app (Mem.le_trans kw k3) F3 p1 (by show N + 1 ≤ _; omega) p2 p3 p4 fun base' E' cs cap' tot' rs' e1 e2 e3 base E5 k5 w5 => ?_
  have kk : Mem.le E0 E5 := Mem.le_trans hE (Mem.le_trans kw (Mem.le_trans k3 (Mem.le_trans e2 k5)))
  exact ⟨kk, h _ _ _ E5 kk (FL.win w5 e1 (e3.R.mono k5) e3.hn e3.hc.1)⟩
theorem c18_1 {s v : Int} {b pb : Option Addr} {l c pl pc : Nat} {p : List Int} {K : SV → Mem → Prop} {E0 : Mem} {z : List Int} (hs : s = 128) (hl : l = 8448) (hz : Bs E b l c z) (hp : Bs E pb pl pc p) (hv : 0 ≤ v ∧ v ≤ 1000000000) (hpl : pl ≤ 4096) (hE : Mem.le E0 E)
    (h : ∀ (fb : Option Addr) (n' cap' : Nat) (E' : Mem), Mem.le E0 E' → FL E' fb n' cap' (instL 128 z 1 v p) → K (.tup [L fb n' cap', I 0]) E') : Ct RA 8 Try.f18 [1, 1, 1, 1, 1, 1, 1] 0 (pubK E0 K) (shI_1 s v b pb l c pl pc 1 1 2 [(s, b, l, c)] E) := by
  have X0 : LI E [(s, b, l, c)] [(128, z)] 1 1 2 1 := ⟨FLr.snoc (FLr.nil E) hs hz, rfl, ⟨Nat.le_refl _, Nat.le_refl _⟩, ⟨Nat.le_refl _, Nat.le_refl _⟩, rfl, by show z.length = 8448; rw [hz.2.1, hl]⟩
  have pl1 : p.length = pl := hp.2.1
  have hh := hdrF_len v p
  have zl : z.length = 8448 := by rw [hz.2.1, hl]
  refine Ct_intro okRA (i10_1 (N := 0) (ms := []) (p := []) hz hl X0 fun E1 n1 cap1 tot1 rs1 k1 X1 => ?_)
  refine Ct_intro okRA (i12_1 (p := []) X1 (fun i hi => now_used zl hz.2.2.2.1 (by decide) hi) (by decide) fun E2 n2 cap2 tot2 rs2 k2 X2 => ?_)
  have k2 := Mem.le_trans k1 k2
  refine Ct_intro okRA (i19_1 (hp.mono k2) hpl X2 (by decide) fun E3 n3 cap3 tot3 rs3 k3 X3 => ?_)
  have k3 := Mem.le_trans k2 k3
  refine Ct_intro okRA (i20_1 (hp.mono k3) hpl hv X3 (by omega) fun E4 n4 cap4 tot4 rs4 k4 X4 => ?_)
  have k4 := Mem.le_trans k3 k4
  exact Ct_intro okRA (i21_1 (p := []) X4 (by omega) (Mem.le_trans hE k4) h)
theorem q18 {a1 : Int} {b2 : Option Addr} {l3 : Nat} {c4 : Nat} {a5 : Int} {b6 : Option Addr} {l7 : Nat} {c8 : Nat} {zs : List Int} {p : List Int} (h0 : Bs E b2 l3 c4 zs) (h1 : Bs E b6 l7 c8 p) (h : ∀ (b' : Option Addr) (l' c' : Nat) (ms : List (Int × List Int)) (e : Int) (E' : Mem), Mem.le E E' → Hyp (installF a1 zs a5 p = (ms, e)) → FL E' b' l' c' ms → K (.tup [L b' l' c', I e]) E') :
    Ent RA 8 Try.f18 [.agg [I a1, L b2 l3 c4], I a5, L b6 l7 c8] E K := by
  refine same (by kernel_rfl) (?_ : ∃ (zs : List Int), Bs E b2 l3 c4 zs ∧ ∀ (v : Int) (d : List Int) (e : Int) (b' : Option Addr) (l' c' : Nat) (E' : Mem), Mem.le E E' → Hyp (selectF a1 zs = ((v, d), e)) → Bs E' b' l' c' d → Mem.le E E' ∧ bif e != (0 : Int) then Mem.le E E' ∧ K (SV.tup [SV.raw (VS none 0 0), SV.raw (Value.int IntKind.i64 e)]) E' else bif decide (a5 ≥ (1 : Int)) then bif bif true then decide (a5 ≤ (1000000000 : Int)) else false then Mem.le E' E' ∧ bif !bif true then decide ((NI l7) ≤ (4096 : Int)) else false then Mem.le E E' ∧ K (SV.tup [SV.raw (VS none 0 0), SV.raw (Value.int IntKind.i64 1)]) E' else ∃ (zs : List Int), Bs E' b2 l3 c4 zs ∧ l3 = 8448 ∧ ∀ (E'_1 : Mem), Mem.le E' E'_1 → Mem.le E' E'_1 ∧ bif decide (a5 ≤ if (progB (bankF zs 1)).fst > (progB (bankF zs 0)).fst then (progB (bankF zs 1)).fst else (progB (bankF zs 0)).fst) then Mem.le E E'_1 ∧ K (SV.tup [SV.raw (VS none 0 0), SV.raw (Value.int IntKind.i64 14)]) E'_1 else ∃ (zs_1 : List Int), Bs E'_1 b2 l3 c4 zs_1 ∧ l3 = 8448 ∧ (∀ (E' : Mem), Mem.le E'_1 E' → Hyp (selF zs_1 = (-1 : Int)) → Mem.le E'_1 E' ∧ Ct RA 8 Try.f18 [1, 1, 1, 1, 1, 1, 1] 0 (pubK E K) { fr := some (SV.agg [I a1, L b2 l3 c4]) :: some (I a5) :: some (L b6 l7 c8) :: some (SV.loc 0 0) :: none :: none :: some (L none 0 0) :: some (I 0) :: some (I v) :: some (L b' l' c') :: some (I e) :: some (I 2) :: some (SV.slc 1 0 1 1) :: none :: none :: none :: none :: some (SV.tup [I v, L b' l' c', I e]) :: some (SV.agg [I a1, L b2 l3 c4]) :: some (SV.tup [I v, L b' l' c', I e]) :: some (I v) :: some (L b' l' c') :: some (I e) :: some (I e) :: some (B (e != (0 : Int))) :: none :: some (I a5) :: some (L b6 l7 c8) :: some (B (bif true then decide ((NI l7) ≤ (4096 : Int)) else false)) :: some (B !bif true then decide ((NI l7) ≤ (4096 : Int)) else false) :: some (I a5) :: some (SV.agg [I a1, L b2 l3 c4]) :: some (I (if (progB (bankF zs 1)).fst > (progB (bankF zs 0)).fst then (progB (bankF zs 1)).fst else (progB (bankF zs 0)).fst)) :: some (B (decide (a5 ≤ if (progB (bankF zs 1)).fst > (progB (bankF zs 0)).fst then (progB (bankF zs 1)).fst else (progB (bankF zs 0)).fst))) :: some (SV.agg [I a1, L b2 l3 c4]) :: some (I (-1)) :: some (I 2) :: some (SV.agg [I a1, L b2 l3 c4]) :: some (SV.slc 1 0 1 1) :: n32 (n16 (n8 (n4 (n2 (none :: []))))), bx := [⟨24, .lst [I a1, L b2 l3 c4], 2, true⟩, ⟨24, .lst [I a1, L b2 l3 c4], 2, true⟩], E := E' : St }) ∧ (∀ (E' : Mem), Mem.le E'_1 E' → Hyp (selF zs_1 = (0 : Int)) → Mem.le E'_1 E' ∧ Ct RA 8 Try.f18 [1, 1, 1, 1, 1, 1, 1] 0 (pubK E K) { fr := some (SV.agg [I a1, L b2 l3 c4]) :: some (I a5) :: some (L b6 l7 c8) :: some (SV.loc 0 0) :: none :: none :: some (L none 0 0) :: some (I 0) :: some (I v) :: some (L b' l' c') :: some (I e) :: some (I 1) :: some (SV.slc 1 0 1 1) :: none :: none :: none :: none :: some (SV.tup [I v, L b' l' c', I e]) :: some (SV.agg [I a1, L b2 l3 c4]) :: some (SV.tup [I v, L b' l' c', I e]) :: some (I v) :: some (L b' l' c') :: some (I e) :: some (I e) :: some (B (e != (0 : Int))) :: none :: some (I a5) :: some (L b6 l7 c8) :: some (B (bif true then decide ((NI l7) ≤ (4096 : Int)) else false)) :: some (B !bif true then decide ((NI l7) ≤ (4096 : Int)) else false) :: some (I a5) :: some (SV.agg [I a1, L b2 l3 c4]) :: some (I (if (progB (bankF zs 1)).fst > (progB (bankF zs 0)).fst then (progB (bankF zs 1)).fst else (progB (bankF zs 0)).fst)) :: some (B (decide (a5 ≤ if (progB (bankF zs 1)).fst > (progB (bankF zs 0)).fst then (progB (bankF zs 1)).fst else (progB (bankF zs 0)).fst))) :: some (SV.agg [I a1, L b2 l3 c4]) :: some (I 0) :: some (I 1) :: some (SV.agg [I a1, L b2 l3 c4]) :: some (SV.slc 1 0 1 1) :: n32 (n16 (n8 (n4 (n2 (none :: []))))), bx := [⟨24, .lst [I a1, L b2 l3 c4], 2, true⟩, ⟨24, .lst [I a1, L b2 l3 c4], 2, true⟩], E := E' : St }) ∧ ∀ (E' : Mem), Mem.le E'_1 E' → Hyp (selF zs_1 = (1 : Int)) → Mem.le E'_1 E' ∧ Ct RA 8 Try.f18 [1, 1, 1, 1, 1, 1, 1] 0 (pubK E K) { fr := some (SV.agg [I a1, L b2 l3 c4]) :: some (I a5) :: some (L b6 l7 c8) :: some (SV.loc 0 0) :: none :: none :: some (L none 0 0) :: some (I 0) :: some (I v) :: some (L b' l' c') :: some (I e) :: some (I 0) :: some (SV.slc 1 0 1 1) :: none :: none :: none :: none :: some (SV.tup [I v, L b' l' c', I e]) :: some (SV.agg [I a1, L b2 l3 c4]) :: some (SV.tup [I v, L b' l' c', I e]) :: some (I v) :: some (L b' l' c') :: some (I e) :: some (I e) :: some (B (e != (0 : Int))) :: none :: some (I a5) :: some (L b6 l7 c8) :: some (B (bif true then decide ((NI l7) ≤ (4096 : Int)) else false)) :: some (B !bif true then decide ((NI l7) ≤ (4096 : Int)) else false) :: some (I a5) :: some (SV.agg [I a1, L b2 l3 c4]) :: some (I (if (progB (bankF zs 1)).fst > (progB (bankF zs 0)).fst then (progB (bankF zs 1)).fst else (progB (bankF zs 0)).fst)) :: some (B (decide (a5 ≤ if (progB (bankF zs 1)).fst > (progB (bankF zs 0)).fst then (progB (bankF zs 1)).fst else (progB (bankF zs 0)).fst))) :: some (SV.agg [I a1, L b2 l3 c4]) :: some (I 1) :: some (I 0) :: some (SV.agg [I a1, L b2 l3 c4]) :: some (SV.slc 1 0 1 1) :: n32 (n16 (n8 (n4 (n2 (none :: []))))), bx := [⟨24, .lst [I a1, L b2 l3 c4], 2, true⟩, ⟨24, .lst [I a1, L b2 l3 c4], 2, true⟩], E := E' : St } else Mem.le E' E' ∧ Mem.le E E' ∧ K (SV.tup [SV.raw (VS none 0 0), SV.raw (Value.int IntKind.i64 1)]) E' else Mem.le E' E' ∧ Mem.le E E' ∧ K (SV.tup [SV.raw (VS none 0 0), SV.raw (Value.int IntKind.i64 1)]) E')
  delta NI VS n2 n4 n8 n16 n32
  have hl := h0.2.1
  have hp := h1.2.1
  have ex : ∀ {ms : List (Int × List Int)} {e : Int}, installF a1 zs a5 p = (ms, e) → (∀ (b' : Option Addr) (l' c' : Nat) (E' : Mem), Mem.le E E' → FL E' b' l' c' ms → K (.tup [L b' l' c', I e]) E') := fun he b' l' c' E' hE hF => h b' l' c' _ _ E' hE he hF
  refine ⟨zs, h0, fun v d e b' l' c' E1 k1 r1 B1 => ⟨k1, condC (fun q => ⟨k1, ?_⟩) (fun q => ?_)⟩⟩
  · have r1 : selectF a1 zs = ((v, d), e) := r1
    have q : e ≠ 0 := by simpa using q
    refine ex (ms := []) (e := e) ?_ none 0 0 E1 k1 (FL.nil _)
    unfold installF
    rw [if_pos (by rw [r1]; exact q), r1]
  have r1 : selectF a1 zs = ((v, d), e) := r1
  have q : e = 0 := by simpa using q
  subst q
  have hm : memB a1 zs.length := Decidable.byContradiction fun z => by
    unfold selectF at r1
    rw [if_pos z] at r1
    have := (Prod.mk.inj r1).2
    exact absurd this (by decide)
  have hs0 : ¬ selF zs < 0 := fun z => by
    unfold selectF at r1
    rw [if_neg (fun w => w hm), if_pos z] at r1
    have := (Prod.mk.inj r1).2
    exact absurd this (by decide)
  have ea : a1 = 128 := hm.1
  have el : l3 = 8448 := by rw [← hl]; exact hm.2
  have un : installF a1 zs a5 p = if ¬ fitsF a5 p then ([], 1) else if a5 ≤ max (progB (bankF zs 0)).1 (progB (bankF zs 1)).1 then ([], 14) else (instL a1 zs (1 - selF zs).toNat a5 p, 0) := by
    unfold installF
    rw [if_neg (fun z => z (by rw [r1]))]
  have bad : ¬ fitsF a5 p → K (.tup [L none 0 0, I 1]) E1 := fun nf => ex (by rw [un, if_pos nf]) none 0 0 E1 k1 (FL.nil _)
  refine condC (fun g1 => condC (fun g2 => ⟨Mem.le_refl _, condC (fun g3 => ⟨k1, bad fun f => ?_⟩) (fun g3 => ?_)⟩) (fun g2 => ⟨Mem.le_refl _, k1, bad fun f => ?_⟩)) (fun g1 => ⟨Mem.le_refl _, k1, bad fun f => ?_⟩)
  · obtain ⟨f1, f2, f3⟩ := f
    simp at g3; omega
  · have fit : fitsF a5 p := ⟨by simpa using g1, by simpa using g2, by simp at g3; omega⟩
    refine ⟨zs, h0.mono k1, el, fun E2 k2 => ⟨k2, condC (fun g4 => ⟨Mem.le_trans k1 k2, ?_⟩) (fun g4 => ?_)⟩⟩
    · refine ex (ms := []) (e := 14) ?_ none 0 0 E2 (Mem.le_trans k1 k2) (FL.nil _)
      rw [un, if_neg (fun z => z fit), if_pos (by simp at g4; rw [Int.max_def]; split at g4 <;> split <;> omega)]
    · have g5 : ¬ a5 ≤ max (progB (bankF zs 0)).1 (progB (bankF zs 1)).1 := by simp at g4; rw [Int.max_def]; split at g4 <;> split <;> omega
      rw [if_neg (fun z => z fit), if_neg g5] at un
      have k12 := Mem.le_trans k1 k2
      have hv : 0 ≤ a5 ∧ a5 ≤ 1000000000 := ⟨by have := fit.1; omega, fit.2.1⟩
      have hpl : l7 ≤ 4096 := by have := fit.2.2; omega
      refine ⟨zs, h0.mono k12, el, fun E3 k3 r3 => ⟨k3, ?_⟩, fun E3 k3 r3 => ⟨k3, ?_⟩, fun E3 k3 r3 => ⟨k3, ?_⟩⟩
      · have r3 : selF zs = -1 := r3
        exact absurd (show selF zs < 0 by rw [r3]; decide) hs0
      · have r3 : selF zs = 0 := r3
        rw [r3, ea] at un
        have kk := Mem.le_trans k12 k3
        exact Ct_re [some 0, some 1] (c18_1 ea el (h0.mono kk) (h1.mono kk) hv hpl kk fun fb n cap E' kE F => ex (by rw [ea, un]; rfl) fb n cap E' kE F) (wkG (Mem.le_refl _))
      · have r3 : selF zs = 1 := r3
        rw [r3, ea] at un
        have kk := Mem.le_trans k12 k3
        exact Ct_re [some 0, some 1] (c18_0 ea el (h0.mono kk) (h1.mono kk) hv hpl kk fun fb n cap E' kE F => ex (by rw [ea, un]; rfl) fb n cap E' kE F) (wkG (Mem.le_refl _))
  · obtain ⟨f1, f2, f3⟩ := f
    simp at g2; omega
  · obtain ⟨f1, f2, f3⟩ := f
    simp at g1; omega
noncomputable def tabBF : CallT := fun f args bx E K => if f = 33 then tabN f args bx E K else tabBr f args bx E K
theorem tabBF_ok : ∀ f args bx E K, tabBF f args bx E K → CallSem Try.prog f args bx E K := by
  intro f args bx E K h
  unfold tabBF at h
  split at h
  · exact tabN_ok _ _ _ _ _ h
  · exact tabBr_ok _ _ _ _ _ h
noncomputable def RF : Cx := { P := Try.prog, inl := fun f => List.contains [32, 34] f, tab := tabH2, isB := fun f => f == 33 || f == 58 || f == 60, tabB := tabBF, opt := { unroll := 0, carry := [9, 10], cuts := [4, 5, 9, 13] }, muts := (fun o => match o with | .call _ => true | o => mutsD o) }
theorem okRF : CxOK RF := CxOK.four tabH2_ok (by kernel_rfl) (okInl (by kernel_rfl)) tabBF_ok
def shF4 (v : Int) (pb : Option Addr) (pl pc cap tot : Nat) (row : List Int) (E : Mem) : St := ⟨[some (I v), some (L pb pl pc), none, none, some (.loc 0 0), none, some (.loc 2 0)] ++ List.replicate 48 none, [⟨24, .lst [I 0, L none 0 0], 2, true⟩, ⟨5, .vals (vB row), tot, true⟩, ⟨24, .lst [I 128, .slc 1 0 8448 cap], 2, true⟩], E⟩
def shF5 (v : Int) (pb : Option Addr) (pl pc cap tot cap2 tot2 : Nat) (row code : List Int) (E : Mem) : St := ⟨[some (I v), some (L pb pl pc), none, none, some (.loc 0 0), none, some (.loc 2 0), none, some (.slc 3 0 17 cap2)] ++ List.replicate 46 none, [⟨24, .lst [I 0, L none 0 0], 2, true⟩, ⟨5, .vals (vB row), tot, true⟩, ⟨24, .lst [I 128, .slc 1 0 8448 cap], 2, true⟩, ⟨5, .vals (vB code), tot2, true⟩], E⟩
def shF6 (v : Int) (pb : Option Addr) (pl pc cap tot cap2 tot2 : Nat) (row code : List Int) (i : Nat) (E : Mem) : St := ⟨[some (I v), some (L pb pl pc), none, none, some (.loc 0 0), none, some (.loc 2 0), none, some (.slc 3 0 17 cap2), some (I (i : Nat))] ++ List.replicate 45 none, [⟨24, .lst [I 0, L none 0 0], 2, true⟩, ⟨5, .vals (vB row), tot, true⟩, ⟨24, .lst [I 128, .slc 1 0 8448 cap], 2, true⟩, ⟨5, .vals (vB code), tot2, true⟩], E⟩
def shF9 (v : Int) (pb : Option Addr) (pl pc cap tot : Nat) (row : List Int) (E : Mem) : St := ⟨[some (I v), some (L pb pl pc), none, none, some (.loc 0 0), none, some (.loc 2 0)] ++ List.replicate 48 none, [⟨24, .lst [I 0, L none 0 0], 2, true⟩, ⟨5, .vals (vB row), tot, true⟩, ⟨24, .lst [I 128, .slc 1 0 8448 cap], 2, true⟩], E⟩
def shF10 (v : Int) (pb : Option Addr) (pl pc cap tot : Nat) (row : List Int) (i : Nat) (E : Mem) : St := ⟨[some (I v), some (L pb pl pc), none, none, some (.loc 0 0), none, some (.loc 2 0), none, none, none, some (I (i : Nat))] ++ List.replicate 44 none, [⟨24, .lst [I 0, L none 0 0], 2, true⟩, ⟨5, .vals (vB row), tot, true⟩, ⟨24, .lst [I 128, .slc 1 0 8448 cap], 2, true⟩], E⟩
theorem f4 {v : Int} {pb : Option Addr} {pl pc cap tot : Nat} {row : List Int} {p : List Int} {KK : KT} (hp : Bs E pb pl pc p) (hv : 0 ≤ v ∧ v ≤ 1000000000) (hpl : pl ≤ 4096)
    (h : ∀ cap2 tot2 : Nat, 17 ≤ cap2 → cap2 ≤ tot2 → Ct RF 8 Try.f12 [1, 1, 1, 1] 0 KK (shF5 v pb pl pc cap tot cap2 tot2 row (hdrF v p ++ [80, 0, 0]) E)) : Pc RF 8 Try.f12 [1, 1, 1] 0 KK (shF4 v pb pl pc cap tot row E) := by
  refine same (by kernel_rfl) (?_ : IntKind.u64 = IntKind.u64 ∧ (((0 : Int) ≤ IntKind.wrap IntKind.u64 v ∧ IntKind.wrap IntKind.u64 v < (18446744073709551616 : Int)) ∧ (0 : Int) ≤ (4 : Int) ∧ (4 : Int) ≤ (8 : Int)) ∧ Mem.le E E ∧ IntKind.u64 = IntKind.u64 ∧ (((0 : Int) ≤ IntKind.wrap IntKind.u64 (NI pl) ∧ IntKind.wrap IntKind.u64 (NI pl) < (18446744073709551616 : Int)) ∧ (0 : Int) ≤ (2 : Int) ∧ (2 : Int) ≤ (8 : Int)) ∧ Mem.le E E ∧ 2 ≤ 2 ∧ (∀ (x : Value), List.Mem x (vB (storF (IntKind.wrap IntKind.u64 (NI pl)) (Int.toNat 2))) → Value.oneCell' x = true) ∧ 4 ≤ 4 ∧ 4 ≤ 4 ∧ 4 ≤ 4 ∧ ∀ (cap' tot' : Nat), 6 ≤ cap' → cap' * 1 ≤ tot' → ∃ (zs : List Int), (5 = 5 ∧ [U8 (IntKind.wrap IntKind.u64 v / (16777216 : Int) % (256 : Int)), U8 (IntKind.wrap IntKind.u64 v / (65536 : Int) % (256 : Int)), U8 (IntKind.wrap IntKind.u64 v / (256 : Int) % (256 : Int)), U8 (IntKind.wrap IntKind.u64 v / (1 : Int) % (256 : Int)), U8 (IntKind.wrap IntKind.u64 (NI pl) / (256 : Int) % (256 : Int)), U8 (IntKind.wrap IntKind.u64 (NI pl) / (1 : Int) % (256 : Int))] = vB zs ∧ 6 ≤ List.length zs ∧ 6 ≤ 100000 ∧ ∀ (z : Int), List.Mem z zs → (0 : Int) ≤ z ∧ z ≤ (255 : Int)) ∧ IntKind.u64 = IntKind.u64 ∧ ∃ (zs_1 : List Int), Bs E pb pl pc zs_1 ∧ pl ≤ 100000 ∧ Mem.le E E ∧ IntKind.u64 = IntKind.u64 ∧ (((0 : Int) ≤ fnvF (sumF (List.take 6 zs)) zs_1 ∧ fnvF (sumF (List.take 6 zs)) zs_1 < (18446744073709551616 : Int)) ∧ (0 : Int) ≤ (8 : Int) ∧ (8 : Int) ≤ (8 : Int)) ∧ Mem.le E E ∧ 8 ≤ 8 ∧ (∀ (x : Value), List.Mem x (vB (storF (fnvF (sumF (List.take (Int.toNat (4 : Int) + Int.toNat 2) zs)) zs_1) (Int.toNat 8))) → Value.oneCell' x = true) ∧ 6 ≤ 6 ∧ cap' * 1 ≤ tot' ∧ 6 ≤ cap' ∧ ∀ (cap' tot' : Nat), 14 ≤ cap' → cap' * 1 ≤ tot' → Mem.le E E ∧ 14 ≤ 14 ∧ cap' * 1 ≤ tot' ∧ 14 ≤ cap' ∧ ∀ (cap'_1 tot' : Nat), 17 ≤ cap'_1 → cap'_1 * 1 ≤ tot' → Ct RF 8 Try.f12 [1, 1, 1, 1] 0 KK { fr := some (I v) :: some (L pb pl pc) :: none :: none :: some (SV.loc 0 0) :: none :: some (SV.loc 2 0) :: none :: some (SV.slc 9 0 17 cap'_1) :: n8 (n2 (none :: (some (I v) :: some (L pb pl pc) :: some (SV.slc 7 0 14 cap') :: some (SV.slc 8 0 3 3) :: some (SV.slc 9 0 17 cap'_1) :: n16 (n8 (n4 (n2 [])))))), bx := [⟨24, .lst [I 0, L none 0 0], 2, true⟩, ⟨5, .vals (vB row), tot, true⟩, ⟨24, .lst [I 128, SV.slc 1 0 8448 cap], 2, true⟩, ⟨5, .lst [], 0, false⟩, ⟨5, .vals [U8 (IntKind.wrap IntKind.u64 (NI pl) / (256 : Int) % (256 : Int)), U8 (IntKind.wrap IntKind.u64 (NI pl) / (1 : Int) % (256 : Int))], 2, true⟩, ⟨5, .lst [], 0, false⟩, ⟨5, .vals [U8 (fnvF (sumF (List.take 6 zs)) zs_1 / (72057594037927936 : Int) % (256 : Int)), U8 (fnvF (sumF (List.take 6 zs)) zs_1 / (281474976710656 : Int) % (256 : Int)), U8 (fnvF (sumF (List.take 6 zs)) zs_1 / (1099511627776 : Int) % (256 : Int)), U8 (fnvF (sumF (List.take 6 zs)) zs_1 / (4294967296 : Int) % (256 : Int)), U8 (fnvF (sumF (List.take 6 zs)) zs_1 / (16777216 : Int) % (256 : Int)), U8 (fnvF (sumF (List.take 6 zs)) zs_1 / (65536 : Int) % (256 : Int)), U8 (fnvF (sumF (List.take 6 zs)) zs_1 / (256 : Int) % (256 : Int)), U8 (fnvF (sumF (List.take 6 zs)) zs_1 / (1 : Int) % (256 : Int))], 8, true⟩, ⟨5, .lst [], 0, false⟩, ⟨5, .lst [SV.raw (U8 80), SV.raw (U8 0), SV.raw (U8 0)], 3, true⟩, ⟨5, .vals [U8 (IntKind.wrap IntKind.u64 v / (16777216 : Int) % (256 : Int)), U8 (IntKind.wrap IntKind.u64 v / (65536 : Int) % (256 : Int)), U8 (IntKind.wrap IntKind.u64 v / (256 : Int) % (256 : Int)), U8 (IntKind.wrap IntKind.u64 v / (1 : Int) % (256 : Int)), U8 (IntKind.wrap IntKind.u64 (NI pl) / (256 : Int) % (256 : Int)), U8 (IntKind.wrap IntKind.u64 (NI pl) / (1 : Int) % (256 : Int)), U8 (fnvF (sumF (List.take 6 zs)) zs_1 / (72057594037927936 : Int) % (256 : Int)), U8 (fnvF (sumF (List.take 6 zs)) zs_1 / (281474976710656 : Int) % (256 : Int)), U8 (fnvF (sumF (List.take 6 zs)) zs_1 / (1099511627776 : Int) % (256 : Int)), U8 (fnvF (sumF (List.take 6 zs)) zs_1 / (4294967296 : Int) % (256 : Int)), U8 (fnvF (sumF (List.take 6 zs)) zs_1 / (16777216 : Int) % (256 : Int)), U8 (fnvF (sumF (List.take 6 zs)) zs_1 / (65536 : Int) % (256 : Int)), U8 (fnvF (sumF (List.take 6 zs)) zs_1 / (256 : Int) % (256 : Int)), U8 (fnvF (sumF (List.take 6 zs)) zs_1 / (1 : Int) % (256 : Int)), U8 80, U8 0, U8 0], tot', true⟩], E := E : St })
  delta NI U8 n2 n4 n8 n16
  have hl := hp.2.1
  rw [wu64' (x := v) (by omega), wu64' (x := (pl : Int)) (by omega)]
  have b6 : ∀ z ∈ storF v 4 ++ storF (pl : Int) 2, 0 ≤ z ∧ z ≤ 255 := fun z hz => (List.mem_append.1 hz).elim (storF_byte _ _ z) (storF_byte _ _ z)
  have bd : 0 ≤ fnvF (sumF (List.take 6 (storF v 4 ++ storF (pl : Int) 2))) p ∧ fnvF (sumF (List.take 6 (storF v 4 ++ storF (pl : Int) 2))) p < 18446744073709551616 := fnvF_bd (sumF_bd _)
  refine ⟨rfl, ⟨⟨by omega, by omega⟩, by decide, by decide⟩, Mem.le_refl _, rfl, ⟨⟨by omega, by omega⟩, by decide, by decide⟩, Mem.le_refl _, by decide, vB_one _, by decide, by decide, by decide, fun cap1 tot1 q1 q2 => ⟨storF v 4 ++ storF (pl : Int) 2, ⟨rfl, rfl, by simp [storF_len], by decide, b6⟩, rfl, p, hp, by omega, Mem.le_refl _, rfl, ⟨bd, by decide, by decide⟩, Mem.le_refl _, by decide, vB_one _, by decide, q2, q1, fun cap2 tot2 q3 q4 => ⟨Mem.le_refl _, by decide, q4, q3, fun cap3 tot3 q5 q6 => ?_⟩⟩⟩
  have e6 : (storF v 4 ++ storF (pl : Int) 2).take 6 = storF v 4 ++ storF (pl : Int) 2 := List.take_of_length_le (by simp [storF_len])
  have eh : hdrF v p = storF v 4 ++ (storF (pl : Int) 2 ++ storF (fnvF (sumF (storF v 4 ++ storF (pl : Int) 2)) p) 8) := by
    unfold hdrF
    rw [show sumF (storF v 4 ++ (storF (p.length : Int) 2 ++ p)) = fnvF (sumF (storF v 4 ++ storF (pl : Int) 2)) p by rw [hl]; unfold sumF; rw [fnvF_app, List.append_assoc], hl]
  have := h cap3 tot3 q5 (by omega)
  rw [eh, ← e6] at this
  exact Ct_re [some 0, some 1, some 2, some 9] this (wkG (Mem.le_refl _))
def wrA (R : List Int) (a : Nat) (ds : List Int) (i : Nat) : List Int := R.take a ++ (ds.take i ++ R.drop (a + i))
theorem wrA_0 {R ds : List Int} {a : Nat} : wrA R a ds 0 = R := by unfold wrA; simp
theorem wrA_all {R ds : List Int} {a : Nat} : wrA R a ds ds.length = R.take a ++ (ds ++ R.drop (a + ds.length)) := by unfold wrA; simp
theorem wrA_len {R ds : List Int} {a i : Nat} (h : a + ds.length ≤ R.length) (hi : i ≤ ds.length) : (wrA R a ds i).length = R.length := by
  unfold wrA; simp; omega
theorem wrA_step {R ds : List Int} {a i : Nat} (h : a + ds.length ≤ R.length) (hi : i < ds.length) : layV (vB (wrA R a ds i)) (a + i) [.int .u8 (ds.getD i 0)] = vB (wrA R a ds (i + 1)) := by
  have e := layV_app (xs := wrA R a ds i) (ys := [ds.getD i 0]) (p := a + i) (by rw [wrA_len h (by omega)]; simp; omega)
  rw [show vB [ds.getD i 0] = [Value.int .u8 (ds.getD i 0)] from rfl] at e
  rw [e]
  congr 1
  have l1 : (R.take a).length = a := by rw [List.length_take]; omega
  have l2 : (ds.take i).length = i := by rw [List.length_take]; omega
  have t1 : (wrA R a ds i).take (a + i) = R.take a ++ ds.take i := by
    unfold wrA; rw [← List.append_assoc, List.take_left' (by rw [List.length_append, l1, l2])]
  have d1 : (wrA R a ds i).drop (a + i + [ds.getD i 0].length) = R.drop (a + (i + 1)) := by
    unfold wrA
    rw [← List.append_assoc, ← List.drop_drop, List.drop_left' (by rw [List.length_append, l1, l2]), List.drop_drop]
    simp; congr 1
  rw [t1, d1]
  unfold wrA
  rw [List.take_succ_eq_append_getElem hi, show ds.getD i 0 = ds[i] by rw [List.getD_eq_getElem?_getD, List.getElem?_eq_getElem hi]; rfl]
  simp only [List.append_assoc, List.cons_append, List.nil_append]
theorem f6 {v : Int} {pb : Option Addr} {pl pc cap tot cap2 tot2 : Nat} {R code : List Int} {i : Nat} {KK : KT} (hc : code.length = 17) (hR : 8448 ≤ R.length) (hi : i ≤ 17)
    (h : i = 17 → Ct RF 8 Try.f12 [1, 1, 1, 1, 1] 0 KK (shF9 v pb pl pc cap tot (wrA R 0 code 17) E))
    (ih : i < 17 → Lp RF 8 Try.f12 [1, 1, 1, 1, 0, 1, 0] 0 KK (shF6 v pb pl pc cap tot cap2 tot2 (wrA R 0 code (i + 1)) code (i + 1) E)) : Rnd RF 8 Try.f12 [1, 1, 1, 1, 0, 1, 0] 0 KK (shF6 v pb pl pc cap tot cap2 tot2 (wrA R 0 code i) code i E) := by
  refine same (by kernel_rfl) (?_ : bif decide ((NI i) < (17 : Int)) then req ((0 : Int) ≤ (NI i) ∧ (NI i) < (17 : Int)) (∃ (n : Int), LoadV RF.P 5 (vB code) (0 + Int.toNat (NI i) * 1) (SV.raw (U8 n)) ∧ req ((0 : Int) ≤ (NI i) ∧ (NI i) < (8448 : Int)) (0 + Int.toNat (NI i) * 1 + 1 ≤ List.length (vB (wrA R 0 code i)) ∧ Lp RF 8 Try.f12 [1, 1, 1, 1, 0, 1, 0] 0 KK { fr := some (I v) :: some (L pb pl pc) :: none :: none :: some (SV.loc 0 0) :: none :: some (SV.loc 2 0) :: none :: some (SV.slc 3 0 17 cap2) :: some (I (WI ((NI i) + (1 : Int)))) :: n32 (n8 (n4 (none :: []))), bx := [⟨24, .lst [I 0, L none 0 0], 2, true⟩, ⟨5, .vals (layV (vB (wrA R 0 code i)) (0 + Int.toNat (NI i) * 1) [U8 n]), tot, true⟩, ⟨24, .lst [I 128, SV.slc 1 0 8448 cap], 2, true⟩, ⟨5, .vals (vB code), tot2, true⟩], E := E : St })) else Ct RF 8 Try.f12 [1, 1, 1, 1, 1] 0 KK { fr := some (I v) :: some (L pb pl pc) :: none :: none :: some (SV.loc 0 0) :: none :: some (SV.loc 2 0) :: none :: some (SV.slc 3 0 17 cap2) :: some (I (NI i)) :: n8 (n4 (n2 (none :: (some (I (NI i)) :: some (SV.slc 3 0 17 cap2) :: some (I 17) :: some (B (decide ((NI i) < (17 : Int)))) :: n16 (n8 (n2 [])))))), bx := [⟨24, .lst [I 0, L none 0 0], 2, true⟩, ⟨5, .vals (vB (wrA R 0 code i)), tot, true⟩, ⟨24, .lst [I 128, SV.slc 1 0 8448 cap], 2, true⟩, ⟨5, .vals (vB code), tot2, true⟩], E := E : St })
  delta WI NI U8 n2 n4 n8 n16 n32
  refine condC (fun g => ?_) (fun g => ?_)
  · have g : i < 17 := by simp at g; omega
    have w1 : 0 + Int.toNat (i : Int) * 1 = i := by rw [Int.toNat_natCast]; omega
    have w2 : IntKind.wrap .i64 ((i : Int) + 1) = ((i + 1 : Nat) : Int) := by rw [wrap_i64 (by omega)]; omega
    rw [w1, w2]
    have st := wrA_step (R := R) (ds := code) (a := 0) (i := i) (by omega) (by omega)
    rw [Nat.zero_add] at st
    have ec : (vB code)[i]? = some (.int .u8 (code.getD i 0)) := by rw [List.getElem?_map, List.getD_eq_getElem?_getD, List.getElem?_eq_getElem (by omega)]; rfl
    refine req_intro (by omega) ⟨code.getD i 0, loadV_cell rfl rfl ec, req_intro (by omega) ⟨by rw [List.length_map, wrA_len (by omega) (by omega)]; omega, ?_⟩⟩
    rw [st]
    exact Lp_re [some 0, some 1, some 2, some 3] (ih g) (wkG (Mem.le_refl _))
  · have g : i = 17 := by simp at g; omega
    subst g
    exact Ct_re [some 0, some 1, some 2] (h rfl) (wkG (Mem.le_refl _))
theorem f5 {v : Int} {pb : Option Addr} {pl pc cap tot cap2 tot2 : Nat} {row code : List Int} {KK : KT} (hc : code.length = 17) (hR : 8448 ≤ row.length)
    (h : Ct RF 8 Try.f12 [1, 1, 1, 1, 1] 0 KK (shF9 v pb pl pc cap tot (wrA row 0 code 17) E)) : Pc RF 8 Try.f12 [1, 1, 1, 1] 0 KK (shF5 v pb pl pc cap tot cap2 tot2 row code E) := by
  refine same (by kernel_rfl) (?_ : Lp RF 8 Try.f12 [1, 1, 1, 1, 0, 1, 0] 0 KK { fr := some (I v) :: some (L pb pl pc) :: none :: none :: some (SV.loc 0 0) :: none :: some (SV.loc 2 0) :: none :: some (SV.slc 3 0 17 cap2) :: some (I 0) :: n32 (n8 (n4 (none :: []))), bx := [⟨24, .lst [I 0, L none 0 0], 2, true⟩, ⟨5, .vals (vB row), tot, true⟩, ⟨24, .lst [I 128, SV.slc 1 0 8448 cap], 2, true⟩, ⟨5, .vals (vB code), tot2, true⟩], E := E : St })
  delta n4 n8 n32
  have key := Lp_ind okRF (n := 8) (fn := Try.f12) (p := [1, 1, 1, 1, 0, 1, 0]) (n0 := 0) (K := KK) (fun x : {i : Nat // i ≤ 17} => shF6 v pb pl pc cap tot cap2 tot2 (wrA row 0 code x.1) code x.1 E) (fun x => 17 - x.1)
    (fun x ih => f6 hc hR x.2 (fun e => h) fun g => ih ⟨x.1 + 1, g⟩ (by show 17 - (_ + 1) < 17 - _; omega)) ⟨0, by decide⟩
  rw [wrA_0] at key
  exact Lp_re [some 0, some 1, some 2, some 3] key (wkG (Mem.le_refl _))
theorem f10 {v : Int} {pb : Option Addr} {pl pc cap tot : Nat} {R p : List Int} {i : Nat} {KK : KT} (hp : Bs E pb pl pc p) (hpl : pl ≤ 4096) (hR : 8448 ≤ R.length) (hi : i ≤ pl)
    (h : i = pl → Ct RF 8 Try.f12 [1, 1, 1, 1, 1, 1] 0 KK (shF9 v pb pl pc cap tot (wrA R 32 p pl) E))
    (ih : i < pl → Lp RF 8 Try.f12 [1, 1, 1, 1, 1, 0, 1, 0] 0 KK (shF10 v pb pl pc cap tot (wrA R 32 p (i + 1)) (i + 1) E)) : Rnd RF 8 Try.f12 [1, 1, 1, 1, 1, 0, 1, 0] 0 KK (shF10 v pb pl pc cap tot (wrA R 32 p i) i E) := by
  refine same (by kernel_rfl) (?_ : bif decide ((NI i) < (NI pl)) then req ((0 : Int) ≤ (NI i) ∧ (NI i) < (NI pl)) ((∃ (cs : List Value), E (VS pb pl pc) cs ∧ (cs = [] → False)) ∧ ∃ (n : Int), LoadE RF.P E 5 (VS pb pl pc) (Int.toNat (NI i) * 1) (SV.raw (U8 n)) ∧ req ((0 : Int) ≤ WI ((32 : Int) + (NI i)) ∧ WI ((32 : Int) + (NI i)) < (8448 : Int)) (0 + Int.toNat (WI ((32 : Int) + (NI i))) * 1 + 1 ≤ List.length (vB (wrA R 32 p i)) ∧ Lp RF 8 Try.f12 [1, 1, 1, 1, 1, 0, 1, 0] 0 KK { fr := some (I v) :: some (L pb pl pc) :: none :: none :: some (SV.loc 0 0) :: none :: some (SV.loc 2 0) :: none :: none :: none :: some (I (WI ((NI i) + (1 : Int)))) :: n32 (n8 (n4 [])), bx := [⟨24, .lst [I 0, L none 0 0], 2, true⟩, ⟨5, .vals (layV (vB (wrA R 32 p i)) (0 + Int.toNat (WI ((32 : Int) + (NI i))) * 1) [U8 n]), tot, true⟩, ⟨24, .lst [I 128, SV.slc 1 0 8448 cap], 2, true⟩], E := E : St })) else Ct RF 8 Try.f12 [1, 1, 1, 1, 1, 1] 0 KK { fr := some (I v) :: some (L pb pl pc) :: none :: none :: some (SV.loc 0 0) :: none :: some (SV.loc 2 0) :: none :: none :: none :: some (I (NI i)) :: n16 (n8 (n4 (some (I (NI i)) :: some (L pb pl pc) :: some (I (NI pl)) :: some (B (decide ((NI i) < (NI pl)))) :: n8 (n4 [])))), bx := [⟨24, .lst [I 0, L none 0 0], 2, true⟩, ⟨5, .vals (vB (wrA R 32 p i)), tot, true⟩, ⟨24, .lst [I 128, SV.slc 1 0 8448 cap], 2, true⟩], E := E : St })
  delta WI NI U8 VS n4 n8 n16 n32
  have pl1 := hp.2.1
  refine condC (fun g => ?_) (fun g => ?_)
  · have g : i < pl := by simp at g; omega
    have w0 : IntKind.wrap .i64 (32 + (i : Int)) = ((32 + i : Nat) : Int) := by rw [wrap_i64 (by omega)]; omega
    have w2 : IntKind.wrap .i64 ((i : Int) + 1) = ((i + 1 : Nat) : Int) := by rw [wrap_i64 (by omega)]; omega
    have w1 : 0 + Int.toNat ((32 + i : Nat) : Int) * 1 = 32 + i := by rw [Int.toNat_natCast]; omega
    rw [w0, w2, w1]
    have st := wrA_step (R := R) (ds := p) (a := 32) (i := i) (by omega) (by omega)
    refine req_intro (by omega) ⟨hp.ne (i := i) g, p.getD i 0, hp.load rfl (i := i) g, req_intro (by omega) ⟨by rw [List.length_map, wrA_len (by omega) (by omega)]; omega, ?_⟩⟩
    rw [st]
    exact Lp_re [some 0, some 1, some 2] (ih g) (wkG (Mem.le_refl _))
  · have g : i = pl := by simp at g; omega
    subst g
    exact Ct_re [some 0, some 1, some 2] (h rfl) (wkG (Mem.le_refl _))
theorem f9 {v : Int} {pb : Option Addr} {pl pc cap tot : Nat} {row : List Int} {p : List Int} {KK : KT} (hp : Bs E pb pl pc p) (hpl : pl ≤ 4096) (hR : 8448 ≤ row.length)
    (h : Ct RF 8 Try.f12 [1, 1, 1, 1, 1, 1] 0 KK (shF9 v pb pl pc cap tot (wrA row 32 p pl) E)) : Pc RF 8 Try.f12 [1, 1, 1, 1, 1] 0 KK (shF9 v pb pl pc cap tot row E) := by
  refine same (by kernel_rfl) (?_ : Lp RF 8 Try.f12 [1, 1, 1, 1, 1, 0, 1, 0] 0 KK { fr := some (I v) :: some (L pb pl pc) :: none :: none :: some (SV.loc 0 0) :: none :: some (SV.loc 2 0) :: none :: none :: none :: some (I 0) :: n32 (n8 (n4 [])), bx := [⟨24, .lst [I 0, L none 0 0], 2, true⟩, ⟨5, .vals (vB row), tot, true⟩, ⟨24, .lst [I 128, SV.slc 1 0 8448 cap], 2, true⟩], E := E : St })
  delta n4 n8 n32
  have key := Lp_ind okRF (n := 8) (fn := Try.f12) (p := [1, 1, 1, 1, 1, 0, 1, 0]) (n0 := 0) (K := KK) (fun x : {i : Nat // i ≤ pl} => shF10 v pb pl pc cap tot (wrA row 32 p x.1) x.1 E) (fun x => pl - x.1)
    (fun x ih => f10 hp hpl hR x.2 (fun e => h) fun g => ih ⟨x.1 + 1, g⟩ (by show pl - (_ + 1) < pl - _; omega)) ⟨0, Nat.zero_le _⟩
  rw [wrA_0] at key
  exact Lp_re [some 0, some 1, some 2] key (wkG (Mem.le_refl _))
theorem f13 {v : Int} {pb : Option Addr} {pl pc cap tot : Nat} {row : List Int} {E0 : Mem} {K : SV → Mem → Prop} (h : ∀ base E', Mem.le E E' → WinE E' base (vB row) → Mem.le E0 E' ∧ K (.tup [.agg [I 128, L (base.map fun x => x.add 0) 8448 cap], I 0]) E') : Pc RF 8 Try.f12 [1, 1, 1, 1, 1, 1] 0 (pubK E0 K) (shF9 v pb pl pc cap tot row E) := by
  refine same (by kernel_rfl) (?_ : ∀ (base : Option Addr) (E' : Mem), Mem.le E E' → WinE E' base (vB row) → Mem.le E0 E' ∧ K (SV.tup [SV.agg [SV.raw (Value.int IntKind.i64 (128 : Int)), SV.raw (Value.slice (Option.map (fun (x : Addr) => Addr.add x 0) base) 8448 cap)], SV.raw (Value.int IntKind.i64 (0 : Int))]) E')
  exact h
theorem q12 {a1 : Int} {b2 : Option Addr} {l3 : Nat} {c4 : Nat} {zs : List Int} (h0 : Bs E b2 l3 c4 zs) (h : ∀ (s' : Int) (b' : Option Addr) (l' c' : Nat) (ys : List Int) (e : Int) (E' : Mem), Mem.le E E' → Hyp (formatB a1 zs = ((s', ys), e)) → Bs E' b' l' c' ys → K (.tup [.agg [I s', L b' l' c'], I e]) E') :
    Ent RF 8 Try.f12 [I a1, L b2 l3 c4] E K := by
  refine same (by kernel_rfl) (?_ : bif decide (a1 ≥ (1 : Int)) then bif bif true then decide (a1 ≤ (1000000000 : Int)) else false then Mem.le E E ∧ bif !bif true then decide ((NI l3) ≤ (4096 : Int)) else false then Mem.le E E ∧ K (SV.tup [SV.agg [SV.raw (Value.int IntKind.i64 0), SV.raw (VS none 0 0)], SV.raw (Value.int IntKind.i64 1)]) E else (Hyp ((hidN 128 66).snd ≠ (0 : Int)) → Mem.le E E ∧ Ct RF 8 Try.f12 [1, 1, 1] 0 (pubK E K) { fr := some (I a1) :: some (L b2 l3 c4) :: none :: none :: some (SV.loc 0 0) :: some (I 0) :: some (SV.loc 1 0) :: some (I 1) :: none :: none :: none :: some (I a1) :: some (L b2 l3 c4) :: some (B (bif true then decide ((NI l3) ≤ (4096 : Int)) else false)) :: some (B !bif true then decide ((NI l3) ≤ (4096 : Int)) else false) :: none :: some (SV.tup [SV.agg [I 0, L none 0 0], I 1]) :: some (SV.tup [SV.agg [I 0, L none 0 0], I 1]) :: some (SV.agg [I 0, L none 0 0]) :: some (I 1) :: n32 (n2 (none :: [])), bx := [⟨24, .lst [I 0, L none 0 0], 2, true⟩, ⟨24, .lst [I 0, L none 0 0], 2, true⟩], E := E : St }) ∧ ∀ (n cap tot : Nat) (zs : List Int), Hyp (hidN 128 (66 : Int) = (((128 : Int), List.replicate n 255), (0 : Int))) → n ≤ 16384 ∧ n ≤ List.length zs ∧ List.take n zs = List.replicate n (255 : Int) ∧ n ≤ cap → Mem.le E E ∧ Ct RF 8 Try.f12 [1, 1, 1] 0 (pubK E K) { fr := some (I a1) :: some (L b2 l3 c4) :: none :: none :: some (SV.loc 0 0) :: some (I 0) :: some (SV.loc 2 0) :: some (I 0) :: none :: none :: none :: some (I a1) :: some (L b2 l3 c4) :: some (B (bif true then decide ((NI l3) ≤ (4096 : Int)) else false)) :: some (B !bif true then decide ((NI l3) ≤ (4096 : Int)) else false) :: none :: some (SV.tup [SV.agg [I 128, SV.slc 1 0 n cap], I 0]) :: some (SV.tup [SV.agg [I 128, SV.slc 1 0 n cap], I 0]) :: some (SV.agg [I 128, SV.slc 1 0 n cap]) :: some (I 0) :: n32 (n2 (none :: [])), bx := [⟨24, .lst [I 0, L none 0 0], 2, true⟩, ⟨5, .vals (vB zs), tot, true⟩, ⟨24, .lst [I 128, SV.slc 1 0 n cap], 2, true⟩], E := E : St } else Mem.le E E ∧ Mem.le E E ∧ K (SV.tup [SV.agg [SV.raw (Value.int IntKind.i64 0), SV.raw (VS none 0 0)], SV.raw (Value.int IntKind.i64 1)]) E else Mem.le E E ∧ Mem.le E E ∧ K (SV.tup [SV.agg [SV.raw (Value.int IntKind.i64 0), SV.raw (VS none 0 0)], SV.raw (Value.int IntKind.i64 1)]) E)
  delta NI VS n2 n32
  have hl := h0.2.1
  have bad : ¬ fitsF a1 zs → Mem.le E E ∧ K (.tup [.agg [I 0, L none 0 0], I 1]) E := fun q => ⟨Mem.le_refl _, h 0 none 0 0 [] 1 E (Mem.le_refl _) (by show formatB a1 zs = _; unfold formatB; rw [if_neg q]) (Bs.nil _)⟩
  refine condC (fun q => condC (fun q2 => ⟨Mem.le_refl _, condC (fun q3 => bad (fun f => ?_)) (fun q3 => ?_)⟩) (fun q2 => ⟨Mem.le_refl _, bad (fun f => ?_)⟩)) (fun q => ⟨Mem.le_refl _, bad (fun f => ?_)⟩)
  · have := f.2.2; simp at q3; omega
  · have q : 1 ≤ a1 := by simpa using q
    have q2 : a1 ≤ 1000000000 := by simpa using q2
    have q3 : l3 ≤ 4096 := by simp at q3; omega
    have fit : fitsF a1 zs := ⟨q, q2, by omega⟩
    refine ⟨fun w => absurd (show (hidN 128 66).2 ≠ 0 from w) (by rw [hidN_eq, newB]; decide), fun n cap tot row w => ?_⟩
    have w : hidN 128 66 = ((128, List.replicate n 255), 0) := w
    rw [hidN_eq] at w
    have hn := new_n w
    subst hn
    rintro ⟨_, hz, ht, hc⟩
    refine ⟨Mem.le_refl _, ?_⟩
    have hh := hdrF_len a1 zs
    have c17 : (hdrF a1 zs ++ [80, 0, 0]).length = 17 := by rw [List.length_append, hh]; rfl
    have r1 : 8448 ≤ (wrA row 0 (hdrF a1 zs ++ [80, 0, 0]) 17).length := by rw [wrA_len (by omega) (by omega)]; exact hz
    refine Ct_re [some 0, some 1, some 2] (Ct_intro okRF (f4 h0 ⟨by omega, q2⟩ q3 fun cap2 tot2 g1 g2 => Ct_intro okRF (f5 c17 hz (Ct_intro okRF (f9 h0 q3 r1 (Ct_intro okRF (f13 fun base EE kE wE => ⟨kE, ?_⟩))))))) (wkG (Mem.le_refl _))
    obtain ⟨W, w1, w2, w3⟩ := fmt_row (v := a1) (p := zs) (zs := row) (by omega) hz ht
    have e1 : wrA row 0 (hdrF a1 zs ++ [80, 0, 0]) 17 = (row.take 0 ++ (hdrF a1 zs ++ row.drop (0 + (hdrF a1 zs).length))).take 14 ++ ([80, 0, 0] ++ (row.take 0 ++ (hdrF a1 zs ++ row.drop (0 + (hdrF a1 zs).length))).drop (14 + [(80 : Int), 0, 0].length)) := by
      have := wrA_all (R := row) (ds := hdrF a1 zs ++ [80, 0, 0]) (a := 0)
      rw [c17] at this
      rw [this, hh]
      simp only [List.take_zero, List.nil_append, Nat.zero_add]
      rw [List.take_left' hh, ← List.drop_drop, List.drop_left' hh, List.drop_drop, List.append_assoc]
      rfl
    have l1 := lay_len (xs := row) (ys := hdrF a1 zs) (p := 0) (by omega)
    have e2 : vB (wrA (wrA row 0 (hdrF a1 zs ++ [80, 0, 0]) 17) 32 zs l3) = vB W := by
      rw [← w1, layV_app (by omega), layV_app (by rw [l1]; simp; omega), ← e1, layV_app (by omega), ← wrA_all, hl]
    rw [e2] at wE
    have hb := win_take wE (by rw [w2]; exact hz) (by decide) hc (by
      obtain ⟨y, y1, y2, y3, _⟩ := format_ok fit h0.2.2.2.1
      unfold formatB at y1
      rw [if_pos fit] at y1
      rw [w3, (Prod.mk.inj (Prod.mk.inj y1).1).2]
      exact y3)
    rw [w3] at hb
    exact h 128 _ 8448 cap _ 0 EE kE (by show formatB a1 zs = _; unfold formatB; rw [if_pos fit]) hb
  · have := f.2.1; simp at q2; omega
  · have := f.1; simp at q; omega
theorem mems_all {s : Int} {g : Nat → Int → Int} {a n : Nat} {zs : List Int} : ∀ m ∈ mems s g a zs n, m.2.length = zs.length := by
  intro m hm
  obtain ⟨i, hi⟩ := List.getElem?_of_mem hm
  have hl := (List.getElem?_eq_some_iff.1 hi).1
  rw [mems_len] at hl
  rw [mems_get hl] at hi
  rw [← Option.some.inj hi]; exact stp_len _ _ _ _
theorem inst_mem {s v : Int} {z p : List Int} (hb : ∀ x ∈ z, 0 ≤ x ∧ x ≤ 255) (pb : ∀ x ∈ p, 0 ≤ x ∧ x ≤ 255) : ∀ m ∈ (installF s z v p).1, m.2.length ≤ 100000 := by
  unfold installF
  split
  · simp
  · rename_i hs
    split
    · simp
    · rename_i hf
      split
      · simp
      · have hm : memB s z.length := Decidable.byContradiction fun q => hs (by unfold selectF; rw [if_pos q]; decide)
        have hf := Decidable.not_not.1 hf
        obtain ⟨rfl, hz⟩ := hm
        have hn : ¬ selF z < 0 := fun q => hs (by unfold selectF; rw [if_neg (fun w => w ⟨rfl, hz⟩), if_pos q]; decide)
        obtain ⟨X, w, x1, x2, x3, x4, x5⟩ := inst_all (k := (1 - selF z).toNat) hz hb (by omega) hf pb
        intro m hm
        have hm : m ∈ instL 128 z (1 - selF z).toNat v p := hm
        rw [x1] at hm
        rcases List.mem_append.1 hm with q | q
        · rw [(x3 m q).2.1]; decide
        · rw [List.mem_singleton] at q; subst q; show w.length ≤ _; rw [x4]; decide
theorem find_01 (z : List Int) (v : Int) : findF z v = 0 ∨ findF z v = 1 ∨ findF z v = -1 := by
  unfold findF
  split
  · exact .inl rfl
  · split
    · exact .inr (.inl rfl)
    · exact .inr (.inr rfl)
theorem mark_mem {s v m : Int} {z : List Int} : (markF s z v m).1.length ≤ 2 ∧ ∀ x ∈ (markF s z v m).1, x.2.length ≤ 100000 := by
  unfold markF
  split
  · simp
  · rename_i h
    split
    · simp
    · rename_i h2
      have hm : memB s z.length := Decidable.byContradiction fun q => h (.inl q)
      obtain ⟨rfl, hz⟩ := hm
      have := find_01 z v
      rw [progF_mk (by rw [hz]; exact validB) (by omega) (by rw [hz]; show 4224 * findF z v + 14 + m + 1 ≤ _; omega)]
      refine ⟨by show (mems _ _ _ _ _).length ≤ 2; rw [mems_len]; exact Nat.le_refl _, fun x hx => ?_⟩
      rw [mems_all x hx, hz]; decide
theorem sel_len {s : Int} {z : List Int} : (selectF s z).1.2.length ≤ 100000 := by
  unfold selectF
  split
  · simp
  · rename_i hm
    have hz := (Decidable.not_not.1 hm).2
    split
    · simp
    · unfold progB
      split
      · simp
      · split
        · simp
        · show (List.take _ (List.drop 32 (bankF z _))).length ≤ _
          have : (bankF z (selF z).toNat).length ≤ z.length := by unfold bankF; rw [List.length_take, List.length_drop]; omega
          rw [List.length_take, List.length_drop]; omega
noncomputable def RG : Cx := { P := Try.prog, inl := fun f => List.contains [] f, tab := fun _ _ _ _ => False, isB := fun _ => false, tabB := fun _ _ _ _ _ => False, opt := { unroll := 0, carry := [3, 13], cuts := [] }, muts := mutsD }
theorem okRG : CxOK RG := CxOK.four (fun _ _ _ _ h => h.elim) (by kernel_rfl) (okInl (by kernel_rfl)) (fun _ _ _ _ _ h => h.elim)
def sh14 (a1 : Int) (b2 : Option Addr) (l3 c4 i : Nat) (u : Int) (E : Mem) : St := ⟨[none, some (.loc 0 0), none, some (I u), none, none, none, none, none, none, none, some (L b2 l3 c4), some (I l3), some (I (i : Nat))] ++ List.replicate 16 none, [⟨24, .lst [I a1, L b2 l3 c4], 2, true⟩], E⟩
theorem r14 {a1 : Int} {b2 : Option Addr} {l3 c4 i : Nat} {u : Int} {zs : List Int} {E0 : Mem} (h0 : Bs E b2 l3 c4 zs) (h1 : l3 ≤ 8458) (hi : i ≤ l3) (hE : Mem.le E0 E) (h : ∀ r : Bool, K (B r) E)
    (ih : ∀ u' : Int, i < l3 → Lp RG 8 Try.f14 [1, 1, 1, 0, 1, 0] 0 (pubK E0 K) (sh14 a1 b2 l3 c4 (i + 1) u' E)) : Rnd RG 8 Try.f14 [1, 1, 1, 0, 1, 0] 0 (pubK E0 K) (sh14 a1 b2 l3 c4 i u E) := by
  refine same (by kernel_rfl) (?_ : bif decide ((NI i) < (NI l3)) then req ((0 : Int) ≤ (NI i) ∧ (NI i) < (NI l3)) ((∃ (cs : List Value), E (VS b2 l3 c4) cs ∧ (cs = [] → False)) ∧ ∃ (n : Int), LoadE RG.P E 5 (VS b2 l3 c4) (Int.toNat (NI i) * 1) (SV.raw (U8 n)) ∧ bif n != (255 : Int) then ((4224 : Int) = (0 : Int) → False) ∧ bif bif true then decide (Int.tmod (NI i) (4224 : Int) ≥ (256 : Int)) else false then Lp RG 8 Try.f14 [1, 1, 1, 0, 1, 0] 0 (pubK E0 K) { fr := none :: some (SV.loc 0 0) :: none :: some (I (WI (u + (1 : Int)))) :: n4 (n2 (none :: (some (L b2 l3 c4) :: some (I (NI l3)) :: some (I (WI ((NI i) + (1 : Int)))) :: n16 []))), bx := [⟨24, .lst [I a1, L b2 l3 c4], 2, true⟩], E := E : St } else Lp RG 8 Try.f14 [1, 1, 1, 0, 1, 0] 0 (pubK E0 K) { fr := none :: some (SV.loc 0 0) :: none :: some (I u) :: n4 (n2 (none :: (some (L b2 l3 c4) :: some (I (NI l3)) :: some (I (WI ((NI i) + (1 : Int)))) :: n16 []))), bx := [⟨24, .lst [I a1, L b2 l3 c4], 2, true⟩], E := E : St } else Lp RG 8 Try.f14 [1, 1, 1, 0, 1, 0] 0 (pubK E0 K) { fr := none :: some (SV.loc 0 0) :: none :: some (I u) :: n4 (n2 (none :: (some (L b2 l3 c4) :: some (I (NI l3)) :: some (I (WI ((NI i) + (1 : Int)))) :: n16 []))), bx := [⟨24, .lst [I a1, L b2 l3 c4], 2, true⟩], E := E : St }) else Mem.le E0 E ∧ K (SV.raw (Value.bool (u == (0 : Int)))) E)
  delta WI NI U8 VS n2 n4 n16
  refine condC (fun g => ?_) (fun g => ⟨hE, h _⟩)
  have g : i < l3 := by simpa using g
  have w2 : IntKind.wrap .i64 ((i : Int) + 1) = ((i + 1 : Nat) : Int) := by rw [wrap_i64 (by omega)]; omega
  rw [w2]
  refine req_intro (by omega) ⟨h0.ne (i := i) g, zs.getD i 0, h0.load rfl (i := i) g, condC (fun _ => ⟨by decide, condC (fun _ => ?_) (fun _ => ?_)⟩) (fun _ => ?_)⟩
  · exact Lp_re [some 0] (ih _ g) (wkG (Mem.le_refl _))
  · exact Lp_re [some 0] (ih _ g) (wkG (Mem.le_refl _))
  · exact Lp_re [some 0] (ih _ g) (wkG (Mem.le_refl _))
theorem q14 {a1 : Int} {b2 : Option Addr} {l3 : Nat} {c4 : Nat} {zs : List Int} (h0 : Bs E b2 l3 c4 zs) (h : ∀ r : Bool, K (B r) E) :
    Ent RG 8 Try.f14 [.agg [I a1, L b2 l3 c4]] E K := by
  refine same (by kernel_rfl) (?_ : bif decide ((NI l3) > (8458 : Int)) then Mem.le E E ∧ K (SV.raw (Value.bool false)) E else Lp RG 8 Try.f14 [1, 1, 1, 0, 1, 0] 0 (pubK E K) { fr := some (SV.agg [I a1, L b2 l3 c4]) :: some (SV.loc 0 0) :: some (B false) :: some (I 0) :: none :: none :: some (SV.loc 0 1) :: some (L b2 l3 c4) :: some (I (NI l3)) :: some (B (decide ((NI l3) > (8458 : Int)))) :: some (SV.loc 0 1) :: some (L b2 l3 c4) :: some (I (NI l3)) :: some (I 0) :: n16 [], bx := [⟨24, .lst [I a1, L b2 l3 c4], 2, true⟩], E := E : St })
  delta NI n16
  refine condC (fun g => ⟨Mem.le_refl _, h _⟩) (fun g => ?_)
  have g : l3 ≤ 8458 := by simp at g; omega
  exact Lp_re [some 0] (Lp_ind okRG (fun x : {x : Nat × Int // x.1 ≤ l3} => sh14 a1 b2 l3 c4 x.1.1 x.1.2 E) (fun x => l3 - x.1.1) (fun x ih => r14 h0 g x.2 (Mem.le_refl _) h fun u' hlt => ih ⟨⟨x.1.1 + 1, u'⟩, hlt⟩ (by show l3 - (_ + 1) < l3 - _; omega)) ⟨⟨0, 0⟩, Nat.zero_le _⟩) (wkG (Mem.le_refl _))
theorem q12E {a1 : Int} {b2 : Option Addr} {l3 : Nat} {c4 : Nat} {zs : List Int} {s' : Int} {ys : List Int} {e : Int} (h0 : Bs E b2 l3 c4 zs) (h1 : formatB a1 zs = ((s', ys), e)) (h : ∀ (b' : Option Addr) (l' c' : Nat) (E' : Mem), Mem.le E E' → Bs E' b' l' c' ys → K (.tup [.agg [I s', L b' l' c'], I e]) E') :
    Ent RF 8 Try.f12 [I a1, L b2 l3 c4] E K := by
  exact q12 h0 fun s2 b' l' c' ys2 e2 E' k r B2 => by
    have r : formatB a1 zs = ((s2, ys2), e2) := r
    rw [h1] at r
    cases r
    exact h b' l' c' E' k B2
theorem q18E {a1 : Int} {b2 : Option Addr} {l3 : Nat} {c4 : Nat} {a5 : Int} {b6 : Option Addr} {l7 : Nat} {c8 : Nat} {zs : List Int} {p : List Int} {ms : List (Int × List Int)} {e : Int} (h0 : Bs E b2 l3 c4 zs) (h1 : Bs E b6 l7 c8 p) (h2 : installF a1 zs a5 p = (ms, e)) (h : ∀ (b' : Option Addr) (l' c' : Nat) (E' : Mem), Mem.le E E' → FL E' b' l' c' ms → K (.tup [L b' l' c', I e]) E') :
    Ent RA 8 Try.f18 [.agg [I a1, L b2 l3 c4], I a5, L b6 l7 c8] E K := by
  exact q18 h0 h1 fun b' l' c' m2 e2 E' k r F2 => by
    have r : installF a1 zs a5 p = (m2, e2) := r
    rw [h2] at r
    cases r
    exact h b' l' c' E' k F2
theorem q20E {a1 : Int} {b2 : Option Addr} {l3 : Nat} {c4 : Nat} {a5 : Int} {a6 : Int} {zs : List Int} {ms : List (Int × List Int)} {e : Int} (h0 : Bs E b2 l3 c4 zs) (h1 : markF a1 zs a5 a6 = (ms, e)) (h : ∀ (b' : Option Addr) (l' c' : Nat) (E' : Mem), Mem.le E E' → FL E' b' l' c' ms → K (.tup [L b' l' c', I e]) E') :
    Ent R7 8 Try.f20 [.agg [I a1, L b2 l3 c4], I a5, I a6] E K := by
  exact q20r h0 fun b' l' c' m2 e2 E' k r F2 => by
    have r : markF a1 zs a5 a6 = (m2, e2) := r
    rw [h1] at r
    cases r
    exact h b' l' c' E' k F2
theorem q24E {a1 : Int} {b2 : Option Addr} {l3 : Nat} {c4 : Nat} {a5 : Int} {zs : List Int} {r : Int} (h0 : Bs E b2 l3 c4 zs) (h1 : marksF a1 zs a5 = r) (h : ∀ E' : Mem, Mem.le E E' → K (I r) E') :
    Ent R6 8 Try.f24 [.agg [I a1, L b2 l3 c4], I a5] E K := by
  exact q24 h0 fun E' k => by
    rw [h1]
    exact h E' k
theorem q16E {a1 : Int} {b2 : Option Addr} {l3 : Nat} {c4 : Nat} {zs : List Int} {v : Int} {d : List Int} {e : Int} (h0 : Bs E b2 l3 c4 zs) (h1 : selectF a1 zs = ((v, d), e)) (h : ∀ (b' : Option Addr) (l' c' : Nat) (E' : Mem), Mem.le E E' → Bs E' b' l' c' d → K (.tup [I v, L b' l' c', I e]) E') :
    Ent R4 8 Try.f16 [.agg [I a1, L b2 l3 c4]] E K := by
  exact q16r h0 fun v2 d2 e2 b' l' c' E' k r B2 => by
    have r : selectF a1 zs = ((v2, d2), e2) := r
    rw [h1] at r
    cases r
    exact h b' l' c' E' k B2
theorem q13E {a1 : Int} {b2 : Option Addr} {l3 : Nat} {c4 : Nat} {a5 : Int} {b6 : Option Addr} {l7 : Nat} {c8 : Nat} {zs : List Int} (h0 : Bs E b2 l3 c4 zs) (h1 : Bs E b6 l7 c8 zs) (h2 : l3 ≤ 100000) (h3 : a1 = a5) (h : K (B true) E) :
    Ent FA 8 Try.f13 [.agg [I a1, L b2 l3 c4], .agg [I a5, L b6 l7 c8]] E K := by
  exact s13 h0 h1 h2 (by rw [decide_eq_true ⟨h3, rfl⟩]; exact h)
theorem q22E {b1 : Option Addr} {l2 : Nat} {c3 : Nat} {b4 : Option Addr} {l5 : Nat} {c6 : Nat} {ms : List (Int × List Int)} (h0 : FL E b1 l2 c3 ms) (h1 : FL E b4 l5 c6 ms) (h2 : (∀ m ∈ ms, m.2.length ≤ 100000)) (h3 : l2 ≤ 100000) (h : K (B true) E) :
    Ent FE 8 Try.f22 [L b1 l2 c3, L b4 l5 c6] E K := by
  exact s20 h0 h1 h2 h3 (by rw [decide_eq_true rfl]; exact h)
theorem q21E {b1 : Option Addr} {l2 : Nat} {c3 : Nat} {b4 : Option Addr} {l5 : Nat} {c6 : Nat} {zs : List Int} (h0 : Bs E b1 l2 c3 zs) (h1 : Bs E b4 l5 c6 zs) (h2 : l2 ≤ 100000) (h : K (B true) E) :
    Ent Q1 8 Try.f21 [L b1 l2 c3, L b4 l5 c6] E K := by
  exact q21 h0 h1 h2 (by rw [decide_eq_true rfl]; exact h)
end Go.Proofs.Ytdblighgcpabnaa.BootOwn
