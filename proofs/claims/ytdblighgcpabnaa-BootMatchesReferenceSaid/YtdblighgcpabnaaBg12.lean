/- What functions of the program compute; plain lemmas on it. Conditions: none. -/
import Derived.Test.YtdblighgcpabnaaBg3
namespace Go.Proofs.Ytdblighgcpabnaa.BootOwn
open Go Go.Sx
set_option maxRecDepth 100000
set_option maxHeartbeats 4000000
set_option linter.unusedVariables false
set_option linter.unusedSimpArgs false
variable {E : Mem} {K : SV → Mem → Prop}
def hdrF (v : Int) (p : List Int) : List Int := storF v 4 ++ (storF (p.length : Int) 2 ++ storF (sumF (storF v 4 ++ (storF (p.length : Int) 2 ++ p))) 8)
theorem hdrF_len (v : Int) (p : List Int) : (hdrF v p).length = 14 := by simp [hdrF, storF_len]
theorem hdrF_byte (v : Int) (p : List Int) : ∀ x ∈ hdrF v p, 0 ≤ x ∧ x ≤ 255 := fun x hx => by
  unfold hdrF at hx
  rcases List.mem_append.1 hx with h | h
  · exact storF_byte _ _ x h
  · rcases List.mem_append.1 h with h | h
    · exact storF_byte _ _ x h
    · exact storF_byte _ _ x h
theorem hidH_ex : ∃ f : Int → List Int → List Int, ∀ v p, f v p = hdrF v p := ⟨hdrF, fun _ _ => rfl⟩
noncomputable def hidH : Int → List Int → List Int := hidH_ex.choose
theorem hidH_eq (v : Int) (p : List Int) : hidH v p = hdrF v p := hidH_ex.choose_spec v p
theorem dv256 (n : Int) (k : Nat) : n / 256 ^ (k + 1) = n / 256 ^ k / 256 := by rw [Int.pow_succ, Int.ediv_ediv_of_nonneg (Int.le_of_lt (Int.pow_pos (by decide)))]
theorem fd256 (n : Int) : Int.fdiv n 256 = n / 256 := Int.fdiv_eq_ediv_of_nonneg _ (by decide)
theorem w8m (x : Int) : IntKind.wrap .u8 x = x % 256 := rfl
theorem stor2 (n : Int) : storF n 2 = [n / 256 % 256, n % 256] := by simp only [storF, dv256, Int.pow_zero, Int.ediv_one]
theorem stor4 (n : Int) : storF n 4 = [n / 256 / 256 / 256 % 256, n / 256 / 256 % 256, n / 256 % 256, n % 256] := by simp only [storF, dv256, Int.pow_zero, Int.ediv_one]
theorem stor8 (n : Int) : storF n 8 = [n / 256 / 256 / 256 / 256 / 256 / 256 / 256 % 256, n / 256 / 256 / 256 / 256 / 256 / 256 % 256, n / 256 / 256 / 256 / 256 / 256 % 256, n / 256 / 256 / 256 / 256 % 256, n / 256 / 256 / 256 % 256, n / 256 / 256 % 256, n / 256 % 256, n % 256] := by simp only [storF, dv256, Int.pow_zero, Int.ediv_one]
theorem stepF_bd (s x : Int) : 0 ≤ stepF s x ∧ stepF s x < 18446744073709551616 := by
  unfold stepF
  generalize (IntKind.wrap .u64 (((BitVec.ofInt (IntKind.bits .u64) s ^^^ BitVec.ofInt (IntKind.bits .u64) x).toNat : Nat) : Int) * 1099511628211) = y
  rw [show IntKind.wrap .u64 y = y % 18446744073709551616 from rfl]; omega
theorem fnvF_bd : ∀ {zs : List Int} {s : Int}, 0 ≤ s ∧ s < 18446744073709551616 → 0 ≤ fnvF s zs ∧ fnvF s zs < 18446744073709551616
  | [], s, h => h
  | x :: zs, s, h => fnvF_bd (zs := zs) (stepF_bd s x)
theorem sumF_bd (zs : List Int) : 0 ≤ sumF zs ∧ sumF zs < 18446744073709551616 := fnvF_bd (by decide)
theorem fnvF_app (s : Int) (xs ys : List Int) : fnvF (fnvF s xs) ys = fnvF s (xs ++ ys) := by unfold fnvF; rw [List.foldl_append]
noncomputable def tabBh : CallT := fun f args bx E K => match f with
  | 57 => d1 args fun x0 => match x0 with
    | .slc b 0 l c => sumD b l bx fun zs => K (.raw (.int .u64 (sumF zs))) bx E
    | _ => False
  | f => tab56 f args bx E K
theorem tabBh_ok : ∀ f args bx E K, tabBh f args bx E K → CallSem Try.prog f args bx E K := by
  intro f args bx E K h
  unfold tabBh at h
  split at h
  · obtain ⟨x0, rfl, k1⟩ := d1_elim h
    clear h
    split at k1
    case h_2 => exact k1.elim
    rename_i b l c
    obtain ⟨tot, zs, hb, hz, h⟩ := sumD_elim k1
    exact CallSem.see (args' := [.slc 0 0 l c]) hb (by simp [SV.renL, SV.ren, renF]) (EntB.sem okD3 Try.func57 ⟨by kernel_rfl, by kernel_rfl⟩ (b68 hz (see_introN h rfl)))
  · exact tab56_ok _ _ _ _ _ h
noncomputable def H1 : Cx := { P := Try.prog, inl := fun f => List.contains [55] f, tab := fun _ _ _ _ => False, isB := fun f => f == 56 || f == 57, tabB := tabBh, opt := { unroll := 20, carry := [] }, muts := (fun o => match o with | .call _ => true | o => mutsD o) }
theorem okH1 : CxOK H1 := CxOK.four (fun _ _ _ _ h => h.elim) (by kernel_rfl) (okInl (by kernel_rfl)) tabBh_ok
theorem q31 {a1 : Int} {b2 : Option Addr} {l3 : Nat} {c4 : Nat} {zs : List Int} (h0 : Bs E b2 l3 c4 zs) (h1 : 0 ≤ a1) (h2 : a1 ≤ 1000000000) (h3 : l3 ≤ 4096) (h : ∀ (b' : Option Addr) (l' c' : Nat) (ys : List Int) (E' : Mem), Mem.le E E' → Hyp (ys = hidH a1 zs) → Bs E' b' l' c' ys → K (L b' l' c') E') :
    Ent H1 8 Try.f31 [I a1, L b2 l3 c4] E K := by
  refine same (by kernel_rfl) (?_ : 4 ≤ 14 ∧ 3 ≤ 14 ∧ 2 ≤ 14 ∧ 1 ≤ 14 ∧ 6 ≤ 14 ∧ 5 ≤ 14 ∧ ∃ (zs : List Int), (5 = 5 ∧ [U8 (IntKind.wrap IntKind.u8 (Int.fdiv (Int.fdiv (Int.fdiv (IntKind.wrap IntKind.u64 a1) 256) 256) 256)), U8 (IntKind.wrap IntKind.u8 (Int.fdiv (Int.fdiv (IntKind.wrap IntKind.u64 a1) 256) 256)), U8 (IntKind.wrap IntKind.u8 (Int.fdiv (IntKind.wrap IntKind.u64 a1) 256)), U8 (IntKind.wrap IntKind.u8 (IntKind.wrap IntKind.u64 a1)), U8 (IntKind.wrap IntKind.u8 (Int.fdiv (IntKind.wrap IntKind.u64 (NI l3)) 256)), U8 (IntKind.wrap IntKind.u8 (IntKind.wrap IntKind.u64 (NI l3))), U8 0, U8 0, U8 0, U8 0, U8 0, U8 0, U8 0, U8 0] = vB zs ∧ 6 ≤ List.length zs ∧ 6 ≤ 100000 ∧ ∀ (z : Int), List.Mem z zs → (0 : Int) ≤ z ∧ z ≤ (255 : Int)) ∧ IntKind.u64 = IntKind.u64 ∧ ∃ (zs_1 : List Int), Bs E b2 l3 c4 zs_1 ∧ l3 ≤ 100000 ∧ Mem.le E E ∧ 14 ≤ 14 ∧ 13 ≤ 14 ∧ 12 ≤ 14 ∧ 11 ≤ 14 ∧ 10 ≤ 14 ∧ 9 ≤ 14 ∧ 8 ≤ 14 ∧ 7 ≤ 14 ∧ ∀ (base : Option Addr) (E' : Mem), Mem.le E E' → WinE E' base [U8 (IntKind.wrap IntKind.u8 (Int.fdiv (Int.fdiv (Int.fdiv (IntKind.wrap IntKind.u64 a1) 256) 256) 256)), U8 (IntKind.wrap IntKind.u8 (Int.fdiv (Int.fdiv (IntKind.wrap IntKind.u64 a1) 256) 256)), U8 (IntKind.wrap IntKind.u8 (Int.fdiv (IntKind.wrap IntKind.u64 a1) 256)), U8 (IntKind.wrap IntKind.u8 (IntKind.wrap IntKind.u64 a1)), U8 (IntKind.wrap IntKind.u8 (Int.fdiv (IntKind.wrap IntKind.u64 (NI l3)) 256)), U8 (IntKind.wrap IntKind.u8 (IntKind.wrap IntKind.u64 (NI l3))), U8 (IntKind.wrap IntKind.u8 (Int.fdiv (Int.fdiv (Int.fdiv (Int.fdiv (Int.fdiv (Int.fdiv (Int.fdiv (fnvF (sumF (List.take 6 zs)) zs_1) 256) 256) 256) 256) 256) 256) 256)), U8 (IntKind.wrap IntKind.u8 (Int.fdiv (Int.fdiv (Int.fdiv (Int.fdiv (Int.fdiv (Int.fdiv (fnvF (sumF (List.take 6 zs)) zs_1) 256) 256) 256) 256) 256) 256)), U8 (IntKind.wrap IntKind.u8 (Int.fdiv (Int.fdiv (Int.fdiv (Int.fdiv (Int.fdiv (fnvF (sumF (List.take 6 zs)) zs_1) 256) 256) 256) 256) 256)), U8 (IntKind.wrap IntKind.u8 (Int.fdiv (Int.fdiv (Int.fdiv (Int.fdiv (fnvF (sumF (List.take 6 zs)) zs_1) 256) 256) 256) 256)), U8 (IntKind.wrap IntKind.u8 (Int.fdiv (Int.fdiv (Int.fdiv (fnvF (sumF (List.take 6 zs)) zs_1) 256) 256) 256)), U8 (IntKind.wrap IntKind.u8 (Int.fdiv (Int.fdiv (fnvF (sumF (List.take 6 zs)) zs_1) 256) 256)), U8 (IntKind.wrap IntKind.u8 (Int.fdiv (fnvF (sumF (List.take 6 zs)) zs_1) 256)), U8 (IntKind.wrap IntKind.u8 (fnvF (sumF (List.take 6 zs)) zs_1))] → Mem.le E E' ∧ K (SV.raw (VS (Option.map (fun (x : Addr) => Addr.add x 0) base) 14 14)) E')
  delta NI U8 VS
  have hl := h0.2.1
  rw [wu64' (x := a1) (by omega), wu64' (x := (l3 : Int)) (by omega)]
  have e6 : (storF a1 4 ++ (storF (l3 : Int) 2 ++ List.replicate 8 0)).take 6 = storF a1 4 ++ storF (l3 : Int) 2 := by rw [← List.append_assoc, List.take_left' (by simp [storF_len])]
  refine ⟨by decide, by decide, by decide, by decide, by decide, by decide, storF a1 4 ++ (storF (l3 : Int) 2 ++ List.replicate 8 0), ⟨rfl, ?_, by simp [storF_len], by decide, ?_⟩, rfl, zs, h0, by omega, Mem.le_refl _, by decide, by decide, by decide, by decide, by decide, by decide, by decide, by decide, fun base E' k w => ⟨k, h _ _ _ _ E' k rfl ?_⟩⟩
  · rw [stor4, stor2]
    simp only [fd256, w8m]
    rfl
  · intro z hz
    rcases List.mem_append.1 hz with q | q
    · exact storF_byte _ _ z q
    rcases List.mem_append.1 q with q | q
    · exact storF_byte _ _ z q
    · have := List.eq_of_mem_replicate q; omega
  · rw [hidH_eq]
    refine Bs.win w ?_ (hdrF_len _ _) (Nat.le_refl _) (hdrF_byte _ _)
    rw [e6]
    unfold hdrF
    rw [show sumF (storF a1 4 ++ (storF (zs.length : Int) 2 ++ zs)) = fnvF (sumF (storF a1 4 ++ storF (l3 : Int) 2)) zs by rw [hl]; unfold sumF; rw [fnvF_app, List.append_assoc], hl, stor4, stor2, stor8]
    simp only [fd256, w8m]
    rfl
noncomputable def J5R : Cx := { P := Try.prog, inl := fun f => List.contains [] f, tab := fun _ _ _ _ => False, isB := fun _ => false, tabB := fun _ _ _ _ _ => False, opt := { unroll := 0, carry := [0, 5] }, muts := mutsD }
theorem okJ5R : CxOK J5R := CxOK.four (fun _ _ _ _ h => h.elim) (by kernel_rfl) (okInl (by kernel_rfl)) (fun _ _ _ _ _ h => h.elim)
def sh59r (n : Int) (b : Option Addr) (l : Nat) (c : Nat) (zs : List Int) (i : Nat) (E : Mem) : St := ⟨[some (.raw (.int .u64 (fnvF n (zs.take i)))), some (L b l c), none, none, none, some (I (i : Nat)), none, none, none, none, none, none, none, none, none, none, none, none, none, none, none], [], E⟩
theorem rnd59r {n : Int} {b : Option Addr} {l : Nat} {c : Nat} {zs : List Int} {i : Nat} {E0 : Mem}  (hz : Bs E b l c zs ∧ l ≤ 100000) (hi : i ≤ l) (hE : Mem.le E0 E) (h : K (.raw (.int .u64 (fnvF n zs))) E)
    (ih : (i < l) → Lp J5R 8 Try.f59 [1, 0, 1, 0] 0 (pubK E0 K) (sh59r n b l c zs (i + 1) E)) : Rnd J5R 8 Try.f59 [1, 0, 1, 0] 0 (pubK E0 K) (sh59r n b l c zs i E) := by
  refine same (by kernel_rfl) (?_ : bif decide ((NI i) < (NI l)) then req ((0 : Int) ≤ (NI i) ∧ (NI i) < (NI l)) ((∃ (cs : List Value), E (VS b l c) cs ∧ (cs = [] → False)) ∧ ∃ (n_1 : Int), LoadE J5R.P E 5 (VS b l c) (Int.toNat (NI i) * 1) (SV.raw (U8 n_1)) ∧ Lp J5R 8 Try.f59 [1, 0, 1, 0] 0 (pubK E0 K) { fr := some (SV.raw (Value.int IntKind.u64 (IntKind.wrap IntKind.u64 (IntKind.wrap IntKind.u64 (NI (BitVec.toNat (BitVec.ofInt (IntKind.bits IntKind.u64) (fnvF n (List.take i zs)) ^^^ BitVec.ofInt (IntKind.bits IntKind.u64) (IntKind.wrap IntKind.u64 n_1)))) * (1099511628211 : Int))))) :: some (L b l c) :: none :: none :: none :: some (I (WI ((NI i) + (1 : Int)))) :: n8 (n4 (n2 (none :: []))), bx := [], E := E : St }) else Mem.le E0 E ∧ K (SV.raw (Value.int IntKind.u64 (fnvF n (List.take i zs)))) E)
  delta WI NI U8 VS n2 n4 n8
  obtain ⟨hB, hl⟩ := hz
  have hb := hB.2.2.2.1
  have hn := hB.2.1
  refine condC (fun g => ?_) (fun g => ?_)
  · have g : i < l := by simpa using g
    have e : zs[i]? = some (zs.getD i 0) := by rw [List.getD_eq_getElem?_getD, List.getElem?_eq_getElem (by omega)]; rfl
    obtain ⟨b1, b2⟩ := hb _ (List.mem_of_getElem? e)
    refine req_intro (by omega) ⟨hB.ne g, zs.getD i 0, hB.load rfl g, ?_⟩
    rw [wu64' (x := zs.getD i 0) (by omega), show IntKind.wrap .u64 (IntKind.wrap .u64 (((BitVec.ofInt (IntKind.bits .u64) (fnvF n (zs.take i)) ^^^ BitVec.ofInt (IntKind.bits .u64) (zs.getD i 0)).toNat : Nat) : Int) * 1099511628211) = stepF (fnvF n (zs.take i)) (zs.getD i 0) from rfl, ← fnvF_take e, wrap_i64 (x := (i : Int) + 1) (by omega), show (i : Int) + 1 = ((i + 1 : Nat) : Int) by simp]
    exact Lp_re [] (ih g) (wkG (Mem.le_refl _))
  · have g : i = l := by simp at g; omega
    subst g
    rw [List.take_of_length_le (by omega)]
    exact ⟨hE, h⟩
theorem lp59r {n : Int} {b : Option Addr} {l : Nat} {c : Nat} {zs : List Int} {i : Nat} {E0 : Mem}  (hz : Bs E b l c zs ∧ l ≤ 100000) (hi : i ≤ l) (hE : Mem.le E0 E) (h : K (.raw (.int .u64 (fnvF n zs))) E) : Lp J5R 8 Try.f59 [1, 0, 1, 0] 0 (pubK E0 K) (sh59r n b l c zs i E) :=
  Lp_ind okJ5R (fun q0 : {i : Nat // i ≤ l} => sh59r n b l c zs q0.1 E) (fun q0 => l - q0.1) (fun q0 ih => rnd59r hz q0.2 hE h fun g => ih ⟨q0.1 + 1, by have := q0.2; omega⟩ (by show l - (_ + 1) < l - _; have := q0.2; omega)) ⟨i, hi⟩
theorem q59 {a1 : Int} {b2 : Option Addr} {l3 : Nat} {c4 : Nat} {zs : List Int} (h0 : Bs E b2 l3 c4 zs) (h1 : l3 ≤ 100000) (h : K (.raw (.int .u64 (fnvF a1 zs))) E) :
    Ent J5R 8 Try.f59 [.raw (.int .u64 a1), L b2 l3 c4] E K := by
  refine same (by kernel_rfl) (?_ : Lp J5R 8 Try.f59 [1, 0, 1, 0] 0 (pubK E K) { fr := some (SV.raw (Value.int IntKind.u64 a1)) :: some (L b2 l3 c4) :: none :: none :: some (SV.raw (Value.int IntKind.u64 0)) :: some (I 0) :: n8 (n4 (n2 (none :: []))), bx := [], E := E : St })
  delta n2 n4 n8
  exact Lp_re [] (lp59r (i := 0) ⟨h0, h1⟩ (Nat.zero_le _) (Mem.le_refl _) h) (wkG (Mem.le_refl _))
noncomputable def tabBr : CallT := fun f args bx E K => match f with
  | 58 => d2 args fun x0 x1 => dN .u64 x0 fun n => dI x1 fun m => ((0 ≤ n ∧ n < 18446744073709551616) ∧ 0 ≤ m ∧ m ≤ 8) ∧ K (.slc bx.length 0 m.toNat m.toNat) (bx ++ [⟨5, .vals (vB (storF n m.toNat)), m.toNat * 1, true⟩]) E
  | 60 => d1 args fun x0 => match x0 with
    | .slc b 0 l c => sumD b l bx fun zs => K (.raw (.int .u64 (sumF zs))) bx E
    | _ => False
  | _ => False
theorem tabBr_ok : ∀ f args bx E K, tabBr f args bx E K → CallSem Try.prog f args bx E K := by
  intro f args bx E K h
  unfold tabBr at h
  split at h
  · obtain ⟨x0, x1, rfl, k1⟩ := d2_elim h
    obtain ⟨n, rfl, k2⟩ := dN_elim k1
    obtain ⟨m, rfl, k3⟩ := dI_elim k2
    clear h k1 k2
    obtain ⟨⟨h0, h1, h2⟩, h⟩ := k3
    obtain ⟨m, rfl⟩ : ∃ k : Nat, m = k := ⟨m.toNat, by omega⟩
    rw [Int.toNat_natCast] at h
    exact CallSem.own0 (argv := [.int .u64 n, .int .i64 m]) rfl (EntB.sem okJ4 Try.func58 ⟨by kernel_rfl, by kernel_rfl⟩ (b57 h0 (by omega) (cloK_intro [some 0] ⟨m, m, 5, _, m * 1, rfl, rfl, h⟩ (wkG (Mem.le_refl _)))))
  · obtain ⟨x0, rfl, k1⟩ := d1_elim h
    clear h
    split at k1
    case h_2 => exact k1.elim
    rename_i b l c
    obtain ⟨tot, zs, hb, hz, h⟩ := sumD_elim k1
    exact CallSem.see (args' := [.slc 0 0 l c]) hb (by simp [SV.renL, SV.ren, renF]) (EntB.sem okJ6 Try.func60 ⟨by kernel_rfl, by kernel_rfl⟩ (b62 hz (see_introN h rfl)))
  · exact h.elim
noncomputable def tabH2 : FuncId → List SV → Mem → (SV → Mem → Prop) → Prop := fun f args E K => match f with
  | 59 => d2 args fun x0 x1 => dN .u64 x0 fun a1 => dS x1 fun b2 l3 c4 => ∃ (zs : List Int), Bs E b2 l3 c4 zs ∧ l3 ≤ 100000 ∧ (K (.raw (.int .u64 (fnvF a1 zs))) E)
  | _ => False
theorem tabH2_ok : TabOK Try.prog tabH2 := by
  intro f args E K h
  unfold tabH2 at h
  split at h
  · replace h := d2_elim h
    obtain ⟨x0, x1, rfl, h⟩ := h
    replace h := dN_elim h
    obtain ⟨a1, rfl, h⟩ := h
    replace h := dS_elim h
    obtain ⟨b2, l3, c4, rfl, h⟩ := h
    obtain ⟨zs, g0, g1, h⟩ := h
    exact TabSem.congr (valL_cons rfl (valL_cons rfl rfl)) (Ent.sem okJ5R Try.func59 ⟨by kernel_rfl, by kernel_rfl⟩ rfl (q59 g0 g1 h))
  · exact h.elim
noncomputable def H2 : Cx := { P := Try.prog, inl := fun f => List.contains [] f, tab := tabH2, isB := fun f => f == 58 || f == 60, tabB := tabBr, opt := { unroll := 0, carry := [] }, muts := (fun o => match o with | .call _ => true | o => mutsD o) }
theorem okH2 : CxOK H2 := CxOK.four tabH2_ok (by kernel_rfl) (okInl (by kernel_rfl)) tabBr_ok
theorem q34 {a1 : Int} {b2 : Option Addr} {l3 : Nat} {c4 : Nat} {zs : List Int} (h0 : Bs E b2 l3 c4 zs) (h1 : 0 ≤ a1) (h2 : a1 ≤ 1000000000) (h3 : l3 ≤ 4096) (h : ∀ (b' : Option Addr) (l' c' : Nat) (ys : List Int) (E' : Mem), Mem.le E E' → Hyp (ys = hidH a1 zs) → Bs E' b' l' c' ys → K (L b' l' c') E') :
    Ent H2 8 Try.f34 [I a1, L b2 l3 c4] E K := by
  refine same (by kernel_rfl) (?_ : IntKind.u64 = IntKind.u64 ∧ (((0 : Int) ≤ IntKind.wrap IntKind.u64 a1 ∧ IntKind.wrap IntKind.u64 a1 < (18446744073709551616 : Int)) ∧ (0 : Int) ≤ (4 : Int) ∧ (4 : Int) ≤ (8 : Int)) ∧ Mem.le E E ∧ IntKind.u64 = IntKind.u64 ∧ (((0 : Int) ≤ IntKind.wrap IntKind.u64 (NI l3) ∧ IntKind.wrap IntKind.u64 (NI l3) < (18446744073709551616 : Int)) ∧ (0 : Int) ≤ (2 : Int) ∧ (2 : Int) ≤ (8 : Int)) ∧ Mem.le E E ∧ 2 ≤ 2 ∧ (∀ (x : Value), List.Mem x (vB (storF (IntKind.wrap IntKind.u64 (NI l3)) (Int.toNat 2))) → Value.oneCell' x = true) ∧ 4 ≤ 4 ∧ 4 ≤ 4 ∧ 4 ≤ 4 ∧ ∀ (cap' tot' : Nat), 6 ≤ cap' → cap' * 1 ≤ tot' → ∃ (zs : List Int), (5 = 5 ∧ [U8 (IntKind.wrap IntKind.u64 a1 / (16777216 : Int) % (256 : Int)), U8 (IntKind.wrap IntKind.u64 a1 / (65536 : Int) % (256 : Int)), U8 (IntKind.wrap IntKind.u64 a1 / (256 : Int) % (256 : Int)), U8 (IntKind.wrap IntKind.u64 a1 / (1 : Int) % (256 : Int)), U8 (IntKind.wrap IntKind.u64 (NI l3) / (256 : Int) % (256 : Int)), U8 (IntKind.wrap IntKind.u64 (NI l3) / (1 : Int) % (256 : Int))] = vB zs ∧ 6 ≤ List.length zs ∧ 6 ≤ 100000 ∧ ∀ (z : Int), List.Mem z zs → (0 : Int) ≤ z ∧ z ≤ (255 : Int)) ∧ IntKind.u64 = IntKind.u64 ∧ ∃ (zs_1 : List Int), Bs E b2 l3 c4 zs_1 ∧ l3 ≤ 100000 ∧ Mem.le E E ∧ IntKind.u64 = IntKind.u64 ∧ (((0 : Int) ≤ fnvF (sumF (List.take 6 zs)) zs_1 ∧ fnvF (sumF (List.take 6 zs)) zs_1 < (18446744073709551616 : Int)) ∧ (0 : Int) ≤ (8 : Int) ∧ (8 : Int) ≤ (8 : Int)) ∧ Mem.le E E ∧ 8 ≤ 8 ∧ (∀ (x : Value), List.Mem x (vB (storF (fnvF (sumF (List.take (Int.toNat (4 : Int) + Int.toNat 2) zs)) zs_1) (Int.toNat 8))) → Value.oneCell' x = true) ∧ 6 ≤ 6 ∧ cap' * 1 ≤ tot' ∧ 6 ≤ cap' ∧ ∀ (cap' tot' : Nat), 14 ≤ cap' → cap' * 1 ≤ tot' → ∀ (base : Option Addr) (E' : Mem), Mem.le E E' → WinE E' base [U8 (IntKind.wrap IntKind.u64 a1 / (16777216 : Int) % (256 : Int)), U8 (IntKind.wrap IntKind.u64 a1 / (65536 : Int) % (256 : Int)), U8 (IntKind.wrap IntKind.u64 a1 / (256 : Int) % (256 : Int)), U8 (IntKind.wrap IntKind.u64 a1 / (1 : Int) % (256 : Int)), U8 (IntKind.wrap IntKind.u64 (NI l3) / (256 : Int) % (256 : Int)), U8 (IntKind.wrap IntKind.u64 (NI l3) / (1 : Int) % (256 : Int)), U8 (fnvF (sumF (List.take 6 zs)) zs_1 / (72057594037927936 : Int) % (256 : Int)), U8 (fnvF (sumF (List.take 6 zs)) zs_1 / (281474976710656 : Int) % (256 : Int)), U8 (fnvF (sumF (List.take 6 zs)) zs_1 / (1099511627776 : Int) % (256 : Int)), U8 (fnvF (sumF (List.take 6 zs)) zs_1 / (4294967296 : Int) % (256 : Int)), U8 (fnvF (sumF (List.take 6 zs)) zs_1 / (16777216 : Int) % (256 : Int)), U8 (fnvF (sumF (List.take 6 zs)) zs_1 / (65536 : Int) % (256 : Int)), U8 (fnvF (sumF (List.take 6 zs)) zs_1 / (256 : Int) % (256 : Int)), U8 (fnvF (sumF (List.take 6 zs)) zs_1 / (1 : Int) % (256 : Int))] → Mem.le E E' ∧ K (SV.raw (VS (Option.map (fun (x : Addr) => Addr.add x 0) base) 14 cap')) E')
  delta NI U8 VS
  have hl := h0.2.1
  rw [wu64' (x := a1) (by omega), wu64' (x := (l3 : Int)) (by omega)]
  have b6 : ∀ z ∈ storF a1 4 ++ storF (l3 : Int) 2, 0 ≤ z ∧ z ≤ 255 := fun z hz => (List.mem_append.1 hz).elim (storF_byte _ _ z) (storF_byte _ _ z)
  have bd : 0 ≤ fnvF (sumF (List.take 6 (storF a1 4 ++ storF (l3 : Int) 2))) zs ∧ fnvF (sumF (List.take 6 (storF a1 4 ++ storF (l3 : Int) 2))) zs < 18446744073709551616 := fnvF_bd (sumF_bd _)
  refine ⟨rfl, ⟨⟨by omega, by omega⟩, by decide, by decide⟩, Mem.le_refl _, rfl, ⟨⟨by omega, by omega⟩, by decide, by decide⟩, Mem.le_refl _, by decide, vB_one _, by decide, by decide, by decide, fun cap1 tot1 q1 q2 => ⟨storF a1 4 ++ storF (l3 : Int) 2, ⟨rfl, rfl, by simp [storF_len], by decide, b6⟩, rfl, zs, h0, by omega, Mem.le_refl _, rfl, ⟨bd, by decide, by decide⟩, Mem.le_refl _, by decide, vB_one _, by decide, q2, q1, fun cap2 tot2 q3 q4 base E' k w => ⟨k, h _ _ _ _ E' k (hidH_eq _ _).symm (Bs.win w ?_ (hdrF_len _ _) q3 (hdrF_byte _ _))⟩⟩⟩
  rw [List.take_of_length_le (by simp [storF_len])]
  unfold hdrF
  rw [show sumF (storF a1 4 ++ (storF (zs.length : Int) 2 ++ zs)) = fnvF (sumF (storF a1 4 ++ storF (l3 : Int) 2)) zs by rw [hl]; unfold sumF; rw [fnvF_app, List.append_assoc], hl]
  rfl
def chgF (l ms : List (Int × List Int)) : List (Int × List Int) := l ++ ms.drop 1
def lastM (l : List (Int × List Int)) : Int × List Int := l.getLastD (0, [])
def progL (l : List (Int × List Int)) (a : Nat) (ds : List Int) : List (Int × List Int) := chgF l (progF (lastM l).1 (lastM l).2 a ds).1
def erasL (l : List (Int × List Int)) (k : Nat) : List (Int × List Int) := chgF l (erasF (lastM l).1 (lastM l).2 k).1
theorem progF_mk {s : Int} {zs : List Int} {a : Int} {ds : List Int} (h1 : validF s zs.length) (h2 : 0 ≤ a) (h3 : a + ds.length ≤ zs.length) : progF s zs a ds = (mems s (gP ds) a.toNat zs (ds.length + 1), 0) := by
  unfold progF
  rw [if_neg (by simp only [not_or, Decidable.not_not]; exact ⟨h1, by omega⟩), if_neg (by omega)]
theorem erasF_mk {s : Int} {zs : List Int} {k : Int} (h1 : validF s zs.length) (h2 : 0 ≤ k) (h3 : k < (zs.length : Int) / s) : erasF s zs k = (mems s gE (k * s).toNat zs (s.toNat + 1), 0) := by
  unfold erasF
  rw [if_neg (by simp only [not_or, Decidable.not_not]; exact ⟨h1, by omega⟩)]
theorem mems_get {s : Int} {g : Nat → Int → Int} {a n i : Nat} {zs : List Int} (h : i < n) : (mems s g a zs n)[i]? = some (s, stp g a zs i) := by
  simp [mems, List.getElem?_range h]
theorem chgF_len (ms ms2 : List (Int × List Int)) : (chgF ms ms2).length = ms.length + (ms2.length - 1) := by simp [chgF]
theorem mems_last {s : Int} {g : Nat → Int → Int} {a n : Nat} {zs : List Int} {l : List (Int × List Int)} (h : 1 ≤ n) : lastM (chgF l (mems s g a zs (n + 1))) = (s, stp g a zs n) := by
  unfold lastM chgF
  rw [mems_succ, List.drop_append_of_le_length (by rw [mems_len]; exact h), ← List.append_assoc, List.getLastD_concat]
theorem progL_ok {l : List (Int × List Int)} {a : Nat} {ds : List Int} (hv : validF (lastM l).1 (lastM l).2.length) (ha : a + ds.length ≤ (lastM l).2.length) (hd : 1 ≤ ds.length) :
    lastM (progL l a ds) = ((lastM l).1, stp (gP ds) a (lastM l).2 ds.length) ∧ (progL l a ds).length = l.length + ds.length := by
  unfold progL
  rw [progF_mk hv (by omega) (by omega)]
  simp only [Int.toNat_natCast]
  exact ⟨mems_last hd, by rw [chgF_len, mems_len]; omega⟩
theorem band8_eq (x y : Int) : band8 x y = ((BitVec.ofInt 8 x &&& BitVec.ofInt 8 y).toNat : Int) := by
  have h := (BitVec.ofInt 8 x &&& BitVec.ofInt 8 y).isLt
  exact wu8 ⟨by omega, by show ((BitVec.ofInt 8 x &&& BitVec.ofInt 8 y).toNat : Int) ≤ 255; omega⟩
theorem band8_255 {y : Int} (h : 0 ≤ y ∧ y ≤ 255) : band8 255 y = y := by
  rw [band8_eq]
  obtain ⟨n, rfl⟩ : ∃ n : Nat, y = n := ⟨y.toNat, by omega⟩
  have : n < 256 := by omega
  rw [show BitVec.ofInt 8 255 = BitVec.allOnes 8 from by decide, BitVec.allOnes_and]
  simp; omega
theorem band8_bd (x y : Int) : 0 ≤ band8 x y ∧ band8 x y ≤ 255 := wu8b _
theorem getD_set (zs : List Int) (p : Nat) (x : Int) (j : Nat) : (zs.set p x).getD j 0 = if p = j ∧ j < zs.length then x else zs.getD j 0 := by
  rw [List.getD_eq_getElem?_getD, List.getD_eq_getElem?_getD, List.getElem?_set]
  by_cases h : p = j
  · subst h
    by_cases h2 : p < zs.length
    · simp [h2]
    · simp [h2]
  · simp [h]
theorem stp_get (g : Nat → Int → Int) (a : Nat) (zs : List Int) : ∀ i j, (stp g a zs i).getD j 0 = if a ≤ j ∧ j < a + i ∧ j < zs.length then g (j - a) (zs.getD j 0) else zs.getD j 0
  | 0, j => by rw [if_neg (by omega)]; rfl
  | i + 1, j => by
    show ((stp g a zs i).set (a + i) (g i ((stp g a zs i).getD (a + i) 0))).getD j 0 = _
    rw [getD_set, stp_len, stp_get g a zs i j, stp_get g a zs i (a + i), if_neg (c := a ≤ a + i ∧ a + i < a + i ∧ a + i < zs.length) (by omega)]
    by_cases h : a + i = j ∧ j < zs.length
    · obtain ⟨rfl, h⟩ := h
      rw [if_pos ⟨rfl, h⟩, if_pos ⟨by omega, by omega, h⟩, show a + i - a = i by omega]
    · rw [if_neg h]
      by_cases h2 : a ≤ j ∧ j < a + i ∧ j < zs.length
      · rw [if_pos h2, if_pos (by omega)]
      · rw [if_neg h2, if_neg (by omega)]
theorem ext_getD {xs ys : List Int} (hl : xs.length = ys.length) (h : ∀ j, j < xs.length → xs.getD j 0 = ys.getD j 0) : xs = ys := by
  apply List.ext_getElem hl
  intro i h1 h2
  have := h i h1
  simpa [List.getD_eq_getElem?_getD, h1, h2] using this
theorem numF_cons (x : Int) (zs : List Int) : numF (x :: zs) = x * 256 ^ zs.length + numF zs := by
  have key : ∀ (zs : List Int) (n : Int), zs.foldl (fun n x => 256 * n + x) n = n * 256 ^ zs.length + zs.foldl (fun n x => 256 * n + x) 0 := by
    intro zs
    induction zs with
    | nil => intro n; simp
    | cons y zs ih =>
      intro n
      simp only [List.foldl_cons, List.length_cons]
      rw [ih (256 * n + y), ih (256 * 0 + y), Int.mul_zero, Int.zero_add, Int.add_mul, Int.pow_succ, Int.mul_comm 256 n, Int.mul_assoc n 256, Int.mul_comm 256 (256 ^ zs.length), Int.add_assoc]
  unfold numF
  simp only [List.foldl_cons]
  rw [key]; simp
theorem numF_stor {n : Int} (hn : 0 ≤ n) : ∀ k, numF (storF n k) = n % 256 ^ k
  | 0 => by simp [storF, numF]
  | k + 1 => by
    rw [storF, numF_cons, storF_len, numF_stor hn k, Int.pow_succ]
    have hp : (0 : Int) < 256 ^ k := Int.pow_pos (by decide)
    generalize (256 : Int) ^ k = m at *
    have e1 := Int.mul_ediv_add_emod n m
    have e2 := Int.mul_ediv_add_emod (n / m) 256
    have e3 : n % (m * 256) = n - m * 256 * (n / (m * 256)) := by have := Int.mul_ediv_add_emod n (m * 256); omega
    have e4 : n / (m * 256) = n / m / 256 := by rw [Int.ediv_ediv_of_nonneg (Int.le_of_lt hp)]
    rw [e3, e4, Int.mul_assoc m 256]
    have e5 : m * (256 * (n / m / 256)) = m * (n / m) - m * (n / m % 256) := by rw [show 256 * (n / m / 256) = n / m - n / m % 256 by omega, Int.mul_sub]
    rw [e5, Int.mul_comm (n / m % 256) m]
    omega
theorem getA (X Y : List Int) (j : Nat) : (X ++ Y).getD j 0 = if j < X.length then X.getD j 0 else Y.getD (j - X.length) 0 := by
  rw [List.getD_eq_getElem?_getD]
  by_cases h : j < X.length
  · rw [if_pos h, List.getElem?_append_left h, List.getD_eq_getElem?_getD]
  · rw [if_neg h, List.getElem?_append_right (by omega), List.getD_eq_getElem?_getD]
theorem getTake (X : List Int) (n j : Nat) (h : j < n) : (X.take n).getD j 0 = X.getD j 0 := by
  rw [List.getD_eq_getElem?_getD, List.getElem?_take, if_pos h, List.getD_eq_getElem?_getD]
theorem getDrop (X : List Int) (n j : Nat) : (X.drop n).getD j 0 = X.getD (n + j) 0 := by
  rw [List.getD_eq_getElem?_getD, List.getElem?_drop, List.getD_eq_getElem?_getD]
def AllM (s : Int) (N : Nat) (P R : List Int → Prop) (l : List (Int × List Int)) : Prop :=
  l ≠ [] ∧ (∀ m ∈ l, m.1 = s ∧ m.2.length = N ∧ (∀ x ∈ m.2, 0 ≤ x ∧ x ≤ 255) ∧ R m.2) ∧ P (lastM l).2
def Out (w z : List Int) (lo hi : Nat) : Prop := w.length = z.length ∧ ∀ j, j < lo ∨ hi ≤ j → w.getD j 0 = z.getD j 0
theorem Out.trans {w v z : List Int} {lo hi lo1 hi1 : Nat} (h : Out w v lo1 hi1) (g : Out v z lo hi) (h1 : lo ≤ lo1) (h2 : hi1 ≤ hi) : Out w z lo hi :=
  ⟨h.1.trans g.1, fun j hj => (h.2 j (by omega)).trans (g.2 j hj)⟩
theorem Out.refl (z : List Int) (lo hi : Nat) : Out z z lo hi := ⟨rfl, fun _ _ => rfl⟩
theorem Out.mono {w z : List Int} {lo hi lo1 hi1 : Nat} (h : Out w z lo1 hi1) (h1 : lo ≤ lo1) (h2 : hi1 ≤ hi) : Out w z lo hi := ⟨h.1, fun j hj => h.2 j (by omega)⟩
def Er (z : List Int) (lo hi : Nat) : Prop := ∀ j, lo ≤ j → j < hi → z.getD j 0 = 255
def At (z : List Int) (a : Nat) (ds : List Int) : Prop := ∀ j, j < ds.length → z.getD (a + j) 0 = ds.getD j 0
def Keeps (lo hi : Nat) (P : List Int → Prop) : Prop := ∀ z w : List Int, P z → Out w z lo hi → P w
theorem last_mem {l : List (Int × List Int)} (h : l ≠ []) : lastM l ∈ l := by
  unfold lastM
  rw [List.getLastD_eq_getLast?, List.getLast?_eq_some_getLast h]
  exact List.getLast_mem h
theorem stp_out (g : Nat → Int → Int) (a : Nat) (z : List Int) (i : Nat) : Out (stp g a z i) z a (a + i) :=
  ⟨stp_len _ _ _ _, fun j hj => by rw [stp_get, if_neg (by omega)]⟩
theorem chg_all {s : Int} {a lo hi n N : Nat} {g : Nat → Int → Int} {P R : List Int → Prop} {l : List (Int × List Int)} (hP : Keeps lo hi P) (hR : ∀ z, P z → R z) (hg : ∀ i x, 0 ≤ g i x ∧ g i x ≤ 255)
    (h : AllM s N P R l) (h1 : lo ≤ a) (h2 : a + n ≤ hi) (hn : 1 ≤ n) : AllM s N P R (chgF l (mems s g a (lastM l).2 (n + 1))) := by
  obtain ⟨hl, ha, hp⟩ := h
  obtain ⟨z1, z2, z3, z4⟩ := ha _ (last_mem hl)
  have hst : ∀ i, i ≤ n → P (stp g a (lastM l).2 i) := fun i hi' => hP _ _ hp ((stp_out g a _ i).mono h1 (by omega))
  refine ⟨by simp [chgF, hl], fun m hm => ?_, ?_⟩
  · rcases List.mem_append.1 hm with h | h
    · exact ha m h
    · have h := List.mem_of_mem_drop h
      simp only [mems, List.mem_map, List.mem_range] at h
      obtain ⟨i, hi', rfl⟩ := h
      exact ⟨rfl, by rw [stp_len]; exact z2, stp_byte z3 hg i, hR _ (hst i (by omega))⟩
  · rw [mems_last hn]; exact hst n (Nat.le_refl _)
theorem progL_all {s : Int} {N lo hi : Nat} {P R : List Int → Prop} (hv : validF s N) (hP : Keeps lo hi P) (hR : ∀ z, P z → R z) {a : Nat} {ds : List Int} {l : List (Int × List Int)} (h1 : lo ≤ a) (h2 : a + ds.length ≤ hi) (hN : a + ds.length ≤ N) (hn : 1 ≤ ds.length) (h : AllM s N P R l) : AllM s N P R (progL l a ds) := by
  obtain ⟨z1, z2, z3, z4⟩ := h.2.1 _ (last_mem h.1)
  unfold progL
  rw [z1, progF_mk (by rw [z2]; exact hv) (by omega) (by omega)]
  exact chg_all hP hR (fun i x => band8_bd _ _) h (by simpa using h1) (by simpa using h2) hn
theorem erasL_eq {st N : Nat} {P R : List Int → Prop} (hv : validF st N) {k : Nat} {l : List (Int × List Int)} (h : AllM st N P R l) (hN : (k + 1) * st ≤ N) : erasL l k = chgF l (mems st gE (k * st) (lastM l).2 (st + 1)) := by
  obtain ⟨z1, z2, z3, z4⟩ := h.2.1 _ (last_mem h.1)
  have h1 : 1 ≤ st := by have := hv.1; omega
  unfold erasL
  rw [z1, erasF_mk (by rw [z2]; exact hv) (by omega) (by
      rw [Int.lt_iff_add_one_le, Int.le_ediv_iff_mul_le (by omega), z2]
      have : (((k + 1) * st : Nat) : Int) ≤ (N : Int) := by omega
      rw [Int.natCast_mul] at this
      simpa using this), ← Int.natCast_mul, Int.toNat_natCast, Int.toNat_natCast]
theorem prog_last {s : Int} {N a : Nat} {ds z : List Int} {l : List (Int × List Int)} (hv : validF s N) (hl : lastM l = (s, z)) (hN : z.length = N) (ha : a + ds.length ≤ N) (hd : 1 ≤ ds.length) (hds : ∀ x ∈ ds, 0 ≤ x ∧ x ≤ 255) (he : Er z a (a + ds.length)) :
    ∃ w, lastM (progL l a ds) = (s, w) ∧ At w a ds ∧ Out w z a (a + ds.length) := by
  obtain ⟨e1, _⟩ := progL_ok (l := l) (a := a) (ds := ds) (by rw [hl]; simp only; rw [hN]; exact hv) (by rw [hl]; simp only; omega) hd
  rw [hl] at e1
  refine ⟨_, e1, fun j hj => ?_, stp_out _ _ _ _⟩
  show (stp (gP ds) a z ds.length).getD _ _ = _
  rw [stp_get, if_pos (by omega), he _ (by omega) (by omega)]
  show band8 255 (ds.getD (a + j - a) 0) = _
  rw [show a + j - a = j by omega]
  refine band8_255 (hds _ ?_)
  rw [List.getD_eq_getElem?_getD, List.getElem?_eq_getElem hj]
  exact List.getElem_mem hj
theorem At.out {w z : List Int} {a lo hi : Nat} {xs : List Int} (h : At z a xs) (g : Out w z lo hi) (h1 : a + xs.length ≤ lo ∨ hi ≤ a) : At w a xs := fun j hj => (g.2 _ (by omega)).trans (h j hj)
theorem Er.out {w z : List Int} {a b lo hi : Nat} (h : Er z a b) (g : Out w z lo hi) (h1 : b ≤ lo ∨ hi ≤ a) : Er w a b := fun j q1 q2 => (g.2 _ (by omega)).trans (h j q1 q2)
theorem Er.sub {z : List Int} {a b c d : Nat} (h : Er z a b) (h1 : a ≤ c) (h2 : d ≤ b) : Er z c d := fun j q1 q2 => h j (by omega) (by omega)
theorem At.sub {z : List Int} {a : Nat} {X Y Z : List Int} (h : At z a (X ++ (Y ++ Z))) : At z (a + X.length) Y := fun j hj => by
  have := h (X.length + j) (by simp; omega)
  rw [getA, if_neg (by omega), getA, Nat.add_sub_cancel_left, if_pos hj] at this
  rw [Nat.add_assoc]; exact this
theorem at_part {r : List Int} {k : Nat} {xs : List Int} (h : At r k xs) (hl : k + xs.length ≤ r.length) : (r.drop k).take xs.length = xs := by
  apply ext_getD (by rw [List.length_take, List.length_drop]; omega)
  intro j hj
  rw [List.length_take, List.length_drop] at hj
  rw [getTake _ _ _ (by omega), getDrop]
  exact h j (by omega)
def progB (b : List Int) : Int × List Int :=
  if b.getD 14 0 ≠ 80 ∨ 4096 < (numF ((b.drop 4).take 2)).toNat then (0, [])
  else if ¬ (1 ≤ numF (b.take 4) ∧ numF (b.take 4) ≤ 1000000000) ∨ hdrF (numF (b.take 4)) ((b.drop 32).take (numF ((b.drop 4).take 2)).toNat) ≠ b.take 14 then (0, [])
  else (numF (b.take 4), (b.drop 32).take (numF ((b.drop 4).take 2)).toNat)
def bankF (z : List Int) (k : Nat) : List Int := (z.drop (4224 * k)).take 4224
def classB (b : List Int) : Int × Int :=
  if (progB b).1 = 0 then (-1, 0) else if b.getD 17 0 = 0 then (0, (progB b).1) else if b.getD 15 0 = 0 then (2, (progB b).1) else (1, (progB b).1)
def selF (z : List Int) : Int :=
  if (classB (bankF z 0)).1 < 0 ∧ (classB (bankF z 1)).1 < 0 then -1
  else if (classB (bankF z 1)).1 > (classB (bankF z 0)).1 ∨ ((classB (bankF z 1)).1 = (classB (bankF z 0)).1 ∧ (classB (bankF z 1)).2 > (classB (bankF z 0)).2) then 1 else 0
def memB (s : Int) (n : Nat) : Prop := s = 128 ∧ n = 8448
instance (s : Int) (n : Nat) : Decidable (memB s n) := by unfold memB; infer_instance
def selectF (s : Int) (z : List Int) : (Int × List Int) × Int :=
  if ¬ memB s z.length then ((0, []), 1) else if selF z < 0 then ((0, []), 4) else (progB (bankF z (selF z).toNat), 0)
def findF (z : List Int) (v : Int) : Int :=
  if (progB (bankF z 0)).1 ≠ 0 ∧ (progB (bankF z 0)).1 = v then 0 else if (progB (bankF z 1)).1 ≠ 0 ∧ (progB (bankF z 1)).1 = v then 1 else -1
def markB (b : List Int) : Int := if b.getD 17 0 = 0 then 3 else if b.getD 16 0 = 0 then 2 else if b.getD 15 0 = 0 then 1 else 0
def marksF (s : Int) (z : List Int) (v : Int) : Int :=
  if ¬ memB s z.length then -1 else if findF z v < 0 then -1 else markB (bankF z (findF z v).toNat)
def fitsF (v : Int) (p : List Int) : Prop := 1 ≤ v ∧ v ≤ 1000000000 ∧ p.length ≤ 4096
instance (v : Int) (p : List Int) : Decidable (fitsF v p) := by unfold fitsF; infer_instance
def formatB (v : Int) (p : List Int) : (Int × List Int) × Int :=
  if fitsF v p then ((128, hdrF v p ++ ([80, 0, 0] ++ (List.replicate 15 255 ++ (p ++ List.replicate (8416 - p.length) 255)))), 0) else ((0, []), 1)
def usedS (z : List Int) (k i : Nat) : Bool := ((z.drop (4224 * k + 128 * i)).take 128).any fun x => decide (x ≠ 255)
def cleanL (z : List Int) (k : Nat) (l : List (Int × List Int)) : Nat → List (Int × List Int)
  | 0 => l
  | n + 1 => if usedS z k n then erasL (cleanL z k l n) (33 * k + n) else cleanL z k l n
def instL (s : Int) (z : List Int) (k : Nat) (v : Int) (p : List Int) : List (Int × List Int) :=
  let l0 : List (Int × List Int) := if z.getD (4224 * k + 14) 0 ≠ 255 then progL [(s, z)] (4224 * k + 14) [0] else [(s, z)]
  progL (progL (progL (cleanL z k l0 33) (4224 * k + 32) p) (4224 * k) (hdrF v p)) (4224 * k + 14) [80]
def installF (s : Int) (z : List Int) (v : Int) (p : List Int) : List (Int × List Int) × Int :=
  if (selectF s z).2 ≠ 0 then ([], (selectF s z).2)
  else if ¬ fitsF v p then ([], 1)
  else if v ≤ max (progB (bankF z 0)).1 (progB (bankF z 1)).1 then ([], 14)
  else (instL s z (1 - selF z).toNat v p, 0)
def markF (s : Int) (z : List Int) (v m : Int) : List (Int × List Int) × Int :=
  if ¬ memB s z.length ∨ m < 1 ∨ 3 < m then ([], 1)
  else if findF z v < 0 then ([], 4)
  else progF s z (4224 * findF z v + 14 + m) [0]
theorem bank_get {z : List Int} {k j : Nat} (h : j < 4224) : (bankF z k).getD j 0 = z.getD (4224 * k + j) 0 := by
  unfold bankF; rw [getTake _ _ _ h, getDrop]
theorem bank_len {z : List Int} {k : Nat} (hz : z.length = 8448) (hk : k < 2) : (bankF z k).length = 4224 := by
  unfold bankF; rw [List.length_take, List.length_drop]; omega
structure Hold (z : List Int) (o : Nat) (v : Int) (p : List Int) : Prop where
  fit : fitsF v p
  byt : ∀ x ∈ p, 0 ≤ x ∧ x ≤ 255
  hdr : At z o (hdrF v p)
  who : z.getD (o + 14) 0 = 80
  dat : At z (o + 32) p
theorem Hold.prog {z : List Int} {k : Nat} {v : Int} {p : List Int} (h : Hold z (4224 * k) v p) (hz : z.length = 8448) (hk : k < 2) : progB (bankF z k) = (v, p) := by
  have hl := bank_len hz hk
  obtain ⟨f1, f2, f3⟩ := h.fit
  have aH : At (bankF z k) 0 (hdrF v p) := fun j hj => by
    rw [Nat.zero_add, bank_get (by rw [hdrF_len] at hj; omega)]; exact h.hdr j hj
  have aD : At (bankF z k) 32 p := fun j hj => by
    rw [bank_get (by omega), show 4224 * k + (32 + j) = 4224 * k + 32 + j by omega]; exact h.dat j hj
  have w : (bankF z k).getD 14 0 = 80 := by rw [bank_get (by omega)]; exact h.who
  generalize bankF z k = b at *
  have e14 : b.take 14 = hdrF v p := by
    have := at_part aH (by rw [hdrF_len]; omega)
    rwa [hdrF_len, List.drop_zero] at this
  have e4 : b.take 4 = storF v 4 := by
    rw [show b.take 4 = (b.take 14).take 4 by rw [List.take_take]; rfl, e14]
    unfold hdrF; rw [List.take_left' (storF_len _ _)]
  have e6 : (b.drop 4).take 2 = storF (p.length : Int) 2 := by
    rw [show (b.drop 4).take 2 = ((b.take 14).drop 4).take 2 by rw [List.drop_take, List.take_take]; rfl, e14]
    unfold hdrF; rw [List.drop_left' (storF_len _ _), List.take_left' (storF_len _ _)]
  have n4 : numF (b.take 4) = v := by
    rw [e4, numF_stor (by omega)]; exact Int.emod_eq_of_lt (by omega) (by omega)
  have n6 : (numF ((b.drop 4).take 2)).toNat = p.length := by
    rw [e6, numF_stor (by omega)]; omega
  have eD : (b.drop 32).take p.length = p := at_part aD (by omega)
  unfold progB
  rw [n6, n4, eD, if_neg (by rw [w]; omega), if_neg (by rw [e14]; simp; omega)]
theorem not_whole {z : List Int} {k : Nat} (h : z.getD (4224 * k + 14) 0 ≠ 80) : (progB (bankF z k)).1 = 0 := by
  unfold progB
  rw [if_pos (.inl (by rw [bank_get (by omega)]; exact h))]
theorem chg_all2 {s : Int} {a n N : Nat} {g : Nat → Int → Int} {P Q R : List Int → Prop} {l : List (Int × List Int)} (hR : ∀ z, Q z → R z) (hg : ∀ i x, 0 ≤ g i x ∧ g i x ≤ 255)
    (h : AllM s N P R l) (hst : ∀ i, 1 ≤ i → i ≤ n → Q (stp g a (lastM l).2 i)) (hn : 1 ≤ n) : AllM s N Q R (chgF l (mems s g a (lastM l).2 (n + 1))) := by
  obtain ⟨hl, ha, hp⟩ := h
  obtain ⟨z1, z2, z3, z4⟩ := ha _ (last_mem hl)
  refine ⟨by simp [chgF, hl], fun m hm => ?_, ?_⟩
  · rcases List.mem_append.1 hm with h | h
    · exact ha m h
    · rw [List.mem_iff_getElem?] at h
      obtain ⟨i, h⟩ := h
      rw [List.getElem?_drop] at h
      have hi' : 1 + i < n + 1 := by
        have := (List.getElem?_eq_some_iff.1 h).1
        rwa [mems_len] at this
      rw [mems_get hi'] at h
      cases h
      exact ⟨rfl, by rw [stp_len]; exact z2, stp_byte z3 hg _, hR _ (hst _ (by omega) (by omega))⟩
  · rw [mems_last hn]; exact hst n hn (Nat.le_refl _)
theorem progL_nil {s : Int} {N a : Nat} {l : List (Int × List Int)} {z : List Int} (hv : validF s N) (hl : lastM l = (s, z)) (hN : z.length = N) (ha : a ≤ N) : progL l a [] = l := by
  unfold progL
  rw [hl]
  simp only
  rw [progF_mk (by rw [hN]; exact hv) (by omega) (by simp; omega)]
  simp [chgF, mems]
def Step1 (z w : List Int) : Prop := w.length = z.length ∧ ∃ p, ∀ j, j ≠ p → w.getD j 0 = z.getD j 0
def Chain (l : List (Int × List Int)) : Prop := ∀ (i : Nat) (a b : Int × List Int), l[i]? = some a → l[i + 1]? = some b → Step1 a.2 b.2
theorem stp_step (g : Nat → Int → Int) (a : Nat) (z : List Int) (i : Nat) : Step1 (stp g a z i) (stp g a z (i + 1)) :=
  ⟨by rw [stp_len, stp_len], a + i, fun j hj => by
    rw [stp_get, stp_get]
    by_cases c : a ≤ j ∧ j < a + i ∧ j < z.length
    · rw [if_pos c, if_pos ⟨c.1, by omega, c.2.2⟩]
    · rw [if_neg c, if_neg (by omega)]⟩
theorem chain_chg {s : Int} {a n : Nat} {g : Nat → Int → Int} {l : List (Int × List Int)} (hl : l ≠ []) (h : Chain l) : Chain (chgF l (mems s g a (lastM l).2 (n + 1))) := by
  intro i x y h1 h2
  unfold chgF at h1 h2
  by_cases c : i + 1 < l.length
  · rw [List.getElem?_append_left (by omega)] at h1 h2
    exact h i x y h1 h2
  · rw [List.getElem?_append_right (by omega), List.getElem?_drop] at h2
    have b2 : 1 + (i + 1 - l.length) < n + 1 := by
      have := (List.getElem?_eq_some_iff.1 h2).1
      rwa [mems_len] at this
    rw [mems_get b2] at h2
    cases h2
    by_cases c2 : i < l.length
    · rw [List.getElem?_append_left c2] at h1
      have e : l[i]? = some (lastM l) := by
        unfold lastM
        rw [List.getLastD_eq_getLast?, List.getLast?_eq_getElem?, show l.length - 1 = i by omega, h1]; rfl
      rw [h1] at e
      cases e
      rw [show 1 + (i + 1 - l.length) = 0 + 1 by omega]
      exact stp_step g a _ 0
    · rw [List.getElem?_append_right (by omega), List.getElem?_drop] at h1
      rw [mems_get (by omega)] at h1
      cases h1
      rw [show 1 + (i + 1 - l.length) = (1 + (i - l.length)) + 1 by omega]
      exact stp_step g a _ _
theorem chain_one (x : Int × List Int) : Chain [x] := fun i a b h1 h2 => by simp at h2
theorem progL_eq {s : Int} {N a : Nat} {ds z : List Int} {l : List (Int × List Int)} (hv : validF s N) (hl : lastM l = (s, z)) (hN : z.length = N) (ha : a + ds.length ≤ N) : progL l a ds = chgF l (mems s (gP ds) a z (ds.length + 1)) := by
  unfold progL
  rw [hl]
  simp only
  rw [progF_mk (by rw [hN]; exact hv) (by omega) (by omega), Int.toNat_natCast]
theorem AllM.last {s : Int} {N : Nat} {P R : List Int → Prop} {l : List (Int × List Int)} (h : AllM s N P R l) : lastM l = (s, (lastM l).2) ∧ (lastM l).2.length = N := by
  obtain ⟨z1, z2, _⟩ := h.2.1 _ (last_mem h.1)
  exact ⟨Prod.ext z1 rfl, z2⟩
theorem validB : validF 128 8448 := by unfold validF; decide
theorem clean_all {z : List Int} {k : Nat} {P R : List Int → Prop} {l : List (Int × List Int)} (hz : z.length = 8448) (hk : k < 2) (hPQ : P = fun w => Out w z (4224 * k) (4224 * k + 4224) ∧ (w.getD (4224 * k + 14) 0 = 0 ∨ w.getD (4224 * k + 14) 0 = 255)) (hR : ∀ w, P w → R w)
    (h : AllM 128 8448 P R l) (hc : Chain l) (h0 : (∀ j, j ≠ 4224 * k + 14 → (lastM l).2.getD j 0 = z.getD j 0) ∧ (z.getD (4224 * k + 14) 0 = 255 → (lastM l).2.getD (4224 * k + 14) 0 = 255)) :
    ∀ n, n ≤ 33 → AllM 128 8448 P R (cleanL z k l n) ∧ Chain (cleanL z k l n) ∧ Er (lastM (cleanL z k l n)).2 (4224 * k) (4224 * k + 128 * n) ∧
      (∀ j, j < 4224 * k ∨ 4224 * k + 128 * n ≤ j → j ≠ 4224 * k + 14 → (lastM (cleanL z k l n)).2.getD j 0 = z.getD j 0) ∧ (n = 0 → z.getD (4224 * k + 14) 0 = 255 → (lastM (cleanL z k l n)).2.getD (4224 * k + 14) 0 = 255)
  | 0, _ => ⟨h, hc, fun j h1 h2 => by omega, fun j _ hj => h0.1 j hj, fun _ => h0.2⟩
  | n + 1, hn => by
    obtain ⟨a1, a2, a3, a4, a5⟩ := clean_all hz hk hPQ hR h hc h0 n (by omega)
    unfold cleanL
    by_cases u : usedS z k n = true
    · rw [if_pos u]
      obtain ⟨e1, e2⟩ := a1.last
      have hm : (33 * k + n + 1) * 128 ≤ 8448 := by omega
      have ee : erasL (cleanL z k l n) (33 * k + n) = chgF (cleanL z k l n) (mems 128 gE ((33 * k + n) * 128) (lastM (cleanL z k l n)).2 (128 + 1)) := by
        have := erasL_eq (st := 128) (N := 8448) (P := P) (R := R) validB (k := 33 * k + n) a1 hm
        exact this
      have ea : (33 * k + n) * 128 = 4224 * k + 128 * n := by omega
      rw [ea] at ee
      have gs : ∀ i j, (stp gE (4224 * k + 128 * n) (lastM (cleanL z k l n)).2 i).getD j 0 = if 4224 * k + 128 * n ≤ j ∧ j < 4224 * k + 128 * n + i ∧ j < 8448 then 255 else (lastM (cleanL z k l n)).2.getD j 0 := fun i j => by
        rw [stp_get, e2]; rfl
      have pl := a1.2.2
      rw [hPQ] at pl
      obtain ⟨pl1, pl2⟩ := pl
      have hst : ∀ i, 1 ≤ i → i ≤ 128 → P (stp gE (4224 * k + 128 * n) (lastM (cleanL z k l n)).2 i) := fun i _ hi => by
        rw [hPQ]
        refine ⟨⟨by rw [stp_len]; exact pl1.1, fun j hj => ?_⟩, ?_⟩
        · rw [gs, if_neg (by omega)]; exact pl1.2 j hj
        · rw [gs]
          split
          · exact .inr rfl
          · exact pl2
      have L : lastM (erasL (cleanL z k l n) (33 * k + n)) = (128, stp gE (4224 * k + 128 * n) (lastM (cleanL z k l n)).2 128) := by rw [ee, mems_last (by decide)]
      refine ⟨by rw [ee]; exact chg_all2 hR (fun i x => by simp [gE]) a1 hst (by decide), by rw [ee]; exact chain_chg a1.1 a2, ?_, ?_, fun h => by omega⟩
      · intro j h1 h2
        rw [L]
        simp only
        rw [gs]
        split
        · rfl
        · exact a3 j h1 (by omega)
      · intro j h1 h2
        rw [L]
        simp only
        rw [gs, if_neg (by omega)]
        exact a4 j (by omega) h2
    · rw [if_neg u]
      have un : ∀ j, 4224 * k + 128 * n ≤ j → j < 4224 * k + 128 * n + 128 → z.getD j 0 = 255 := fun j h1 h2 => by
        have hq : ((z.drop (4224 * k + 128 * n)).take 128).getD (j - (4224 * k + 128 * n)) 0 = z.getD j 0 := by rw [getTake _ _ _ (by omega), getDrop]; congr 1; omega
        have hl : j - (4224 * k + 128 * n) < ((z.drop (4224 * k + 128 * n)).take 128).length := by rw [List.length_take, List.length_drop]; omega
        rw [← hq, List.getD_eq_getElem?_getD, List.getElem?_eq_getElem hl]
        simp only [Option.getD_some]
        refine Decidable.byContradiction fun q => u ?_
        unfold usedS
        rw [List.any_eq_true]
        exact ⟨_, List.getElem_mem hl, by simpa using q⟩
      refine ⟨a1, a2, fun j h1 h2 => ?_, fun j h1 h2 => a4 j (by omega) h2, fun h => by omega⟩
      by_cases c : j < 4224 * k + 128 * n
      · exact a3 j h1 c
      · by_cases c2 : j = 4224 * k + 14
        · have : n = 0 := by omega
          subst this
          rw [c2]
          exact a5 rfl (by rw [← c2]; exact un j (by omega) (by omega))
        · rw [a4 j (by omega) c2]; exact un j (by omega) (by omega)
theorem inst_all {z : List Int} {k : Nat} {v : Int} {p : List Int} (hz : z.length = 8448) (hb : ∀ x ∈ z, 0 ≤ x ∧ x ≤ 255) (hk : k < 2) (hf : fitsF v p) (pb : ∀ x ∈ p, 0 ≤ x ∧ x ≤ 255) :
    ∃ X w, instL 128 z k v p = X ++ [(128, w)] ∧ X ≠ [] ∧ (∀ m ∈ X, m.1 = 128 ∧ m.2.length = 8448 ∧ (∀ x ∈ m.2, 0 ≤ x ∧ x ≤ 255) ∧ Out m.2 z (4224 * k) (4224 * k + 4224) ∧ (m.2 = z ∨ m.2.getD (4224 * k + 14) 0 ≠ 80)) ∧
      w.length = 8448 ∧ (∀ x ∈ w, 0 ≤ x ∧ x ≤ 255) ∧ Out w z (4224 * k) (4224 * k + 4224) ∧ Hold w (4224 * k) v p ∧ Er w (4224 * k + 15) (4224 * k + 32) ∧ Er w (4224 * k + 32 + p.length) (4224 * k + 4224) ∧ Chain (X ++ [(128, w)]) := by
  obtain ⟨f1, f2, f3⟩ := hf
  have hh := hdrF_len v p
  generalize hP : (fun w : List Int => Out w z (4224 * k) (4224 * k + 4224) ∧ (w.getD (4224 * k + 14) 0 = 0 ∨ w.getD (4224 * k + 14) 0 = 255)) = P
  generalize hR0 : (fun w : List Int => Out w z (4224 * k) (4224 * k + 4224) ∧ (w = z ∨ w.getD (4224 * k + 14) 0 ≠ 80)) = R
  have hR : ∀ w, P w → R w := fun w h => by
    rw [← hP] at h; rw [← hR0]; exact ⟨h.1, .inr (by omega)⟩
  have hRz : R z := by rw [← hR0]; exact ⟨Out.refl _ _ _, .inl rfl⟩
  -- the first memories
  have st0 : ∃ l0 : List (Int × List Int), (if z.getD (4224 * k + 14) 0 ≠ 255 then progL [(128, z)] (4224 * k + 14) [0] else [(128, z)]) = l0 ∧ AllM 128 8448 P R l0 ∧ Chain l0 ∧
      (∀ j, j ≠ 4224 * k + 14 → (lastM l0).2.getD j 0 = z.getD j 0) ∧ (z.getD (4224 * k + 14) 0 = 255 → (lastM l0).2.getD (4224 * k + 14) 0 = 255) := by
    have h1 : AllM 128 8448 R R [(128, z)] := ⟨by simp, fun m hm => by
      rw [List.mem_singleton] at hm; subst hm; exact ⟨rfl, hz, hb, hRz⟩, hRz⟩
    by_cases q : z.getD (4224 * k + 14) 0 ≠ 255
    · rw [if_pos q, progL_eq (z := z) validB rfl hz (by simp; omega)]
      have gs : ∀ j, (stp (gP [0]) (4224 * k + 14) z 1).getD j 0 = if j = 4224 * k + 14 then 0 else z.getD j 0 := fun j => by
        rw [stp_get]
        by_cases c : j = 4224 * k + 14
        · rw [if_pos (by omega), if_pos c]
          subst c
          show band8 _ ([(0 : Int)].getD _ 0) = 0
          rw [Nat.sub_self]
          show band8 _ 0 = 0
          rw [band8_eq]; simp
        · rw [if_neg (by omega), if_neg c]
      refine ⟨_, rfl, chg_all2 (P := R) (n := 1) hR (fun i x => band8_bd _ _) h1 (fun i h1 h2 => ?_) (by decide), chain_chg (by simp) (chain_one _), ?_, fun h => absurd h q⟩
      · have : i = 1 := by omega
        subst this
        rw [← hP]
        show Out (stp (gP [0]) (4224 * k + 14) z 1) z _ _ ∧ _
        exact ⟨⟨stp_len _ _ _ _, fun j hj => by rw [gs, if_neg (by omega)]⟩, .inl (by rw [show (lastM [((128 : Int), z)]).2 = z from rfl, gs, if_pos rfl])⟩
      · intro j hj
        have := mems_last (s := 128) (g := gP [0]) (a := 4224 * k + 14) (n := 1) (zs := z) (l := [((128 : Int), z)]) (by decide)
        rw [show [(0 : Int)].length + 1 = 1 + 1 from rfl, this]
        simp only
        rw [gs, if_neg hj]
    · rw [if_neg q]
      have q : z.getD (4224 * k + 14) 0 = 255 := Decidable.byContradiction q
      refine ⟨_, rfl, ⟨h1.1, h1.2.1, ?_⟩, chain_one _, fun _ _ => rfl, fun _ => q⟩
      rw [← hP]
      exact ⟨Out.refl _ _ _, .inr q⟩
  obtain ⟨l0, e0, c0, d0, g0⟩ := st0
  obtain ⟨c1, d1, r1, s1, _⟩ := clean_all hz hk hP.symm hR c0 d0 g0 33 (by decide)
  obtain ⟨e1, n1⟩ := c1.last
  have kp : ∀ lo hi, 4224 * k ≤ lo → hi ≤ 4224 * k + 4224 → (4224 * k + 14 < lo ∨ hi ≤ 4224 * k + 14) → Keeps lo hi P := fun lo hi h1 h2 h3 y w hy ho => by
    rw [← hP] at hy ⊢
    refine ⟨(ho.mono h1 h2).trans hy.1 (Nat.le_refl _) (Nat.le_refl _), ?_⟩
    rw [ho.2 _ (by omega)]; exact hy.2
  -- the data
  have c2 : AllM 128 8448 P R (progL (cleanL z k l0 33) (4224 * k + 32) p) ∧ Chain (progL (cleanL z k l0 33) (4224 * k + 32) p) ∧ ∃ w2, lastM (progL (cleanL z k l0 33) (4224 * k + 32) p) = (128, w2) ∧ At w2 (4224 * k + 32) p ∧ Out w2 (lastM (cleanL z k l0 33)).2 (4224 * k + 32) (4224 * k + 32 + p.length) := by
    by_cases q : 1 ≤ p.length
    · have ep := progL_eq (a := 4224 * k + 32) (ds := p) validB e1 n1 (by omega)
      refine ⟨progL_all (lo := 4224 * k + 32) (hi := 4224 * k + 4224) validB (kp _ _ (by omega) (by omega) (by omega)) hR (by omega) (by omega) (by omega) q c1, by rw [ep]; exact chain_chg c1.1 d1, ?_⟩
      exact prog_last validB e1 n1 (by omega) q pb (r1.sub (by omega) (by omega))
    · have : p = [] := List.length_eq_zero_iff.1 (by omega)
      subst this
      rw [progL_nil (s := 128) validB e1 n1 (by omega)]
      exact ⟨c1, d1, _, e1, fun j hj => by simp at hj, Out.refl _ _ _⟩
  obtain ⟨c2, d2, w2, e2, t2, o2⟩ := c2
  have n2 : w2.length = 8448 := o2.1.trans n1
  -- the header
  have ep3 := progL_eq (a := 4224 * k) (ds := hdrF v p) validB e2 n2 (by omega)
  have c3 := progL_all (a := 4224 * k) (ds := hdrF v p) (lo := 4224 * k) (hi := 4224 * k + 14) validB (kp _ _ (by omega) (by omega) (by omega)) hR (by omega) (by omega) (by omega) (by omega) c2
  have d3 : Chain (progL (progL (cleanL z k l0 33) (4224 * k + 32) p) (4224 * k) (hdrF v p)) := by
    rw [ep3]
    have := chain_chg (s := 128) (a := 4224 * k) (n := (hdrF v p).length) (g := gP (hdrF v p)) c2.1 d2
    rw [e2] at this
    exact this
  obtain ⟨w3, e3, t3, o3⟩ := prog_last (a := 4224 * k) (ds := hdrF v p) validB e2 n2 (by omega) (by omega) (hdrF_byte v p) ((r1.sub (Nat.le_refl _) (by omega)).out o2 (.inl (by omega)))
  rw [hh] at o3
  have n3 : w3.length = 8448 := o3.1.trans n2
  have er14 : Er w3 (4224 * k + 14) (4224 * k + 14 + [(80 : Int)].length) := ((r1.sub (show 4224 * k ≤ 4224 * k + 14 by omega) (show 4224 * k + 14 + [(80 : Int)].length ≤ _ by simp <;> omega)).out o2 (.inl (by simp <;> omega))).out o3 (.inr (by omega))
  obtain ⟨w, e4, t4, o4⟩ := prog_last (a := 4224 * k + 14) (ds := [80]) validB e3 n3 (by simp; omega) (by simp) (by simp) er14
  have o4 : Out w w3 (4224 * k + 14) (4224 * k + 15) := o4
  have hI : instL 128 z k v p = progL (progL (progL (cleanL z k l0 33) (4224 * k + 32) p) (4224 * k) (hdrF v p)) (4224 * k + 14) [80] := by
    unfold instL
    rw [e0]
  have hX := progL_eq (a := 4224 * k + 14) (ds := [80]) validB e3 n3 (by simp; omega)
  have hY : progL (progL (progL (cleanL z k l0 33) (4224 * k + 32) p) (4224 * k) (hdrF v p)) (4224 * k + 14) [80] = progL (progL (cleanL z k l0 33) (4224 * k + 32) p) (4224 * k) (hdrF v p) ++ [(128, w)] := by
    rw [hX] at e4 ⊢
    have e9 : chgF (progL (progL (cleanL z k l0 33) (4224 * k + 32) p) (4224 * k) (hdrF v p)) (mems 128 (gP [80]) (4224 * k + 14) w3 ([(80 : Int)].length + 1)) = progL (progL (cleanL z k l0 33) (4224 * k + 32) p) (4224 * k) (hdrF v p) ++ [(128, stp (gP [80]) (4224 * k + 14) w3 1)] := rfl
    rw [e9] at e4 ⊢
    unfold lastM at e4
    rw [List.getLastD_concat] at e4
    rw [e4]
  have d4 : Chain (progL (progL (cleanL z k l0 33) (4224 * k + 32) p) (4224 * k) (hdrF v p) ++ [(128, w)]) := by
    rw [← hY, hX]
    have := chain_chg (s := 128) (a := 4224 * k + 14) (n := [(80 : Int)].length) (g := gP [80]) c3.1 d3
    rw [e3] at this
    exact this
  have oA : Out w3 z (4224 * k) (4224 * k + 4224) := by
    have := c3.2.2
    rw [← hP, e3] at this
    exact this.1
  have b3 := c3.2.1 _ (last_mem c3.1)
  rw [e3] at b3
  refine ⟨_, w, by rw [hI, hY], c3.1, fun m hm => ?_, o4.1.trans n3, ?_, (o4.mono (by omega) (by omega)).trans oA (Nat.le_refl _) (Nat.le_refl _), ⟨⟨f1, f2, f3⟩, pb, t3.out o4 (.inl (by omega)), ?_, (t2.out o3 (.inr (by omega))).out o4 (.inr (by omega))⟩, ?_, ?_, d4⟩
  · obtain ⟨m1, m2, m3, m4⟩ := c3.2.1 m hm
    rw [← hR0] at m4
    exact ⟨m1, m2, m3, m4.1, m4.2⟩
  · have := stp_byte (g := gP [80]) (a := 4224 * k + 14) b3.2.2.1 (fun i x => band8_bd _ _) 1
    rw [hX] at e4
    have e9 := mems_last (s := 128) (g := gP [80]) (a := 4224 * k + 14) (n := 1) (zs := w3) (l := progL (progL (cleanL z k l0 33) (4224 * k + 32) p) (4224 * k) (hdrF v p)) (by decide)
    have e10 : ((128 : Int), w) = (128, stp (gP [80]) (4224 * k + 14) w3 1) := e4.symm.trans e9
    have e11 : w = stp (gP [80]) (4224 * k + 14) w3 1 := (Prod.mk.inj e10).2
    rw [e11]; exact this
  · exact t4 0 (by simp)
  · exact (((r1.sub (by omega) (by omega)).out o2 (.inl (by omega))).out o3 (.inr (by omega))).out o4 (.inr (by omega))
  · exact (((r1.sub (by omega) (by omega)).out o2 (.inr (by omega))).out o3 (.inr (by omega))).out o4 (.inr (by omega))
theorem cls_none {z : List Int} {k : Nat} (h : (progB (bankF z k)).1 = 0) : classB (bankF z k) = (-1, 0) := by unfold classB; rw [if_pos h]
theorem Hold.cls {z : List Int} {k : Nat} {v : Int} {p : List Int} (h : Hold z (4224 * k) v p) (hz : z.length = 8448) (hk : k < 2) :
    classB (bankF z k) = (if z.getD (4224 * k + 17) 0 = 0 then 0 else if z.getD (4224 * k + 15) 0 = 0 then 2 else 1, v) := by
  have hp := h.prog hz hk
  obtain ⟨f1, _⟩ := h.fit
  unfold classB
  rw [hp, bank_get (by omega), bank_get (by omega)]
  simp only
  rw [if_neg (by omega)]
  split
  · rfl
  · split <;> rfl
theorem Hold.congr {z w : List Int} {o : Nat} {v : Int} {p : List Int} (h : Hold z o v p) (hw : ∀ j, j < 4128 → ¬ (15 ≤ j ∧ j ≤ 31) → w.getD (o + j) 0 = z.getD (o + j) 0) : Hold w o v p := by
  obtain ⟨f1, f2, f3⟩ := h.fit
  refine ⟨h.fit, h.byt, fun j hj => ?_, by rw [hw 14 (by decide) (by decide)]; exact h.who, fun j hj => ?_⟩
  · have hj' := hj
    rw [hdrF_len] at hj'
    rw [hw j (by omega) (by omega)]; exact h.hdr j hj
  · rw [show o + 32 + j = o + (32 + j) by omega, hw (32 + j) (by omega) (by omega), ← Nat.add_assoc]; exact h.dat j hj
theorem selF_eq {z : List Int} {a x b y : Int} (h0 : classB (bankF z 0) = (a, x)) (h1 : classB (bankF z 1) = (b, y)) : selF z = if a < 0 ∧ b < 0 then -1 else if b > a ∨ (b = a ∧ y > x) then 1 else 0 := by
  unfold selF; rw [h0, h1]
theorem select_eq {z : List Int} {k : Nat} {v : Int} {p : List Int} (hz : z.length = 8448) (hs : selF z = (k : Nat)) (hp : progB (bankF z k) = (v, p)) : selectF 128 z = ((v, p), 0) := by
  unfold selectF
  rw [if_neg (fun h => h ⟨rfl, hz⟩), hs, if_neg (by omega), Int.toNat_natCast, hp]
theorem inst_eq {z : List Int} {c : Nat} {v : Int} {p : List Int} (hz : z.length = 8448) (hs : selF z = (c : Nat)) (hf : fitsF v p) (hv : (progB (bankF z 0)).1 < v ∧ (progB (bankF z 1)).1 < v) : installF 128 z v p = (instL 128 z (1 - c) v p, 0) := by
  unfold installF
  have e : (selectF 128 z).2 = 0 := by
    unfold selectF
    rw [if_neg (fun h => h ⟨rfl, hz⟩), hs, if_neg (by omega)]
  rw [e, if_neg (by decide), if_neg (fun h => h hf), if_neg (by omega), hs]
  congr 1
  congr 1
  omega
theorem inst_old {z : List Int} {c : Nat} {v : Int} {p : List Int} (hz : z.length = 8448) (hs : selF z = (c : Nat)) (hf : fitsF v p) (hv : v ≤ (progB (bankF z 0)).1 ∨ v ≤ (progB (bankF z 1)).1) : installF 128 z v p = ([], 14) := by
  unfold installF
  have e : (selectF 128 z).2 = 0 := by
    unfold selectF
    rw [if_neg (fun h => h ⟨rfl, hz⟩), hs, if_neg (by omega)]
  rw [e, if_neg (by decide), if_neg (fun h => h hf), if_pos (by omega)]
theorem find_eq {z : List Int} {k : Nat} {v : Int} (hk : (k = 0 ∧ (progB (bankF z 0)).1 = v) ∨ (k = 1 ∧ (progB (bankF z 0)).1 ≠ v ∧ (progB (bankF z 1)).1 = v)) (hv : v ≠ 0) : findF z v = (k : Nat) := by
  unfold findF
  rcases hk with ⟨rfl, h⟩ | ⟨rfl, h, h1⟩
  · rw [if_pos ⟨by omega, h⟩]; rfl
  · rw [if_neg (fun q => h q.2), if_pos ⟨by omega, h1⟩]; rfl
theorem mark_ok {z : List Int} {k m : Nat} {v : Int} (hz : z.length = 8448) (hb : ∀ x ∈ z, 0 ≤ x ∧ x ≤ 255) (hf : findF z v = (k : Nat)) (hk : k < 2) (hm : 1 ≤ m ∧ m ≤ 3) :
    ∃ w, markF 128 z v m = ([(128, z), (128, w)], 0) ∧ w.length = 8448 ∧ (∀ x ∈ w, 0 ≤ x ∧ x ≤ 255) ∧ ∀ j, w.getD j 0 = if j = 4224 * k + 14 + m then 0 else z.getD j 0 := by
  refine ⟨stp (gP [0]) (4224 * k + 14 + m) z 1, ?_, (stp_len _ _ _ _).trans hz, stp_byte hb (fun i x => band8_bd _ _) _, fun j => ?_⟩
  · unfold markF
    rw [if_neg (by
      rintro (h | h | h)
      · exact h ⟨rfl, hz⟩
      · omega
      · omega), hf, if_neg (by omega), show (4224 * ((k : Nat) : Int) + 14 + (m : Int)) = ((4224 * k + 14 + m : Nat) : Int) by omega, progF_mk (by rw [hz]; exact validB) (by omega) (by rw [hz]; simp; omega), Int.toNat_natCast]
    rfl
  · rw [stp_get]
    by_cases c : j = 4224 * k + 14 + m
    · rw [if_pos (by omega), if_pos c]
      subst c
      show band8 _ ([(0 : Int)].getD _ 0) = 0
      rw [Nat.sub_self]
      show band8 _ 0 = 0
      rw [band8_eq]; simp
    · rw [if_neg (by omega), if_neg c]
theorem format_ok {v : Int} {p : List Int} (hf : fitsF v p) (pb : ∀ x ∈ p, 0 ≤ x ∧ x ≤ 255) : ∃ z, formatB v p = ((128, z), 0) ∧ z.length = 8448 ∧ (∀ x ∈ z, 0 ≤ x ∧ x ≤ 255) ∧ Hold z 0 v p ∧ z.getD 15 0 = 0 ∧ z.getD 16 0 = 0 ∧ Er z 17 32 ∧ Er z (32 + p.length) 8448 := by
  obtain ⟨f1, f2, f3⟩ := hf
  have hh := hdrF_len v p
  unfold formatB
  rw [if_pos ⟨f1, f2, f3⟩]
  refine ⟨_, rfl, by simp only [List.length_append, hh, List.length_cons, List.length_nil, List.length_replicate]; omega, ?_, ?_⟩
  · intro x hx
    rcases List.mem_append.1 hx with h | h
    · exact hdrF_byte v p x h
    rcases List.mem_append.1 h with h | h
    · simp at h; omega
    rcases List.mem_append.1 h with h | h
    · have := List.eq_of_mem_replicate h; omega
    rcases List.mem_append.1 h with h | h
    · exact pb x h
    · have := List.eq_of_mem_replicate h; omega
  · have gR : ∀ n j : Nat, j < n → (List.replicate n (255 : Int)).getD j 0 = 255 := fun n j h => by
      rw [List.getD_eq_getElem?_getD, List.getElem?_replicate, if_pos h]; rfl
    have g : ∀ j, (hdrF v p ++ ([80, 0, 0] ++ (List.replicate 15 255 ++ (p ++ List.replicate (8416 - p.length) 255)))).getD j 0 = if j < 14 then (hdrF v p).getD j 0 else if j < 17 then [(80 : Int), 0, 0].getD (j - 14) 0 else if j < 32 then 255 else if j < 32 + p.length then p.getD (j - 32) 0 else if j < 8448 then 255 else 0 := fun j => by
      rw [getA, hh]
      by_cases c : j < 14
      · rw [if_pos c, if_pos c]
      rw [if_neg c, if_neg c, getA]
      simp only [List.length_cons, List.length_nil]
      by_cases c2 : j < 17
      · rw [if_pos (by omega), if_pos c2]
      rw [if_neg (by omega), if_neg c2, getA, List.length_replicate]
      by_cases c3 : j < 32
      · rw [if_pos (by omega), if_pos c3, gR _ _ (by omega)]
      rw [if_neg (by omega), if_neg c3, getA]
      by_cases c4 : j < 32 + p.length
      · rw [if_pos (by omega), if_pos c4]; congr 1 <;> omega
      rw [if_neg (by omega), if_neg c4]
      by_cases c5 : j < 8448
      · rw [if_pos c5, gR _ _ (by omega)]
      · rw [if_neg c5, List.getD_eq_getElem?_getD, List.getElem?_eq_none (by rw [List.length_replicate]; omega)]; rfl
    generalize hdrF v p ++ ([80, 0, 0] ++ (List.replicate 15 255 ++ (p ++ List.replicate (8416 - p.length) 255))) = z at g
    refine ⟨⟨⟨f1, f2, f3⟩, pb, fun j hj => ?_, by rw [g]; rfl, fun j hj => ?_⟩, by rw [g]; rfl, by rw [g]; rfl, fun j h1 h2 => ?_, fun j h1 h2 => ?_⟩
    · rw [hh] at hj
      rw [Nat.zero_add, g, if_pos hj]
    · rw [g, if_neg (by omega), if_neg (by omega), if_neg (by omega), if_pos (by omega)]; congr 1; omega
    · rw [g, if_neg (by omega), if_neg (by omega), if_pos (by omega)]
    · rw [g, if_neg (by omega), if_neg (by omega), if_neg (by omega), if_neg (by omega), if_pos h2]
structure Run (z p0 p1 : List Int) : Prop where
  len : z.length = 8448
  byt : ∀ x ∈ z, 0 ≤ x ∧ x ≤ 255
  h0 : Hold z 0 3 p0
  a15 : z.getD 15 0 = 0
  a16 : z.getD 16 0 = 0
  a17 : z.getD 17 0 = 255
  h1 : Hold z 4224 7 p1
  b15 : z.getD 4239 0 = 0
  b16 : z.getD 4240 0 = 255
  b17 : z.getD 4241 0 = 255
theorem Run.prog {z p0 p1 : List Int} (R : Run z p0 p1) : progB (bankF z 0) = (3, p0) ∧ progB (bankF z 1) = (7, p1) := ⟨Hold.prog (k := 0) R.h0 R.len (by decide), Hold.prog (k := 1) R.h1 R.len (by decide)⟩
theorem Run.sel {z p0 p1 : List Int} (R : Run z p0 p1) : selF z = ((1 : Nat) : Int) := by
  have c0 := Hold.cls (k := 0) R.h0 R.len (by decide)
  have c1 := Hold.cls (k := 1) R.h1 R.len (by decide)
  rw [show 4224 * 0 + 17 = 17 from rfl, show 4224 * 0 + 15 = 15 from rfl, R.a17, R.a15] at c0
  rw [show 4224 * 1 + 17 = 4241 from rfl, show 4224 * 1 + 15 = 4239 from rfl, R.b17, R.b15] at c1
  rw [selF_eq c0 c1]; rfl
structure B1 (z p1 : List Int) : Prop where
  h : Hold z 4224 7 p1
  b15 : z.getD 4239 0 = 0
  b17 : z.getD 4241 0 = 255
theorem B1.cls {z p1 : List Int} (B : B1 z p1) (hz : z.length = 8448) : classB (bankF z 1) = (2, 7) := by
  have c1 := Hold.cls (k := 1) B.h hz (by decide)
  rw [show 4224 * 1 + 17 = 4241 from rfl, show 4224 * 1 + 15 = 4239 from rfl, B.b17, B.b15] at c1
  rw [c1]; rfl
theorem B1.prog {z p1 : List Int} (B : B1 z p1) (hz : z.length = 8448) : progB (bankF z 1) = (7, p1) := Hold.prog (k := 1) B.h hz (by decide)
theorem B1.congr {z w p1 : List Int} (B : B1 z p1) (hw : ∀ j, 4224 ≤ j → w.getD j 0 = z.getD j 0) : B1 w p1 :=
  ⟨B.h.congr (fun j _ _ => hw _ (by omega)), by rw [hw _ (by decide)]; exact B.b15, by rw [hw _ (by decide)]; exact B.b17⟩
theorem Run.b1 {z p0 p1 : List Int} (R : Run z p0 p1) : B1 z p1 := ⟨R.h1, R.b15, R.b17⟩
structure Live (z p1 : List Int) : Prop where
  len : z.length = 8448
  byt : ∀ x ∈ z, 0 ≤ x ∧ x ≤ 255
  b1 : B1 z p1
  sel : selF z = ((1 : Nat) : Int)
theorem Live.select {z p1 : List Int} (L : Live z p1) : selectF 128 z = ((7, p1), 0) := select_eq L.len L.sel (L.b1.prog L.len)
theorem Run.live {z p0 p1 : List Int} (R : Run z p0 p1) : Live z p1 := ⟨R.len, R.byt, R.b1, R.sel⟩
structure After (z : List Int) (v : Int) (p p1 : List Int) : Prop where
  len : z.length = 8448
  byt : ∀ x ∈ z, 0 ≤ x ∧ x ≤ 255
  b0 : Hold z 0 v p
  b1 : B1 z p1
  big : 7 < v
theorem After.cls {z : List Int} {v : Int} {p p1 : List Int} (A : After z v p p1) : classB (bankF z 0) = (if z.getD 17 0 = 0 then 0 else if z.getD 15 0 = 0 then 2 else 1, v) := Hold.cls (k := 0) A.b0 A.len (by decide)
theorem After.prog {z : List Int} {v : Int} {p p1 : List Int} (A : After z v p p1) : progB (bankF z 0) = (v, p) := Hold.prog (k := 0) A.b0 A.len (by decide)
theorem After.new {z : List Int} {v : Int} {p p1 : List Int} (A : After z v p p1) (h : z.getD 15 0 = 0) (g : z.getD 17 0 ≠ 0) : selectF 128 z = ((v, p), 0) := by
  have c0 := A.cls
  rw [if_neg g, if_pos h] at c0
  have big := A.big
  have s : selF z = ((0 : Nat) : Int) := by rw [selF_eq c0 (A.b1.cls A.len), if_neg (by omega), if_neg (by omega)]; rfl
  exact select_eq A.len s A.prog
theorem After.old {z : List Int} {v : Int} {p p1 : List Int} (A : After z v p p1) (h : z.getD 15 0 ≠ 0 ∨ z.getD 17 0 = 0) : Live z p1 := by
  refine ⟨A.len, A.byt, A.b1, ?_⟩
  have c0 := A.cls
  have c1 := A.b1.cls A.len
  by_cases g : z.getD 17 0 = 0
  · rw [if_pos g] at c0; rw [selF_eq c0 c1]; rfl
  · rw [if_neg g, if_neg (h.resolve_right g)] at c0; rw [selF_eq c0 c1]; rfl
theorem After.mark {z : List Int} {v : Int} {p p1 : List Int} (A : After z v p p1) {m : Nat} (hm : 1 ≤ m ∧ m ≤ 3) :
    ∃ w, markF 128 z v m = ([(128, z), (128, w)], 0) ∧ After w v p p1 ∧ ∀ j, w.getD j 0 = if j = 14 + m then 0 else z.getD j 0 := by
  have big := A.big
  obtain ⟨w, e, wl, wb, wj⟩ := mark_ok (k := 0) A.len A.byt (find_eq (.inl ⟨rfl, by rw [A.prog]⟩) (by omega)) (by decide) hm
  have wj : ∀ j, w.getD j 0 = if j = 14 + m then 0 else z.getD j 0 := fun j => by rw [wj]
  exact ⟨w, e, ⟨wl, wb, A.b0.congr (fun j _ hj => by rw [Nat.zero_add, wj, if_neg (by omega)]), A.b1.congr (fun j hj => by rw [wj, if_neg (by omega)]), big⟩, wj⟩
theorem hidP_ex : ∃ f : List Int → Int × List Int, ∀ b, f b = progB b := ⟨progB, fun _ => rfl⟩
noncomputable def hidP : List Int → Int × List Int := hidP_ex.choose
theorem hidP_eq (b : List Int) : hidP b = progB b := hidP_ex.choose_spec b
theorem Bs.cut {E E' : Mem} {b b' : Option Addr} {l c lo hi : Nat} {zs : List Int} (h : Bs E b l c zs)
    (hF : ∀ cs, E (.slice b l c) cs → E' (.slice b' (hi - lo) (c - lo)) (List.take ((hi - lo) * 1) (List.drop (lo * 1) cs))) (hN : b'.isNone = b.isNone) (h1 : lo ≤ hi) (h2 : hi ≤ l) : Bs E' b' (hi - lo) (c - lo) ((zs.drop lo).take (hi - lo)) := by
  have hlen := h.2.1
  have hc := h.2.2.1
  refine ⟨?_, by rw [List.length_take, List.length_drop, hlen]; omega, by omega, fun z hz => h.2.2.2.1 z (List.drop_subset _ _ (List.take_subset _ _ hz)), fun e => ?_⟩
  · rcases h.1 with q | q
    · exact .inl (by rw [q]; simp)
    · refine .inr ?_
      have := hF _ q
      rw [Nat.mul_one, Nat.mul_one, ← List.map_drop, ← List.map_take] at this
      exact this
  · have : zs = [] := h.2.2.2.2 (by cases b with | none => rfl | some x => rw [e] at hN; cases hN)
    rw [this]; simp
noncomputable def tabP1 : FuncId → List SV → Mem → (SV → Mem → Prop) → Prop := fun f args E K => match f with
  | 62 => d1 args fun x0 => dS x0 fun b1 l2 c3 => ∃ (zs : List Int), Bs E b1 l2 c3 zs ∧ l2 ≤ 4 ∧ (K (I (numF zs)) E)
  | 31 => d2 args fun x0 x1 => dI x0 fun a1 => dS x1 fun b2 l3 c4 => ∃ (zs : List Int), Bs E b2 l3 c4 zs ∧ 0 ≤ a1 ∧ a1 ≤ 1000000000 ∧ l3 ≤ 4096 ∧ (∀ (b' : Option Addr) (l' c' : Nat) (ys : List Int) (E' : Mem), Mem.le E E' → Hyp (ys = hidH a1 zs) → Bs E' b' l' c' ys → K (L b' l' c') E')
  | 63 => d2 args fun x0 x1 => dS x0 fun b1 l2 c3 => dS x1 fun b4 l5 c6 => ∃ (xs : List Int) (ys : List Int), Bs E b1 l2 c3 xs ∧ Bs E b4 l5 c6 ys ∧ (K (B (decide (xs = ys))) E)
  | _ => False
theorem tabP1_ok : TabOK Try.prog tabP1 := by
  intro f args E K h
  unfold tabP1 at h
  split at h
  · replace h := d1_elim h
    obtain ⟨x0, rfl, h⟩ := h
    replace h := dS_elim h
    obtain ⟨b1, l2, c3, rfl, h⟩ := h
    obtain ⟨zs, g0, g1, h⟩ := h
    exact TabSem.congr (valL_cons rfl rfl) (Ent.sem okJ1 Try.func62 ⟨by kernel_rfl, by kernel_rfl⟩ rfl (s43 g0 g1 h))
  · replace h := d2_elim h
    obtain ⟨x0, x1, rfl, h⟩ := h
    replace h := dI_elim h
    obtain ⟨a1, rfl, h⟩ := h
    replace h := dS_elim h
    obtain ⟨b2, l3, c4, rfl, h⟩ := h
    obtain ⟨zs, g0, g1, g2, g3, h⟩ := h
    exact TabSem.congr (valL_cons rfl (valL_cons rfl rfl)) (Ent.sem okH1 Try.func31 ⟨by kernel_rfl, by kernel_rfl⟩ rfl (q31 g0 g1 g2 g3 h))
  · replace h := d2_elim h
    obtain ⟨x0, x1, rfl, h⟩ := h
    replace h := dS_elim h
    obtain ⟨b1, l2, c3, rfl, h⟩ := h
    replace h := dS_elim h
    obtain ⟨b4, l5, c6, rfl, h⟩ := h
    obtain ⟨xs, ys, g0, g1, h⟩ := h
    exact TabSem.congr (valL_cons rfl (valL_cons rfl rfl)) (s61 g0 g1 h)
  · exact h.elim
noncomputable def P1 : Cx := { P := Try.prog, inl := fun f => List.contains [29] f, tab := tabP1, isB := fun _ => false, tabB := fun _ _ _ _ _ => False, opt := { unroll := 0, carry := [] }, muts := mutsD }
theorem okP1 : CxOK P1 := CxOK.four tabP1_ok (by kernel_rfl) (okInl (by kernel_rfl)) (fun _ _ _ _ _ h => h.elim)
theorem q37 {b1 : Option Addr} {l2 : Nat} {c3 : Nat} {zs : List Int} (h0 : Bs E b1 l2 c3 zs) (h1 : l2 = 4224) (h : ∀ (v : Int) (d : List Int) (b' : Option Addr) (l' c' : Nat) (E' : Mem), Mem.le E E' → Hyp (hidP zs = (v, d)) → Bs E' b' l' c' d → K (.tup [I v, L b' l' c']) E') :
    Ent P1 8 Try.f37 [L b1 l2 c3] E K := by
  refine same (by kernel_rfl) (?_ : req (l2 ≤ c3) (req ((0 : Int) ≤ (6 : Int) ∧ (6 : Int) ≤ (NI (toN none c3))) (∀ (base' : Option Addr) (E' : Mem), Mem.le E E' → (∀ (cs : List Value), E (VS b1 l2 c3) cs → E' (VS base' 2 (toN none c3 - 4)) (List.take 2 (List.drop 4 cs))) → Option.isNone base' = Option.isNone b1 → ∃ (zs : List Int), Bs E' base' 2 (toN none c3 - 4) zs ∧ 2 ≤ 4 ∧ Mem.le E' E' ∧ req ((0 : Int) ≤ (14 : Int) ∧ (14 : Int) < (NI l2)) ((∃ (cs : List Value), E' (VS b1 l2 c3) cs ∧ (cs = [] → False)) ∧ ∃ (n : Int), LoadE P1.P E' 5 (VS b1 l2 c3) 14 (SV.raw (U8 n)) ∧ bif n != (80 : Int) then Mem.le E E' ∧ K (SV.tup [SV.raw (Value.int IntKind.i64 0), SV.raw (VS none 0 0)]) E' else bif bif false then true else decide (numF zs > (4096 : Int)) then Mem.le E E' ∧ K (SV.tup [SV.raw (Value.int IntKind.i64 0), SV.raw (VS none 0 0)]) E' else req (l2 ≤ c3) (req ((0 : Int) ≤ (4 : Int) ∧ (4 : Int) ≤ (NI (toN none c3))) (∀ (base' : Option Addr) (E'_1 : Mem), Mem.le E' E'_1 → (∀ (cs : List Value), E' (VS b1 l2 c3) cs → E'_1 (VS base' 4 (toN none c3 - 0)) (List.take 4 (List.drop 0 cs))) → Option.isNone base' = Option.isNone b1 → req (l2 ≤ c3) (req ((0 : Int) ≤ WI ((32 : Int) + numF zs) ∧ WI ((32 : Int) + numF zs) ≤ (NI (toN none c3))) (req ((0 : Int) ≤ (32 : Int) ∧ (32 : Int) ≤ (NI (toN (some (WI ((32 : Int) + numF zs))) l2))) (∀ (base'_1 : Option Addr) (E' : Mem), Mem.le E'_1 E' → (∀ (cs : List Value), E'_1 (VS b1 l2 c3) cs → E' (VS base'_1 (toN (some (WI ((32 : Int) + numF zs))) l2 - 32) (toN none c3 - 32)) (List.take ((toN (some (WI ((32 : Int) + numF zs))) l2 - 32) * 1) (List.drop 32 cs))) → Option.isNone base'_1 = Option.isNone b1 → ∃ (zs_1 : List Int), Bs E' base' 4 (toN none c3 - 0) zs_1 ∧ 4 ≤ 4 ∧ Mem.le E' E' ∧ bif decide (numF zs_1 ≥ (1 : Int)) then bif bif true then decide (numF zs_1 ≤ (1000000000 : Int)) else false then Mem.le E' E' ∧ bif !bif true then decide ((NI (toN (some (WI ((32 : Int) + numF zs))) l2 - 32)) ≤ (4096 : Int)) else false then Mem.le E E' ∧ K (SV.tup [SV.raw (Value.int IntKind.i64 0), SV.raw (VS none 0 0)]) E' else req (l2 ≤ c3) (req ((0 : Int) ≤ (14 : Int) ∧ (14 : Int) ≤ (NI (toN none c3))) (∀ (base' : Option Addr) (E'_2 : Mem), Mem.le E' E'_2 → (∀ (cs : List Value), E' (VS b1 l2 c3) cs → E'_2 (VS base' 14 (toN none c3 - 0)) (List.take 14 (List.drop 0 cs))) → Option.isNone base' = Option.isNone b1 → ∃ (zs_2 : List Int), Bs E'_2 base'_1 (toN (some (WI ((32 : Int) + numF zs))) l2 - 32) (toN none c3 - 32) zs_2 ∧ (0 : Int) ≤ numF zs_1 ∧ numF zs_1 ≤ (1000000000 : Int) ∧ toN (some (WI ((32 : Int) + numF zs))) l2 - 32 ≤ 4096 ∧ ∀ (b' : Option Addr) (l' c' : Nat) (ys : List Int) (E' : Mem), Mem.le E'_2 E' → Hyp (ys = hidH (numF zs_1) zs_2) → Bs E' b' l' c' ys → Mem.le E'_2 E' ∧ ∃ (xs : List Int), ∃ (ys : List Int), Bs E' b' l' c' xs ∧ Bs E' base' 14 (toN none c3 - (0 : Nat)) ys ∧ Mem.le E' E' ∧ bif bif false then true else !decide (xs = ys) then Mem.le E E' ∧ K (SV.tup [SV.raw (Value.int IntKind.i64 0), SV.raw (VS none 0 0)]) E' else Mem.le E E' ∧ K (SV.tup [SV.raw (Value.int IntKind.i64 (numF zs_1)), SV.raw (VS base'_1 (toN (some (WI ((32 : Int) + numF zs))) l2 - (32 : Nat)) (toN none c3 - (32 : Nat)))]) E')) else Mem.le E' E' ∧ Mem.le E E' ∧ K (SV.tup [SV.raw (Value.int IntKind.i64 0), SV.raw (VS none 0 0)]) E' else Mem.le E' E' ∧ Mem.le E E' ∧ K (SV.tup [SV.raw (Value.int IntKind.i64 0), SV.raw (VS none 0 0)]) E')))))))))
  delta WI NI U8 VS
  have hl := h0.2.1
  have hb := h0.2.2.2.1
  have hc := h0.2.2.1
  have hN : ∀ k, numF ((zs.drop k).take 2) = (((numF ((zs.drop k).take 2)).toNat : Nat) : Int) ∧ (numF ((zs.drop k).take 2)).toNat < 65536 := fun k => by
    obtain ⟨b1, b2⟩ := numF_bd (zs := (zs.drop k).take 2) (fun z hz => hb z (List.drop_subset _ _ (List.take_subset _ _ hz)))
    have hk : ((zs.drop k).take 2).length ≤ 2 := by rw [List.length_take]; omega
    have : (256 : Int) ^ ((zs.drop k).take 2).length ≤ 65536 := by
      have : ∀ m : Nat, m ≤ 2 → (256 : Int) ^ m ≤ 65536 := by decide
      exact this _ hk
    omega
  obtain ⟨n1, n2⟩ := hN 4
  have pb : hidP zs = progB zs := hidP_eq zs
  unfold progB at pb
  simp only [toN]
  refine req_intro hc (req_intro (by omega) (fun bA EA kA fA nA => ⟨(zs.drop 4).take 2, Bs.cut (lo := 4) (hi := 6) h0 fA nA (by decide) (by omega), by decide, Mem.le_refl _, req_intro (by omega) ⟨(h0.mono kA).ne (i := 14) (by omega), zs.getD 14 0, (h0.mono kA).load rfl (i := 14) (by omega), ?_⟩⟩))
  refine condC (fun q => ⟨kA, ?_⟩) (fun q => condC (fun q2 => ⟨kA, ?_⟩) (fun q2 => ?_))
  · have q : zs.getD 14 0 ≠ 80 := by simpa using q
    rw [if_pos (.inl q)] at pb
    exact h 0 [] none 0 0 EA kA pb (Bs.nil _)
  · have q2 : numF ((zs.drop 4).take 2) > 4096 := by simpa using q2
    rw [if_pos (.inr (by omega))] at pb
    exact h 0 [] none 0 0 EA kA pb (Bs.nil _)
  have q : zs.getD 14 0 = 80 := by simpa using q
  have q2 : numF ((zs.drop 4).take 2) ≤ 4096 := by simpa using q2
  rw [if_neg (by omega)] at pb
  generalize hn : (numF ((zs.drop 4).take 2)).toNat = n at *
  rw [n1, wrap_i64 (x := 32 + (n : Int)) (by omega), show (32 : Int) + (n : Int) = ((32 + n : Nat) : Int) by omega]
  have en : 32 + n - 32 = n := by omega
  simp only [Int.toNat_natCast, en]
  refine req_intro hc (req_intro (by omega) (fun bB EB kB fB nB => req_intro hc (req_intro (by omega) (req_intro (by omega) (fun bC EC kC fC nC => ⟨zs.take 4, ?_, by decide, Mem.le_refl _, ?_⟩)))))
  · have := Bs.cut (lo := 0) (hi := 4) (h0.mono kA) fB nB (by decide) (by omega)
    rw [List.drop_zero] at this
    exact this.mono kC
  have kc : Mem.le E EC := Mem.le_trans kA (Mem.le_trans kB kC)
  have hD : Bs EC bC n (c3 - 32) ((zs.drop 32).take n) := by
    have := Bs.cut (lo := 32) (hi := 32 + n) (h0.mono (Mem.le_trans kA kB)) (by rw [en]; exact fC) nC (by omega) (by omega)
    rwa [en] at this
  have ld := hD.2.1
  have bad : ¬ (1 ≤ numF (zs.take 4) ∧ numF (zs.take 4) ≤ 1000000000) → Mem.le E EC ∧ K (.tup [I 0, L none 0 0]) EC := fun w => by
    rw [if_pos (.inl w)] at pb
    exact ⟨kc, h 0 [] none 0 0 EC kc pb (Bs.nil _)⟩
  refine condC (fun w1 => condC (fun w2 => ⟨Mem.le_refl _, condC (fun w3 => ?_) (fun w3 => ?_)⟩) (fun w2 => ⟨Mem.le_refl _, bad ?_⟩)) (fun w1 => ⟨Mem.le_refl _, bad ?_⟩)
  · simp at w3; omega
  · have w1 : 1 ≤ numF (zs.take 4) := by simpa using w1
    have w2 : numF (zs.take 4) ≤ 1000000000 := by simpa using w2
    refine req_intro hc (req_intro (by omega) (fun bD ED kD fD nD => ⟨(zs.drop 32).take n, hD.mono kD, by omega, w2, by omega, fun bH lH cH yH EH kH eH HH => ⟨kH, yH, zs.take 14, HH, ?_, Mem.le_refl _, ?_⟩⟩))
    · have := Bs.cut (lo := 0) (hi := 14) (h0.mono kc) fD nD (by decide) (by omega)
      rw [List.drop_zero] at this
      exact this.mono kH
    have kh : Mem.le E EH := Mem.le_trans kc (Mem.le_trans kD kH)
    have eH : yH = hidH (numF (zs.take 4)) ((zs.drop 32).take n) := eH
    rw [hidH_eq] at eH
    refine condC (fun w => ⟨kh, ?_⟩) (fun w => ⟨kh, ?_⟩)
    · have w : yH ≠ zs.take 14 := by simpa using w
      rw [if_pos (.inr (by rw [← eH]; exact w))] at pb
      exact h 0 [] none 0 0 EH kh pb (Bs.nil _)
    · have w : yH = zs.take 14 := by simpa using w
      rw [if_neg (by rw [← eH, w]; simp; omega)] at pb
      exact h _ _ _ _ _ EH kh pb (hD.mono (Mem.le_trans kD kH))
  · simp at w2; omega
  · simp at w1; omega
def sel2 (x y : List Int) : Int :=
  if (classB x).1 < 0 ∧ (classB y).1 < 0 then -1 else if (classB y).1 > (classB x).1 ∨ ((classB y).1 = (classB x).1 ∧ (classB y).2 > (classB x).2) then 1 else 0
theorem selF_2 (z : List Int) : selF z = sel2 (bankF z 0) (bankF z 1) := rfl
theorem progB_len (b : List Int) : (progB b).2.length ≤ 4096 := by
  unfold progB
  split
  · simp
  · rename_i q
    split
    · simp
    · simp only [List.length_take]; omega
theorem Bs.cut3 {E E' : Mem} {b b' : Option Addr} {l c lo hi : Nat} {zs : List Int} (h : Bs E b l c zs)
    (hF : ∀ cs, E (.slice b l c) cs → E' (.slice b' (hi - lo) (hi - lo)) (List.take ((hi - lo) * 1) (List.drop (lo * 1) cs))) (hN : b'.isNone = b.isNone) (h1 : lo ≤ hi) (h2 : hi ≤ l) : Bs E' b' (hi - lo) (hi - lo) ((zs.drop lo).take (hi - lo)) := by
  have hlen := h.2.1
  refine ⟨?_, by rw [List.length_take, List.length_drop, hlen]; omega, Nat.le_refl _, fun z hz => h.2.2.2.1 z (List.drop_subset _ _ (List.take_subset _ _ hz)), fun e => ?_⟩
  · rcases h.1 with q | q
    · exact .inl (by rw [q]; simp)
    · refine .inr ?_
      have := hF _ q
      rw [Nat.mul_one, Nat.mul_one, ← List.map_drop, ← List.map_take] at this
      exact this
  · have : zs = [] := h.2.2.2.2 (by cases b with | none => rfl | some x => rw [e] at hN; cases hN)
    rw [this]; simp
theorem hidC_ex : ∃ f : List Int → Int × Int, ∀ b, f b = classB b := ⟨classB, fun _ => rfl⟩
noncomputable def hidC : List Int → Int × Int := hidC_ex.choose
theorem hidC_eq (b : List Int) : hidC b = classB b := hidC_ex.choose_spec b
theorem hidS_ex : ∃ f : List Int → List Int → Int, ∀ b c, f b c = sel2 b c := ⟨sel2, fun _ _ => rfl⟩
noncomputable def hidS : List Int → List Int → Int := hidS_ex.choose
theorem hidS_eq (b c : List Int) : hidS b c = sel2 b c := hidS_ex.choose_spec b c
noncomputable def tabP2 : FuncId → List SV → Mem → (SV → Mem → Prop) → Prop := fun f args E K => match f with
  | 37 => d1 args fun x0 => dS x0 fun b1 l2 c3 => ∃ (zs : List Int), Bs E b1 l2 c3 zs ∧ l2 = 4224 ∧ (∀ (v : Int) (d : List Int) (b' : Option Addr) (l' c' : Nat) (E' : Mem), Mem.le E E' → Hyp (hidP zs = (v, d)) → Bs E' b' l' c' d → K (.tup [I v, L b' l' c']) E')
  | _ => False
theorem tabP2_ok : TabOK Try.prog tabP2 := by
  intro f args E K h
  unfold tabP2 at h
  split at h
  · replace h := d1_elim h
    obtain ⟨x0, rfl, h⟩ := h
    replace h := dS_elim h
    obtain ⟨b1, l2, c3, rfl, h⟩ := h
    obtain ⟨zs, g0, g1, h⟩ := h
    exact TabSem.congr (valL_cons rfl rfl) (Ent.sem okP1 Try.func37 ⟨by kernel_rfl, by kernel_rfl⟩ rfl (q37 g0 g1 h))
  · exact h.elim
noncomputable def P2 : Cx := { P := Try.prog, inl := fun f => List.contains [53] f, tab := tabP2, isB := fun _ => false, tabB := fun _ _ _ _ _ => False, opt := { unroll := 0, carry := [] }, muts := mutsD }
theorem okP2 : CxOK P2 := CxOK.four tabP2_ok (by kernel_rfl) (okInl (by kernel_rfl)) (fun _ _ _ _ _ h => h.elim)
theorem q61 {b1 : Option Addr} {l2 : Nat} {c3 : Nat} {zs : List Int} (h0 : Bs E b1 l2 c3 zs) (h1 : l2 = 4224) (h : ∀ (a x : Int) (E' : Mem), Mem.le E E' → Hyp (hidC zs = (a, x)) → K (.tup [I a, I x]) E') :
    Ent P2 8 Try.f61 [L b1 l2 c3] E K := by
  refine same (by kernel_rfl) (?_ : ∃ (zs : List Int), Bs E b1 l2 c3 zs ∧ l2 = 4224 ∧ ∀ (v : Int) (d : List Int) (b' : Option Addr) (l' c' : Nat) (E' : Mem), Mem.le E E' → Hyp (hidP zs = (v, d)) → Bs E' b' l' c' d → Mem.le E E' ∧ bif v == (0 : Int) then Mem.le E E' ∧ K (SV.tup [SV.raw (Value.int IntKind.i64 (-1 : Int)), SV.raw (Value.int IntKind.i64 0)]) E' else req ((0 : Int) ≤ (17 : Int) ∧ (17 : Int) < (NI l2)) ((∃ (cs : List Value), E' (VS b1 l2 c3) cs ∧ (cs = [] → False)) ∧ ∃ (n : Int), LoadE P2.P E' 5 (VS b1 l2 c3) 17 (SV.raw (U8 n)) ∧ Mem.le E' E' ∧ bif n == (0 : Int) then Mem.le E E' ∧ K (SV.tup [SV.raw (Value.int IntKind.i64 0), SV.raw (Value.int IntKind.i64 v)]) E' else req ((0 : Int) ≤ (15 : Int) ∧ (15 : Int) < (NI l2)) ((∃ (cs : List Value), E' (VS b1 l2 c3) cs ∧ (cs = [] → False)) ∧ ∃ (n : Int), LoadE P2.P E' 5 (VS b1 l2 c3) 15 (SV.raw (U8 n)) ∧ Mem.le E' E' ∧ bif n == (0 : Int) then Mem.le E E' ∧ K (SV.tup [SV.raw (Value.int IntKind.i64 2), SV.raw (Value.int IntKind.i64 v)]) E' else Mem.le E E' ∧ K (SV.tup [SV.raw (Value.int IntKind.i64 1), SV.raw (Value.int IntKind.i64 v)]) E')))
  delta NI U8 VS
  refine ⟨zs, h0, h1, fun v d b' l' c' E' k r B => ⟨k, ?_⟩⟩
  have r : hidP zs = (v, d) := r
  rw [hidP_eq] at r
  have pc := hidC_eq zs
  unfold classB at pc
  rw [r] at pc
  simp only at pc
  have B' := h0.mono k
  refine condC (fun q => ⟨k, h (-1) 0 E' k ?_⟩) (fun q => req_intro (by omega) ⟨B'.ne (i := 17) (by omega), zs.getD 17 0, B'.load rfl (i := 17) (by omega), Mem.le_refl _, condC (fun q2 => ⟨k, h 0 v E' k ?_⟩) (fun q2 => req_intro (by omega) ⟨B'.ne (i := 15) (by omega), zs.getD 15 0, B'.load rfl (i := 15) (by omega), Mem.le_refl _, condC (fun q3 => ⟨k, h 2 v E' k ?_⟩) (fun q3 => ⟨k, h 1 v E' k ?_⟩)⟩)⟩)
  · have q : v = 0 := by simpa using q
    rw [if_pos q] at pc; exact pc
  · have q : v ≠ 0 := by simpa using q
    have q2 : zs.getD 17 0 = 0 := by simpa using q2
    rw [if_neg q, if_pos q2] at pc; exact pc
  · have q : v ≠ 0 := by simpa using q
    have q2 : zs.getD 17 0 ≠ 0 := by simpa using q2
    have q3 : zs.getD 15 0 = 0 := by simpa using q3
    rw [if_neg q, if_neg q2, if_pos q3] at pc; exact pc
  · have q : v ≠ 0 := by simpa using q
    have q2 : zs.getD 17 0 ≠ 0 := by simpa using q2
    have q3 : zs.getD 15 0 ≠ 0 := by simpa using q3
    rw [if_neg q, if_neg q2, if_neg q3] at pc; exact pc
noncomputable def tabP3 : FuncId → List SV → Mem → (SV → Mem → Prop) → Prop := fun f args E K => match f with
  | 61 => d1 args fun x0 => dS x0 fun b1 l2 c3 => ∃ (zs : List Int), Bs E b1 l2 c3 zs ∧ l2 = 4224 ∧ (∀ (a x : Int) (E' : Mem), Mem.le E E' → Hyp (hidC zs = (a, x)) → K (.tup [I a, I x]) E')
  | _ => False
theorem tabP3_ok : TabOK Try.prog tabP3 := by
  intro f args E K h
  unfold tabP3 at h
  split at h
  · replace h := d1_elim h
    obtain ⟨x0, rfl, h⟩ := h
    replace h := dS_elim h
    obtain ⟨b1, l2, c3, rfl, h⟩ := h
    obtain ⟨zs, g0, g1, h⟩ := h
    exact TabSem.congr (valL_cons rfl rfl) (Ent.sem okP2 Try.func61 ⟨by kernel_rfl, by kernel_rfl⟩ rfl (q61 g0 g1 h))
  · exact h.elim
noncomputable def P3 : Cx := { P := Try.prog, inl := fun f => List.contains [] f, tab := tabP3, isB := fun _ => false, tabB := fun _ _ _ _ _ => False, opt := { unroll := 0, carry := [] }, muts := mutsD }
theorem okP3 : CxOK P3 := CxOK.four tabP3_ok (by kernel_rfl) (okInl (by kernel_rfl)) (fun _ _ _ _ _ h => h.elim)
theorem q36 {b1 : Option Addr} {l2 : Nat} {c3 : Nat} {b4 : Option Addr} {l5 : Nat} {c6 : Nat} {xs : List Int} {ys : List Int} (h0 : Bs E b1 l2 c3 xs) (h1 : l2 = 4224) (h2 : Bs E b4 l5 c6 ys) (h3 : l5 = 4224) (h : ((∀ E' : Mem, Mem.le E E' → Hyp (hidS xs ys = -1) → K (I (-1)) E') ∧ (∀ E' : Mem, Mem.le E E' → Hyp (hidS xs ys = 0) → K (I 0) E') ∧ (∀ E' : Mem, Mem.le E E' → Hyp (hidS xs ys = 1) → K (I 1) E'))) :
    Ent P3 8 Try.f36 [.agg [L b1 l2 c3, L b4 l5 c6]] E K := by
  refine same (by kernel_rfl) (?_ : ∃ (zs : List Int), Bs E b1 l2 c3 zs ∧ l2 = 4224 ∧ ∀ (a x : Int) (E' : Mem), Mem.le E E' → Hyp (hidC zs = (a, x)) → Mem.le E E' ∧ ∃ (zs : List Int), Bs E' b4 l5 c6 zs ∧ l5 = 4224 ∧ ∀ (a_3 x_1 : Int) (E'_1 : Mem), Mem.le E' E'_1 → Hyp (hidC zs = (a_3, x_1)) → Mem.le E' E'_1 ∧ bif decide (a < (0 : Int)) then bif bif true then decide (a_3 < (0 : Int)) else false then Mem.le E E'_1 ∧ K (SV.raw (Value.int IntKind.i64 (-1 : Int))) E'_1 else bif decide (a_3 > a) then Mem.le E E'_1 ∧ K (SV.raw (Value.int IntKind.i64 (1 : Int))) E'_1 else bif a_3 == a then bif bif false then true else bif true then decide (x_1 > x) else false then Mem.le E E'_1 ∧ K (SV.raw (Value.int IntKind.i64 (1 : Int))) E'_1 else Mem.le E E'_1 ∧ K (SV.raw (Value.int IntKind.i64 (0 : Int))) E'_1 else Mem.le E E'_1 ∧ K (SV.raw (Value.int IntKind.i64 (0 : Int))) E'_1 else bif decide (a_3 > a) then Mem.le E E'_1 ∧ K (SV.raw (Value.int IntKind.i64 (1 : Int))) E'_1 else bif a_3 == a then bif bif false then true else bif true then decide (x_1 > x) else false then Mem.le E E'_1 ∧ K (SV.raw (Value.int IntKind.i64 (1 : Int))) E'_1 else Mem.le E E'_1 ∧ K (SV.raw (Value.int IntKind.i64 (0 : Int))) E'_1 else Mem.le E E'_1 ∧ K (SV.raw (Value.int IntKind.i64 (0 : Int))) E'_1)
  obtain ⟨hm, hz, hp⟩ := h
  refine ⟨xs, h0, h1, fun a x E1 k1 r1 => ⟨k1, ys, h2.mono k1, h3, fun b y E2 k2 r2 => ⟨k2, ?_⟩⟩⟩
  have k := Mem.le_trans k1 k2
  have r1 : hidC xs = (a, x) := r1
  have r2 : hidC ys = (b, y) := r2
  rw [hidC_eq] at r1 r2
  have e := hidS_eq xs ys
  unfold sel2 at e
  rw [r1, r2] at e
  simp only at e
  have fm : hidS xs ys = -1 → Mem.le E E2 ∧ K (I (-1)) E2 := fun q => ⟨k, hm E2 k q⟩
  have fz : hidS xs ys = 0 → Mem.le E E2 ∧ K (I 0) E2 := fun q => ⟨k, hz E2 k q⟩
  have fp : hidS xs ys = 1 → Mem.le E E2 ∧ K (I 1) E2 := fun q => ⟨k, hp E2 k q⟩
  refine condC (fun q => ?_) (fun q => ?_)
  · have q : a < 0 := by simpa using q
    refine condC (fun w => fm ?_) (fun w => ?_)
    · have w : b < 0 := by simpa using w
      rw [e, if_pos ⟨q, w⟩]
    · have w : ¬ b < 0 := by simpa using w
      rw [if_neg (fun z => w z.2)] at e
      refine condC (fun u => fp ?_) (fun u => ?_)
      · have u : b > a := by simpa using u
        rw [e, if_pos (.inl u)]
      · have u : ¬ b > a := by simpa using u
        omega
  · have q : ¬ a < 0 := by simpa using q
    rw [if_neg (fun z => q z.1)] at e
    refine condC (fun u => fp ?_) (fun u => ?_)
    · have u : b > a := by simpa using u
      rw [e, if_pos (.inl u)]
    · have u : ¬ b > a := by simpa using u
      refine condC (fun t => condC (fun v => fp ?_) (fun v => fz ?_)) (fun t => fz ?_)
      · have t : b = a := by simpa using t
        have v : y > x := by simpa using v
        rw [e, if_pos (.inr ⟨t, v⟩)]
      · have v : ¬ y > x := by simpa using v
        rw [e, if_neg (fun z => z.elim u (fun z => v z.2))]
      · have t : ¬ b = a := by simpa using t
        rw [e, if_neg (fun z => z.elim u (fun z => t z.1))]
noncomputable def tabP4 : FuncId → List SV → Mem → (SV → Mem → Prop) → Prop := fun f args E K => match f with
  | 36 => d1 args fun x0 => dC x0 fun l1 => d2 l1 fun x0_0 x0_1 => dS x0_0 fun b1 l2 c3 => dS x0_1 fun b4 l5 c6 => ∃ (xs : List Int) (ys : List Int), Bs E b1 l2 c3 xs ∧ l2 = 4224 ∧ Bs E b4 l5 c6 ys ∧ l5 = 4224 ∧ (((∀ E' : Mem, Mem.le E E' → Hyp (hidS xs ys = -1) → K (I (-1)) E') ∧ (∀ E' : Mem, Mem.le E E' → Hyp (hidS xs ys = 0) → K (I 0) E') ∧ (∀ E' : Mem, Mem.le E E' → Hyp (hidS xs ys = 1) → K (I 1) E')))
  | 37 => d1 args fun x0 => dS x0 fun b1 l2 c3 => ∃ (zs : List Int), Bs E b1 l2 c3 zs ∧ l2 = 4224 ∧ (∀ (v : Int) (d : List Int) (b' : Option Addr) (l' c' : Nat) (E' : Mem), Mem.le E E' → Hyp (hidP zs = (v, d)) → Bs E' b' l' c' d → K (.tup [I v, L b' l' c']) E')
  | _ => False
theorem tabP4_ok : TabOK Try.prog tabP4 := by
  intro f args E K h
  unfold tabP4 at h
  split at h
  · replace h := d1_elim h
    obtain ⟨x0, rfl, h⟩ := h
    replace h := dC_elim h
    obtain ⟨l1, hl1, h⟩ := h
    replace h := d2_elim h
    obtain ⟨x0_0, x0_1, rfl, h⟩ := h
    replace h := dS_elim h
    obtain ⟨b1, l2, c3, rfl, h⟩ := h
    replace h := dS_elim h
    obtain ⟨b4, l5, c6, rfl, h⟩ := h
    obtain ⟨xs, ys, g0, g1, g2, g3, h⟩ := h
    exact TabSem.congr (valL_cons (asCells_val hl1) rfl) (Ent.sem okP3 Try.func36 ⟨by kernel_rfl, by kernel_rfl⟩ rfl (q36 g0 g1 g2 g3 h))
  · replace h := d1_elim h
    obtain ⟨x0, rfl, h⟩ := h
    replace h := dS_elim h
    obtain ⟨b1, l2, c3, rfl, h⟩ := h
    obtain ⟨zs, g0, g1, h⟩ := h
    exact TabSem.congr (valL_cons rfl rfl) (Ent.sem okP1 Try.func37 ⟨by kernel_rfl, by kernel_rfl⟩ rfl (q37 g0 g1 h))
  · exact h.elim
noncomputable def P4 : Cx := { P := Try.prog, inl := fun f => List.contains [35, 38] f, tab := tabP4, isB := fun _ => false, tabB := fun _ _ _ _ _ => False, opt := { unroll := 0, carry := [] }, muts := mutsD }
theorem okP4 : CxOK P4 := CxOK.four tabP4_ok (by kernel_rfl) (okInl (by kernel_rfl)) (fun _ _ _ _ _ h => h.elim)
theorem q15 {a1 : Int} {b2 : Option Addr} {l3 : Nat} {c4 : Nat} {zs : List Int} (h0 : Bs E b2 l3 c4 zs) (h : ∀ (v : Int) (d : List Int) (e : Int) (b' : Option Addr) (l' c' : Nat) (E' : Mem), Mem.le E E' → Hyp (selectF a1 zs = ((v, d), e)) → Bs E' b' l' c' d → K (.tup [I v, L b' l' c', I e]) E') :
    Ent P4 8 Try.f15 [.agg [I a1, L b2 l3 c4]] E K := by
  refine same (by kernel_rfl) (?_ : bif a1 != (128 : Int) then Mem.le E E ∧ Mem.le E E ∧ K (SV.tup [SV.raw (Value.int IntKind.i64 0), SV.raw (VS none 0 0), SV.raw (Value.int IntKind.i64 1)]) E else bif bif false then true else (NI l3) != (8448 : Int) then Mem.le E E ∧ Mem.le E E ∧ K (SV.tup [SV.raw (Value.int IntKind.i64 0), SV.raw (VS none 0 0), SV.raw (Value.int IntKind.i64 1)]) E else req (l3 ≤ c4) (req ((0 : Int) ≤ (4224 : Int) ∧ (4224 : Int) ≤ (NI c4)) (∀ (base' : Option Addr) (E' : Mem), Mem.le E E' → (∀ (cs : List Value), E (VS b2 l3 c4) cs → E' (VS base' 4224 4224) (List.take 4224 (List.drop 0 cs))) → Option.isNone base' = Option.isNone b2 → req (l3 ≤ c4) (req ((0 : Int) ≤ (8448 : Int) ∧ (8448 : Int) ≤ (NI c4)) (∀ (base'_1 : Option Addr) (E'_1 : Mem), Mem.le E' E'_1 → (∀ (cs : List Value), E' (VS b2 l3 c4) cs → E'_1 (VS base'_1 4224 4224) (List.take 4224 (List.drop 4224 cs))) → Option.isNone base'_1 = Option.isNone b2 → Mem.le E E'_1 ∧ ∃ (xs : List Int), ∃ (ys : List Int), Bs E'_1 base' 4224 4224 xs ∧ 4224 = 4224 ∧ Bs E'_1 base'_1 4224 4224 ys ∧ 4224 = 4224 ∧ (∀ (E' : Mem), Mem.le E'_1 E' → Hyp (hidS xs ys = (-1 : Int)) → Mem.le E'_1 E' ∧ Mem.le E E' ∧ K (SV.tup [SV.raw (Value.int IntKind.i64 0), SV.raw (VS none 0 0), SV.raw (Value.int IntKind.i64 4)]) E') ∧ (∀ (E' : Mem), Mem.le E'_1 E' → Hyp (hidS xs ys = (0 : Int)) → Mem.le E'_1 E' ∧ ∃ (zs : List Int), Bs E' base' 4224 4224 zs ∧ 4224 = 4224 ∧ ∀ (v : Int) (d : List Int) (b' : Option Addr) (l' c' : Nat) (E'_2 : Mem), Mem.le E' E'_2 → Hyp (hidP zs = (v, d)) → Bs E'_2 b' l' c' d → Mem.le E' E'_2 ∧ bif Option.isNone b' then Mem.le E'_2 E'_2 ∧ Mem.le E E'_2 ∧ K (SV.tup [SV.raw (Value.int IntKind.i64 v), SV.raw (VS none 0 0), SV.raw (Value.int IntKind.i64 0)]) E'_2 else ∃ (cs : List Value), (cs = [] ∨ E'_2 (VS b' l' c') cs) ∧ l' * 1 ≤ List.length cs ∧ (∀ (x : Value), List.Mem x cs → Value.oneCell' x = true) ∧ 0 ≤ 0 ∧ 0 ≤ 0 ∧ 0 ≤ 0 ∧ req ((0 + l') * 1 ≤ 140737488355328) (∀ (cap' tot' : Nat), 0 + l' ≤ cap' → cap' * 1 ≤ tot' → Mem.le E'_2 E'_2 ∧ ∀ (base : Option Addr) (E' : Mem), Mem.le E'_2 E' → WinE E' base ([] ++ List.take (l' * 1) cs) → Mem.le E E' ∧ K (SV.tup [SV.raw (Value.int IntKind.i64 v), SV.raw (VS (Option.map (fun (x : Addr) => Addr.add x 0) base) ((0 : Nat) + l') cap'), SV.raw (Value.int IntKind.i64 0)]) E')) ∧ ∀ (E' : Mem), Mem.le E'_1 E' → Hyp (hidS xs ys = (1 : Int)) → Mem.le E'_1 E' ∧ ∃ (zs : List Int), Bs E' base'_1 4224 4224 zs ∧ 4224 = 4224 ∧ ∀ (v : Int) (d : List Int) (b' : Option Addr) (l' c' : Nat) (E'_2 : Mem), Mem.le E' E'_2 → Hyp (hidP zs = (v, d)) → Bs E'_2 b' l' c' d → Mem.le E' E'_2 ∧ bif Option.isNone b' then Mem.le E'_2 E'_2 ∧ Mem.le E E'_2 ∧ K (SV.tup [SV.raw (Value.int IntKind.i64 v), SV.raw (VS none 0 0), SV.raw (Value.int IntKind.i64 0)]) E'_2 else ∃ (cs : List Value), (cs = [] ∨ E'_2 (VS b' l' c') cs) ∧ l' * 1 ≤ List.length cs ∧ (∀ (x : Value), List.Mem x cs → Value.oneCell' x = true) ∧ 0 ≤ 0 ∧ 0 ≤ 0 ∧ 0 ≤ 0 ∧ req ((0 + l') * 1 ≤ 140737488355328) (∀ (cap' tot' : Nat), 0 + l' ≤ cap' → cap' * 1 ≤ tot' → Mem.le E'_2 E'_2 ∧ ∀ (base : Option Addr) (E' : Mem), Mem.le E'_2 E' → WinE E' base ([] ++ List.take (l' * 1) cs) → Mem.le E E' ∧ K (SV.tup [SV.raw (Value.int IntKind.i64 v), SV.raw (VS (Option.map (fun (x : Addr) => Addr.add x 0) base) ((0 : Nat) + l') cap'), SV.raw (Value.int IntKind.i64 0)]) E'))))))
  delta NI VS
  have hl := h0.2.1
  have hc := h0.2.2.1
  have sf : ∀ x, selectF a1 zs = x → selectF a1 zs = x := fun _ q => q
  unfold selectF at sf
  have bad : ¬ memB a1 l3 → Mem.le E E ∧ Mem.le E E ∧ K (.tup [I 0, L none 0 0, I 1]) E := fun q => ⟨Mem.le_refl _, Mem.le_refl _, h 0 [] 1 none 0 0 E (Mem.le_refl _) (by show selectF a1 zs = _; unfold selectF; rw [hl, if_pos q]) (Bs.nil _)⟩
  refine condC (fun q => bad (fun m => ?_)) (fun q => condC (fun q2 => bad (fun m => ?_)) (fun q2 => ?_))
  · have q : a1 ≠ 128 := by simpa using q
    exact q m.1
  · have q2 : l3 ≠ 8448 := by simp at q2; omega
    exact q2 m.2
  have q : a1 = 128 := by simpa using q
  have q2 : l3 = 8448 := by simp at q2; omega
  have hm : ¬ ¬ memB a1 zs.length := fun z => z ⟨q, by omega⟩
  refine req_intro hc (req_intro (by omega) (fun bA EA kA fA nA => req_intro hc (req_intro (by omega) (fun bB EB kB fB nB => ⟨Mem.le_trans kA kB, bankF zs 0, bankF zs 1, ?_, rfl, ?_, rfl, fun E1 k1 r1 => ⟨k1, Mem.le_trans kA (Mem.le_trans kB k1), ?_⟩, fun E1 k1 r1 => ?_, fun E1 k1 r1 => ?_⟩))))
  · exact (Bs.cut3 (lo := 0) (hi := 4224) h0 fA nA (by decide) (by omega)).mono kB
  · exact Bs.cut3 (lo := 4224) (hi := 8448) (h0.mono kA) fB nB (by decide) (by omega)
  · have r1 : hidS (bankF zs 0) (bankF zs 1) = -1 := r1
    rw [hidS_eq, ← selF_2] at r1
    exact h 0 [] 4 none 0 0 E1 (Mem.le_trans kA (Mem.le_trans kB k1)) (by show selectF a1 zs = _; unfold selectF; rw [if_neg hm, r1, if_pos (by decide)]) (Bs.nil _)
  · have r1 : hidS (bankF zs 0) (bankF zs 1) = 0 := r1
    rw [hidS_eq, ← selF_2] at r1
    refine ⟨k1, bankF zs 0, (Bs.cut3 (lo := 0) (hi := 4224) h0 fA nA (by decide) (by omega)).mono (Mem.le_trans kB k1), rfl, fun v d b' l' c' E2 k2 r2 B2 => ⟨k2, ?_⟩⟩
    have r2 : hidP (bankF zs 0) = (v, d) := r2
    rw [hidP_eq] at r2
    have hd : d.length ≤ 4096 := by have := progB_len (bankF zs 0); rw [r2] at this; exact this
    have kk : Mem.le E E2 := Mem.le_trans kA (Mem.le_trans kB (Mem.le_trans k1 k2))
    have hs : selectF a1 zs = ((v, d), 0) := by unfold selectF; rw [if_neg hm, r1, if_neg (by decide)]; show (progB (bankF zs 0), (0 : Int)) = _; rw [r2]
    have l2 := B2.2.1
    obtain ⟨t1, t2, t3⟩ := B2.src
    refine condC (fun w => ⟨Mem.le_refl _, kk, h v d 0 none 0 0 E2 kk hs ?_⟩) (fun w => ⟨vB d, t1, t2, t3, Nat.le_refl _, Nat.le_refl _, Nat.le_refl _, req_intro (by omega) (fun cap tot q1 q2 => ⟨Mem.le_refl _, fun base E3 k3 w3 => ⟨Mem.le_trans kk k3, h v d 0 _ _ _ E3 (Mem.le_trans kk k3) hs ?_⟩⟩)⟩)
    · have : d = [] := B2.2.2.2.2 (by cases b' with | none => rfl | some x => cases w)
      rw [this]; exact Bs.nil _
    · rw [Nat.zero_add] at q1 ⊢
      rw [List.nil_append, List.take_of_length_le (by simp [l2])] at w3
      exact Bs.win w3 rfl l2 q1 B2.2.2.2.1
  · have r1 : hidS (bankF zs 0) (bankF zs 1) = 1 := r1
    rw [hidS_eq, ← selF_2] at r1
    refine ⟨k1, bankF zs 1, (Bs.cut3 (lo := 4224) (hi := 8448) (h0.mono kA) fB nB (by decide) (by omega)).mono k1, rfl, fun v d b' l' c' E2 k2 r2 B2 => ⟨k2, ?_⟩⟩
    have r2 : hidP (bankF zs 1) = (v, d) := r2
    rw [hidP_eq] at r2
    have hd : d.length ≤ 4096 := by have := progB_len (bankF zs 1); rw [r2] at this; exact this
    have kk : Mem.le E E2 := Mem.le_trans kA (Mem.le_trans kB (Mem.le_trans k1 k2))
    have hs : selectF a1 zs = ((v, d), 0) := by unfold selectF; rw [if_neg hm, r1, if_neg (by decide)]; show (progB (bankF zs 1), (0 : Int)) = _; rw [r2]
    have l2 := B2.2.1
    obtain ⟨t1, t2, t3⟩ := B2.src
    refine condC (fun w => ⟨Mem.le_refl _, kk, h v d 0 none 0 0 E2 kk hs ?_⟩) (fun w => ⟨vB d, t1, t2, t3, Nat.le_refl _, Nat.le_refl _, Nat.le_refl _, req_intro (by omega) (fun cap tot q1 q2 => ⟨Mem.le_refl _, fun base E3 k3 w3 => ⟨Mem.le_trans kk k3, h v d 0 _ _ _ E3 (Mem.le_trans kk k3) hs ?_⟩⟩)⟩)
    · have : d = [] := B2.2.2.2.2 (by cases b' with | none => rfl | some x => cases w)
      rw [this]; exact Bs.nil _
    · rw [Nat.zero_add] at q1 ⊢
      rw [List.nil_append, List.take_of_length_le (by simp [l2])] at w3
      exact Bs.win w3 rfl l2 q1 B2.2.2.2.1
noncomputable def tabP5 : FuncId → List SV → Mem → (SV → Mem → Prop) → Prop := fun f args E K => match f with
  | 37 => d1 args fun x0 => dS x0 fun b1 l2 c3 => ∃ (zs : List Int), Bs E b1 l2 c3 zs ∧ l2 = 4224 ∧ (∀ (v : Int) (d : List Int) (b' : Option Addr) (l' c' : Nat) (E' : Mem), Mem.le E E' → Hyp (hidP zs = (v, d)) → Bs E' b' l' c' d → K (.tup [I v, L b' l' c']) E')
  | 51 => d3 args fun x0 x1 x2 => dC x0 fun l1 => d2 l1 fun x0_0 x0_1 => dI x0_0 fun a1 => dS x0_1 fun b2 l3 c4 => dI x1 fun a5 => dS x2 fun b6 l7 c8 => ∃ (zs : List Int) (ds : List Int), Bs E b2 l3 c4 zs ∧ Bs E b6 l7 c8 ds ∧ (∀ (b' : Option Addr) (l' c' : Nat) (ms : List (Int × List Int)) (e : Int) (E' : Mem), Mem.le E E' → Hyp (progF a1 zs a5 ds = (ms, e)) → FL E' b' l' c' ms → K (.tup [L b' l' c', I e]) E')
  | _ => False
theorem tabP5_ok : TabOK Try.prog tabP5 := by
  intro f args E K h
  unfold tabP5 at h
  split at h
  · replace h := d1_elim h
    obtain ⟨x0, rfl, h⟩ := h
    replace h := dS_elim h
    obtain ⟨b1, l2, c3, rfl, h⟩ := h
    obtain ⟨zs, g0, g1, h⟩ := h
    exact TabSem.congr (valL_cons rfl rfl) (Ent.sem okP1 Try.func37 ⟨by kernel_rfl, by kernel_rfl⟩ rfl (q37 g0 g1 h))
  · replace h := d3_elim h
    obtain ⟨x0, x1, x2, rfl, h⟩ := h
    replace h := dC_elim h
    obtain ⟨l1, hl1, h⟩ := h
    replace h := d2_elim h
    obtain ⟨x0_0, x0_1, rfl, h⟩ := h
    replace h := dI_elim h
    obtain ⟨a1, rfl, h⟩ := h
    replace h := dS_elim h
    obtain ⟨b2, l3, c4, rfl, h⟩ := h
    replace h := dI_elim h
    obtain ⟨a5, rfl, h⟩ := h
    replace h := dS_elim h
    obtain ⟨b6, l7, c8, rfl, h⟩ := h
    obtain ⟨zs, ds, g0, g1, h⟩ := h
    exact TabSem.congr (valL_cons (asCells_val hl1) (valL_cons rfl (valL_cons rfl rfl))) (Ent.sem okF3 Try.func51 ⟨by kernel_rfl, by kernel_rfl⟩ rfl (s14 g0 g1 h))
  · exact h.elim
noncomputable def P5 : Cx := { P := Try.prog, inl := fun f => List.contains [35, 50, 75, 76, 53] f, tab := tabP5, isB := fun _ => false, tabB := fun _ _ _ _ _ => False, opt := { unroll := 5, carry := [] }, muts := mutsD }
theorem okP5 : CxOK P5 := CxOK.four tabP5_ok (by kernel_rfl) (okInl (by kernel_rfl)) (fun _ _ _ _ _ h => h.elim)
theorem q23 {a1 : Int} {b2 : Option Addr} {l3 : Nat} {c4 : Nat} {a5 : Int} {zs : List Int} (h0 : Bs E b2 l3 c4 zs) (h : ∀ E' : Mem, Mem.le E E' → K (I (marksF a1 zs a5)) E') :
    Ent P5 8 Try.f23 [.agg [I a1, L b2 l3 c4], I a5] E K := by
  refine same (by kernel_rfl) (?_ : bif a1 != (128 : Int) then Mem.le E E ∧ Mem.le E E ∧ K (SV.raw (Value.int IntKind.i64 (-1 : Int))) E else bif bif false then true else (NI l3) != (8448 : Int) then Mem.le E E ∧ Mem.le E E ∧ K (SV.raw (Value.int IntKind.i64 (-1 : Int))) E else req (l3 ≤ c4) (req ((0 : Int) ≤ (4224 : Int) ∧ (4224 : Int) ≤ (NI c4)) (∀ (base' : Option Addr) (E' : Mem), Mem.le E E' → (∀ (cs : List Value), E (VS b2 l3 c4) cs → E' (VS base' 4224 4224) (List.take 4224 (List.drop 0 cs))) → Option.isNone base' = Option.isNone b2 → req (l3 ≤ c4) (req ((0 : Int) ≤ (8448 : Int) ∧ (8448 : Int) ≤ (NI c4)) (∀ (base'_1 : Option Addr) (E'_1 : Mem), Mem.le E' E'_1 → (∀ (cs : List Value), E' (VS b2 l3 c4) cs → E'_1 (VS base'_1 4224 4224) (List.take 4224 (List.drop 4224 cs))) → Option.isNone base'_1 = Option.isNone b2 → Mem.le E E'_1 ∧ ∃ (zs : List Int), Bs E'_1 base' 4224 4224 zs ∧ 4224 = 4224 ∧ ∀ (v : Int) (d : List Int) (b' : Option Addr) (l' c' : Nat) (E' : Mem), Mem.le E'_1 E' → Hyp (hidP zs = (v, d)) → Bs E' b' l' c' d → Mem.le E'_1 E' ∧ bif v != (0 : Int) then bif bif true then v == a5 else false then Mem.le E'_1 E' ∧ (∃ (cs : List Value), E' (VS base' 4224 4224) cs ∧ (cs = [] → False)) ∧ ∃ (n : Int), LoadE P5.P E' 5 (VS base' 4224 4224) 17 (SV.raw (U8 n)) ∧ Mem.le E' E' ∧ bif n == (0 : Int) then Mem.le E E' ∧ K (SV.raw (Value.int IntKind.i64 3)) E' else (∃ (cs : List Value), E' (VS base' 4224 4224) cs ∧ (cs = [] → False)) ∧ ∃ (n : Int), LoadE P5.P E' 5 (VS base' 4224 4224) 16 (SV.raw (U8 n)) ∧ Mem.le E' E' ∧ bif n == (0 : Int) then Mem.le E E' ∧ K (SV.raw (Value.int IntKind.i64 2)) E' else (∃ (cs : List Value), E' (VS base' 4224 4224) cs ∧ (cs = [] → False)) ∧ ∃ (n : Int), LoadE P5.P E' 5 (VS base' 4224 4224) 15 (SV.raw (U8 n)) ∧ Mem.le E' E' ∧ bif n == (0 : Int) then Mem.le E E' ∧ K (SV.raw (Value.int IntKind.i64 1)) E' else Mem.le E E' ∧ K (SV.raw (Value.int IntKind.i64 0)) E' else ∃ (zs : List Int), Bs E' base'_1 4224 4224 zs ∧ 4224 = 4224 ∧ ∀ (v : Int) (d : List Int) (b' : Option Addr) (l' c' : Nat) (E'_2 : Mem), Mem.le E' E'_2 → Hyp (hidP zs = (v, d)) → Bs E'_2 b' l' c' d → Mem.le E' E'_2 ∧ bif v != (0 : Int) then bif bif true then v == a5 else false then Mem.le E'_1 E'_2 ∧ (∃ (cs : List Value), E'_2 (VS base'_1 4224 4224) cs ∧ (cs = [] → False)) ∧ ∃ (n : Int), LoadE P5.P E'_2 5 (VS base'_1 4224 4224) 17 (SV.raw (U8 n)) ∧ Mem.le E'_2 E'_2 ∧ bif n == (0 : Int) then Mem.le E E'_2 ∧ K (SV.raw (Value.int IntKind.i64 3)) E'_2 else (∃ (cs : List Value), E'_2 (VS base'_1 4224 4224) cs ∧ (cs = [] → False)) ∧ ∃ (n : Int), LoadE P5.P E'_2 5 (VS base'_1 4224 4224) 16 (SV.raw (U8 n)) ∧ Mem.le E'_2 E'_2 ∧ bif n == (0 : Int) then Mem.le E E'_2 ∧ K (SV.raw (Value.int IntKind.i64 2)) E'_2 else (∃ (cs : List Value), E'_2 (VS base'_1 4224 4224) cs ∧ (cs = [] → False)) ∧ ∃ (n : Int), LoadE P5.P E'_2 5 (VS base'_1 4224 4224) 15 (SV.raw (U8 n)) ∧ Mem.le E'_2 E'_2 ∧ bif n == (0 : Int) then Mem.le E E'_2 ∧ K (SV.raw (Value.int IntKind.i64 1)) E'_2 else Mem.le E E'_2 ∧ K (SV.raw (Value.int IntKind.i64 0)) E'_2 else Mem.le E'_1 E'_2 ∧ Mem.le E E'_2 ∧ K (SV.raw (Value.int IntKind.i64 (-1 : Int))) E'_2 else Mem.le E'_1 E'_2 ∧ Mem.le E E'_2 ∧ K (SV.raw (Value.int IntKind.i64 (-1 : Int))) E'_2 else ∃ (zs : List Int), Bs E' base'_1 4224 4224 zs ∧ 4224 = 4224 ∧ ∀ (v : Int) (d : List Int) (b' : Option Addr) (l' c' : Nat) (E'_2 : Mem), Mem.le E' E'_2 → Hyp (hidP zs = (v, d)) → Bs E'_2 b' l' c' d → Mem.le E' E'_2 ∧ bif v != (0 : Int) then bif bif true then v == a5 else false then Mem.le E'_1 E'_2 ∧ (∃ (cs : List Value), E'_2 (VS base'_1 4224 4224) cs ∧ (cs = [] → False)) ∧ ∃ (n : Int), LoadE P5.P E'_2 5 (VS base'_1 4224 4224) 17 (SV.raw (U8 n)) ∧ Mem.le E'_2 E'_2 ∧ bif n == (0 : Int) then Mem.le E E'_2 ∧ K (SV.raw (Value.int IntKind.i64 3)) E'_2 else (∃ (cs : List Value), E'_2 (VS base'_1 4224 4224) cs ∧ (cs = [] → False)) ∧ ∃ (n : Int), LoadE P5.P E'_2 5 (VS base'_1 4224 4224) 16 (SV.raw (U8 n)) ∧ Mem.le E'_2 E'_2 ∧ bif n == (0 : Int) then Mem.le E E'_2 ∧ K (SV.raw (Value.int IntKind.i64 2)) E'_2 else (∃ (cs : List Value), E'_2 (VS base'_1 4224 4224) cs ∧ (cs = [] → False)) ∧ ∃ (n : Int), LoadE P5.P E'_2 5 (VS base'_1 4224 4224) 15 (SV.raw (U8 n)) ∧ Mem.le E'_2 E'_2 ∧ bif n == (0 : Int) then Mem.le E E'_2 ∧ K (SV.raw (Value.int IntKind.i64 1)) E'_2 else Mem.le E E'_2 ∧ K (SV.raw (Value.int IntKind.i64 0)) E'_2 else Mem.le E'_1 E'_2 ∧ Mem.le E E'_2 ∧ K (SV.raw (Value.int IntKind.i64 (-1 : Int))) E'_2 else Mem.le E'_1 E'_2 ∧ Mem.le E E'_2 ∧ K (SV.raw (Value.int IntKind.i64 (-1 : Int))) E'_2)))))
  delta NI U8 VS
  have hl := h0.2.1
  have hc := h0.2.2.1
  refine condC (fun q => ⟨Mem.le_refl _, Mem.le_refl _, by have g := h E (Mem.le_refl _); unfold marksF at g; rw [if_pos (fun m => by have := m.1; simp [this] at q)] at g; exact g⟩) (fun q => condC (fun q2 => ⟨Mem.le_refl _, Mem.le_refl _, by have g := h E (Mem.le_refl _); unfold marksF at g; rw [if_pos (fun m => by have := m.2; simp at q2; omega)] at g; exact g⟩) (fun q2 => ?_))
  have q : a1 = 128 := by simpa using q
  have q2 : l3 = 8448 := by simp at q2; omega
  have hm : ¬ ¬ memB a1 zs.length := fun z => z ⟨q, by omega⟩
  refine req_intro hc (req_intro (by omega) (fun bA EA kA fA nA => req_intro hc (req_intro (by omega) (fun bB EB kB fB nB => ⟨Mem.le_trans kA kB, ?_⟩))))
  have HA : Bs EB bA 4224 4224 (bankF zs 0) := (Bs.cut3 (lo := 0) (hi := 4224) h0 fA nA (by decide) (by omega)).mono kB
  have HB : Bs EB bB 4224 4224 (bankF zs 1) := Bs.cut3 (lo := 4224) (hi := 8448) (h0.mono kA) fB nB (by decide) (by omega)
  have kb : Mem.le E EB := Mem.le_trans kA kB
  refine ⟨bankF zs 0, HA, rfl, fun v d b' l' c' E1 k1 r1 _ => ⟨k1, ?_⟩⟩
  have r1 : hidP (bankF zs 0) = (v, d) := r1
  rw [hidP_eq] at r1
  have k0 : Mem.le E E1 := Mem.le_trans kb k1
  refine condC (fun w => condC (fun w3 => ⟨k1, ?_⟩) (fun w3 => ?_)) (fun w => ?_)
  · have w : v ≠ 0 := by simpa using w
    have w3 : v = a5 := by simpa using w3
    have fd : findF zs a5 = 0 := by unfold findF; rw [if_pos ⟨by rw [r1]; exact w, by rw [r1]; exact w3⟩]
    have mk : marksF a1 zs a5 = markB (bankF zs 0) := by unfold marksF; rw [if_neg hm, fd, if_neg (by decide)]; rfl
    unfold markB at mk
    refine ⟨(HA.mono k1).ne (i := 17) (by decide), (bankF zs 0).getD 17 0, (HA.mono k1).load rfl (i := 17) (by decide), Mem.le_refl _, condC (fun u => ⟨k0, ?_⟩) (fun u => ⟨(HA.mono k1).ne (i := 16) (by decide), (bankF zs 0).getD 16 0, (HA.mono k1).load rfl (i := 16) (by decide), Mem.le_refl _, condC (fun u2 => ⟨k0, ?_⟩) (fun u2 => ⟨(HA.mono k1).ne (i := 15) (by decide), (bankF zs 0).getD 15 0, (HA.mono k1).load rfl (i := 15) (by decide), Mem.le_refl _, condC (fun u3 => ⟨k0, ?_⟩) (fun u3 => ⟨k0, ?_⟩)⟩)⟩)⟩
    · have u : (bankF zs 0).getD 17 0 = 0 := by simpa using u
      have g := h E1 k0
      rw [mk, if_pos u] at g; exact g
    · have u : (bankF zs 0).getD 17 0 ≠ 0 := by simpa using u
      have u2 : (bankF zs 0).getD 16 0 = 0 := by simpa using u2
      have g := h E1 k0
      rw [mk, if_neg u, if_pos u2] at g; exact g
    · have u : (bankF zs 0).getD 17 0 ≠ 0 := by simpa using u
      have u2 : (bankF zs 0).getD 16 0 ≠ 0 := by simpa using u2
      have u3 : (bankF zs 0).getD 15 0 = 0 := by simpa using u3
      have g := h E1 k0
      rw [mk, if_neg u, if_neg u2, if_pos u3] at g; exact g
    · have u : (bankF zs 0).getD 17 0 ≠ 0 := by simpa using u
      have u2 : (bankF zs 0).getD 16 0 ≠ 0 := by simpa using u2
      have u3 : (bankF zs 0).getD 15 0 ≠ 0 := by simpa using u3
      have g := h E1 k0
      rw [mk, if_neg u, if_neg u2, if_neg u3] at g; exact g
  · have w3 : v ≠ a5 := by simpa using w3
    have n0 : ¬ ((progB (bankF zs 0)).1 ≠ 0 ∧ (progB (bankF zs 0)).1 = a5) := fun z => w3 (by have := z.2; rw [r1] at this; exact this)
    refine ⟨bankF zs 1, HB.mono k1, rfl, fun v2 d2 b2' l2' c2' E2 k2 r2 _ => ⟨k2, ?_⟩⟩
    have r2 : hidP (bankF zs 1) = (v2, d2) := r2
    rw [hidP_eq] at r2
    have k12 : Mem.le EB E2 := Mem.le_trans k1 k2
    have ke : Mem.le E E2 := Mem.le_trans kb k12
    refine condC (fun w2 => condC (fun w3 => ⟨k12, ?_⟩) (fun w3 => ⟨k12, ke, ?_⟩)) (fun w2 => ⟨k12, ke, ?_⟩)
    · have w2 : v2 ≠ 0 := by simpa using w2
      have w3 : v2 = a5 := by simpa using w3
      have fd : findF zs a5 = 1 := by unfold findF; rw [if_neg n0, if_pos ⟨by rw [r2]; exact w2, by rw [r2]; exact w3⟩]
      have mk : marksF a1 zs a5 = markB (bankF zs 1) := by unfold marksF; rw [if_neg hm, fd, if_neg (by decide)]; rfl
      unfold markB at mk
      refine ⟨(HB.mono k12).ne (i := 17) (by decide), (bankF zs 1).getD 17 0, (HB.mono k12).load rfl (i := 17) (by decide), Mem.le_refl _, condC (fun u => ⟨ke, ?_⟩) (fun u => ⟨(HB.mono k12).ne (i := 16) (by decide), (bankF zs 1).getD 16 0, (HB.mono k12).load rfl (i := 16) (by decide), Mem.le_refl _, condC (fun u2 => ⟨ke, ?_⟩) (fun u2 => ⟨(HB.mono k12).ne (i := 15) (by decide), (bankF zs 1).getD 15 0, (HB.mono k12).load rfl (i := 15) (by decide), Mem.le_refl _, condC (fun u3 => ⟨ke, ?_⟩) (fun u3 => ⟨ke, ?_⟩)⟩)⟩)⟩
      · have u : (bankF zs 1).getD 17 0 = 0 := by simpa using u
        have g := h E2 ke
        rw [mk, if_pos u] at g; exact g
      · have u : (bankF zs 1).getD 17 0 ≠ 0 := by simpa using u
        have u2 : (bankF zs 1).getD 16 0 = 0 := by simpa using u2
        have g := h E2 ke
        rw [mk, if_neg u, if_pos u2] at g; exact g
      · have u : (bankF zs 1).getD 17 0 ≠ 0 := by simpa using u
        have u2 : (bankF zs 1).getD 16 0 ≠ 0 := by simpa using u2
        have u3 : (bankF zs 1).getD 15 0 = 0 := by simpa using u3
        have g := h E2 ke
        rw [mk, if_neg u, if_neg u2, if_pos u3] at g; exact g
      · have u : (bankF zs 1).getD 17 0 ≠ 0 := by simpa using u
        have u2 : (bankF zs 1).getD 16 0 ≠ 0 := by simpa using u2
        have u3 : (bankF zs 1).getD 15 0 ≠ 0 := by simpa using u3
        have g := h E2 ke
        rw [mk, if_neg u, if_neg u2, if_neg u3] at g; exact g
    · have w3 : v2 ≠ a5 := by simpa using w3
      have fd : findF zs a5 = -1 := by unfold findF; rw [if_neg n0, if_neg (fun z => w3 (by have := z.2; rw [r2] at this; exact this))]
      have g := h E2 ke
      unfold marksF at g
      rw [if_neg hm, fd, if_pos (by decide)] at g; exact g
    · have w2 : v2 = 0 := by simpa using w2
      have fd : findF zs a5 = -1 := by unfold findF; rw [if_neg n0, if_neg (fun z => z.1 (by rw [r2]; exact w2))]
      have g := h E2 ke
      unfold marksF at g
      rw [if_neg hm, fd, if_pos (by decide)] at g; exact g
  · have w : v = 0 := by simpa using w
    have n0 : ¬ ((progB (bankF zs 0)).1 ≠ 0 ∧ (progB (bankF zs 0)).1 = a5) := fun z => z.1 (by rw [r1]; exact w)
    refine ⟨bankF zs 1, HB.mono k1, rfl, fun v2 d2 b2' l2' c2' E2 k2 r2 _ => ⟨k2, ?_⟩⟩
    have r2 : hidP (bankF zs 1) = (v2, d2) := r2
    rw [hidP_eq] at r2
    have k12 : Mem.le EB E2 := Mem.le_trans k1 k2
    have ke : Mem.le E E2 := Mem.le_trans kb k12
    refine condC (fun w2 => condC (fun w3 => ⟨k12, ?_⟩) (fun w3 => ⟨k12, ke, ?_⟩)) (fun w2 => ⟨k12, ke, ?_⟩)
    · have w2 : v2 ≠ 0 := by simpa using w2
      have w3 : v2 = a5 := by simpa using w3
      have fd : findF zs a5 = 1 := by unfold findF; rw [if_neg n0, if_pos ⟨by rw [r2]; exact w2, by rw [r2]; exact w3⟩]
      have mk : marksF a1 zs a5 = markB (bankF zs 1) := by unfold marksF; rw [if_neg hm, fd, if_neg (by decide)]; rfl
      unfold markB at mk
      refine ⟨(HB.mono k12).ne (i := 17) (by decide), (bankF zs 1).getD 17 0, (HB.mono k12).load rfl (i := 17) (by decide), Mem.le_refl _, condC (fun u => ⟨ke, ?_⟩) (fun u => ⟨(HB.mono k12).ne (i := 16) (by decide), (bankF zs 1).getD 16 0, (HB.mono k12).load rfl (i := 16) (by decide), Mem.le_refl _, condC (fun u2 => ⟨ke, ?_⟩) (fun u2 => ⟨(HB.mono k12).ne (i := 15) (by decide), (bankF zs 1).getD 15 0, (HB.mono k12).load rfl (i := 15) (by decide), Mem.le_refl _, condC (fun u3 => ⟨ke, ?_⟩) (fun u3 => ⟨ke, ?_⟩)⟩)⟩)⟩
      · have u : (bankF zs 1).getD 17 0 = 0 := by simpa using u
        have g := h E2 ke
        rw [mk, if_pos u] at g; exact g
      · have u : (bankF zs 1).getD 17 0 ≠ 0 := by simpa using u
        have u2 : (bankF zs 1).getD 16 0 = 0 := by simpa using u2
        have g := h E2 ke
        rw [mk, if_neg u, if_pos u2] at g; exact g
      · have u : (bankF zs 1).getD 17 0 ≠ 0 := by simpa using u
        have u2 : (bankF zs 1).getD 16 0 ≠ 0 := by simpa using u2
        have u3 : (bankF zs 1).getD 15 0 = 0 := by simpa using u3
        have g := h E2 ke
        rw [mk, if_neg u, if_neg u2, if_pos u3] at g; exact g
      · have u : (bankF zs 1).getD 17 0 ≠ 0 := by simpa using u
        have u2 : (bankF zs 1).getD 16 0 ≠ 0 := by simpa using u2
        have u3 : (bankF zs 1).getD 15 0 ≠ 0 := by simpa using u3
        have g := h E2 ke
        rw [mk, if_neg u, if_neg u2, if_neg u3] at g; exact g
    · have w3 : v2 ≠ a5 := by simpa using w3
      have fd : findF zs a5 = -1 := by unfold findF; rw [if_neg n0, if_neg (fun z => w3 (by have := z.2; rw [r2] at this; exact this))]
      have g := h E2 ke
      unfold marksF at g
      rw [if_neg hm, fd, if_pos (by decide)] at g; exact g
    · have w2 : v2 = 0 := by simpa using w2
      have fd : findF zs a5 = -1 := by unfold findF; rw [if_neg n0, if_neg (fun z => z.1 (by rw [r2]; exact w2))]
      have g := h E2 ke
      unfold marksF at g
      rw [if_neg hm, fd, if_pos (by decide)] at g; exact g
theorem q19 {a1 : Int} {b2 : Option Addr} {l3 : Nat} {c4 : Nat} {a5 : Int} {a6 : Int} {zs : List Int} (h0 : Bs E b2 l3 c4 zs) (h : ∀ (b' : Option Addr) (l' c' : Nat) (ms : List (Int × List Int)) (e : Int) (E' : Mem), Mem.le E E' → Hyp (markF a1 zs a5 a6 = (ms, e)) → FL E' b' l' c' ms → K (.tup [L b' l' c', I e]) E') :
    Ent P5 8 Try.f19 [.agg [I a1, L b2 l3 c4], I a5, I a6] E K := by
  refine same (by kernel_rfl) (?_ : bif a1 != (128 : Int) then Mem.le E E ∧ Mem.le E E ∧ K (SV.tup [SV.raw (VS none 0 0), SV.raw (Value.int IntKind.i64 1)]) E else bif bif false then true else (NI l3) != (8448 : Int) then Mem.le E E ∧ Mem.le E E ∧ K (SV.tup [SV.raw (VS none 0 0), SV.raw (Value.int IntKind.i64 1)]) E else req (l3 ≤ c4) (req ((0 : Int) ≤ (4224 : Int) ∧ (4224 : Int) ≤ (NI c4)) (∀ (base' : Option Addr) (E' : Mem), Mem.le E E' → (∀ (cs : List Value), E (VS b2 l3 c4) cs → E' (VS base' 4224 4224) (List.take 4224 (List.drop 0 cs))) → Option.isNone base' = Option.isNone b2 → req (l3 ≤ c4) (req ((0 : Int) ≤ (8448 : Int) ∧ (8448 : Int) ≤ (NI c4)) (∀ (base'_1 : Option Addr) (E'_1 : Mem), Mem.le E' E'_1 → (∀ (cs : List Value), E' (VS b2 l3 c4) cs → E'_1 (VS base'_1 4224 4224) (List.take 4224 (List.drop 4224 cs))) → Option.isNone base'_1 = Option.isNone b2 → Mem.le E E'_1 ∧ bif bif false then true else decide (a6 < (1 : Int)) then Mem.le E E'_1 ∧ K (SV.tup [SV.raw (VS none 0 0), SV.raw (Value.int IntKind.i64 1)]) E'_1 else bif bif false then true else decide (a6 > (3 : Int)) then Mem.le E E'_1 ∧ K (SV.tup [SV.raw (VS none 0 0), SV.raw (Value.int IntKind.i64 1)]) E'_1 else ∃ (zs : List Int), Bs E'_1 base' 4224 4224 zs ∧ 4224 = 4224 ∧ ∀ (v : Int) (d : List Int) (b' : Option Addr) (l' c' : Nat) (E' : Mem), Mem.le E'_1 E' → Hyp (hidP zs = (v, d)) → Bs E' b' l' c' d → Mem.le E'_1 E' ∧ bif v != (0 : Int) then bif bif true then v == a5 else false then Mem.le E'_1 E' ∧ ∀ (base : Option Addr) (E'_2 : Mem), Mem.le E' E'_2 → WinE E'_2 base [U8 0] → ∃ (zs : List Int), ∃ (ds : List Int), Bs E'_2 b2 l3 c4 zs ∧ Bs E'_2 (Option.map (fun (x : Addr) => Addr.add x 0) base) 1 1 ds ∧ ∀ (b' : Option Addr) (l' c' : Nat) (ms : List (Int × List Int)) (e : Int) (E' : Mem), Mem.le E'_2 E' → Hyp (progF a1 zs (WI ((14 : Int) + a6)) ds = (ms, e)) → FL E' b' l' c' ms → Mem.le E E' ∧ K (SV.tup [SV.raw (VS b' l' c'), SV.raw (Value.int IntKind.i64 e)]) E' else ∃ (zs : List Int), Bs E' base'_1 4224 4224 zs ∧ 4224 = 4224 ∧ ∀ (v : Int) (d : List Int) (b' : Option Addr) (l' c' : Nat) (E'_2 : Mem), Mem.le E' E'_2 → Hyp (hidP zs = (v, d)) → Bs E'_2 b' l' c' d → Mem.le E' E'_2 ∧ bif v != (0 : Int) then bif bif true then v == a5 else false then Mem.le E'_1 E'_2 ∧ ∀ (base : Option Addr) (E' : Mem), Mem.le E'_2 E' → WinE E' base [U8 0] → ∃ (zs : List Int), ∃ (ds : List Int), Bs E' b2 l3 c4 zs ∧ Bs E' (Option.map (fun (x : Addr) => Addr.add x 0) base) 1 1 ds ∧ ∀ (b' : Option Addr) (l' c' : Nat) (ms : List (Int × List Int)) (e : Int) (E'_3 : Mem), Mem.le E' E'_3 → Hyp (progF a1 zs (WI ((4238 : Int) + a6)) ds = (ms, e)) → FL E'_3 b' l' c' ms → Mem.le E E'_3 ∧ K (SV.tup [SV.raw (VS b' l' c'), SV.raw (Value.int IntKind.i64 e)]) E'_3 else Mem.le E'_1 E'_2 ∧ Mem.le E E'_2 ∧ K (SV.tup [SV.raw (VS none 0 0), SV.raw (Value.int IntKind.i64 4)]) E'_2 else Mem.le E'_1 E'_2 ∧ Mem.le E E'_2 ∧ K (SV.tup [SV.raw (VS none 0 0), SV.raw (Value.int IntKind.i64 4)]) E'_2 else ∃ (zs : List Int), Bs E' base'_1 4224 4224 zs ∧ 4224 = 4224 ∧ ∀ (v : Int) (d : List Int) (b' : Option Addr) (l' c' : Nat) (E'_2 : Mem), Mem.le E' E'_2 → Hyp (hidP zs = (v, d)) → Bs E'_2 b' l' c' d → Mem.le E' E'_2 ∧ bif v != (0 : Int) then bif bif true then v == a5 else false then Mem.le E'_1 E'_2 ∧ ∀ (base : Option Addr) (E' : Mem), Mem.le E'_2 E' → WinE E' base [U8 0] → ∃ (zs : List Int), ∃ (ds : List Int), Bs E' b2 l3 c4 zs ∧ Bs E' (Option.map (fun (x : Addr) => Addr.add x 0) base) 1 1 ds ∧ ∀ (b' : Option Addr) (l' c' : Nat) (ms : List (Int × List Int)) (e : Int) (E'_3 : Mem), Mem.le E' E'_3 → Hyp (progF a1 zs (WI ((4238 : Int) + a6)) ds = (ms, e)) → FL E'_3 b' l' c' ms → Mem.le E E'_3 ∧ K (SV.tup [SV.raw (VS b' l' c'), SV.raw (Value.int IntKind.i64 e)]) E'_3 else Mem.le E'_1 E'_2 ∧ Mem.le E E'_2 ∧ K (SV.tup [SV.raw (VS none 0 0), SV.raw (Value.int IntKind.i64 4)]) E'_2 else Mem.le E'_1 E'_2 ∧ Mem.le E E'_2 ∧ K (SV.tup [SV.raw (VS none 0 0), SV.raw (Value.int IntKind.i64 4)]) E'_2)))))
  delta WI NI U8 VS
  have hl := h0.2.1
  have hc := h0.2.2.1
  refine condC (fun q => ⟨Mem.le_refl _, Mem.le_refl _, h none 0 0 [] 1 E (Mem.le_refl _) (by show markF a1 zs a5 a6 = _; unfold markF; rw [if_pos (.inl (fun m => by have := m.1; simp [this] at q))]) (FL.nil _)⟩) (fun q => condC (fun q2 => ⟨Mem.le_refl _, Mem.le_refl _, h none 0 0 [] 1 E (Mem.le_refl _) (by show markF a1 zs a5 a6 = _; unfold markF; rw [if_pos (.inl (fun m => by have := m.2; simp at q2; omega))]) (FL.nil _)⟩) (fun q2 => ?_))
  have q : a1 = 128 := by simpa using q
  have q2 : l3 = 8448 := by simp at q2; omega
  have hm : ¬ ¬ memB a1 zs.length := fun z => z ⟨q, by omega⟩
  refine req_intro hc (req_intro (by omega) (fun bA EA kA fA nA => req_intro hc (req_intro (by omega) (fun bB EB kB fB nB => ⟨Mem.le_trans kA kB, ?_⟩))))
  have HA : Bs EB bA 4224 4224 (bankF zs 0) := (Bs.cut3 (lo := 0) (hi := 4224) h0 fA nA (by decide) (by omega)).mono kB
  have HB : Bs EB bB 4224 4224 (bankF zs 1) := Bs.cut3 (lo := 4224) (hi := 8448) (h0.mono kA) fB nB (by decide) (by omega)
  have kb : Mem.le E EB := Mem.le_trans kA kB
  refine condC (fun g => ⟨kb, h none 0 0 [] 1 EB kb ?_ (FL.nil _)⟩) (fun g => condC (fun g2 => ⟨kb, h none 0 0 [] 1 EB kb ?_ (FL.nil _)⟩) (fun g2 => ?_))
  · have g : a6 < 1 := by simpa using g
    show markF a1 zs a5 a6 = _
    unfold markF; rw [if_pos (.inr (.inl g))]
  · have g2 : a6 > 3 := by simpa using g2
    show markF a1 zs a5 a6 = _
    unfold markF; rw [if_pos (.inr (.inr g2))]
  have g : ¬ a6 < 1 := by simpa using g
  have g2 : ¬ a6 > 3 := by simpa using g2
  refine ⟨bankF zs 0, HA, rfl, fun v d b' l' c' E1 k1 r1 _ => ⟨k1, ?_⟩⟩
  have r1 : hidP (bankF zs 0) = (v, d) := r1
  rw [hidP_eq] at r1
  have k0 : Mem.le E E1 := Mem.le_trans kb k1
  refine condC (fun w => condC (fun w3 => ⟨k1, ?_⟩) (fun w3 => ?_)) (fun w => ?_)
  · have w : v ≠ 0 := by simpa using w
    have w3 : v = a5 := by simpa using w3
    have fd : findF zs a5 = 0 := by unfold findF; rw [if_pos ⟨by rw [r1]; exact w, by rw [r1]; exact w3⟩]
    refine fun base E3 k3 w3 => ⟨zs, [0], h0.mono (Mem.le_trans k0 k3), Bs.win (zs := [0]) w3 rfl rfl (Nat.le_refl _) (by simp), fun bb ll cc ms e E4 k4 r4 F4 => ⟨Mem.le_trans k0 (Mem.le_trans k3 k4), h bb ll cc ms e E4 (Mem.le_trans k0 (Mem.le_trans k3 k4)) ?_ F4⟩⟩
    have r4 : progF a1 zs (IntKind.wrap .i64 (14 + a6)) [0] = (ms, e) := r4
    rw [wrap_i64 (x := 14 + a6) (by omega)] at r4
    show markF a1 zs a5 a6 = _
    unfold markF
    rw [if_neg (by rintro (z | z | z); exact hm z; omega; omega), fd, if_neg (by decide), ← r4]
    congr 1
  · have w3 : v ≠ a5 := by simpa using w3
    have n0 : ¬ ((progB (bankF zs 0)).1 ≠ 0 ∧ (progB (bankF zs 0)).1 = a5) := fun z => w3 (by have := z.2; rw [r1] at this; exact this)
    refine ⟨bankF zs 1, HB.mono k1, rfl, fun v2 d2 b2' l2' c2' E2 k2 r2 _ => ⟨k2, ?_⟩⟩
    have r2 : hidP (bankF zs 1) = (v2, d2) := r2
    rw [hidP_eq] at r2
    have k12 : Mem.le EB E2 := Mem.le_trans k1 k2
    have ke : Mem.le E E2 := Mem.le_trans kb k12
    refine condC (fun w2 => condC (fun w3 => ⟨k12, ?_⟩) (fun w3 => ⟨k12, ke, ?_⟩)) (fun w2 => ⟨k12, ke, ?_⟩)
    · have w2 : v2 ≠ 0 := by simpa using w2
      have w3 : v2 = a5 := by simpa using w3
      have fd : findF zs a5 = 1 := by unfold findF; rw [if_neg n0, if_pos ⟨by rw [r2]; exact w2, by rw [r2]; exact w3⟩]
      refine fun base E3 k3 w3 => ⟨zs, [0], h0.mono (Mem.le_trans ke k3), Bs.win (zs := [0]) w3 rfl rfl (Nat.le_refl _) (by simp), fun bb ll cc ms e E4 k4 r4 F4 => ⟨Mem.le_trans ke (Mem.le_trans k3 k4), h bb ll cc ms e E4 (Mem.le_trans ke (Mem.le_trans k3 k4)) ?_ F4⟩⟩
      have r4 : progF a1 zs (IntKind.wrap .i64 (4238 + a6)) [0] = (ms, e) := r4
      rw [wrap_i64 (x := 4238 + a6) (by omega)] at r4
      show markF a1 zs a5 a6 = _
      unfold markF
      rw [if_neg (by rintro (z | z | z); exact hm z; omega; omega), fd, if_neg (by decide), ← r4]
      congr 1
    · have w3 : v2 ≠ a5 := by simpa using w3
      have fd : findF zs a5 = -1 := by unfold findF; rw [if_neg n0, if_neg (fun z => w3 (by have := z.2; rw [r2] at this; exact this))]
      refine h none 0 0 [] 4 E2 ke ?_ (FL.nil _)
      show markF a1 zs a5 a6 = _
      unfold markF
      rw [if_neg (by rintro (z | z | z); exact hm z; omega; omega), fd, if_pos (by decide)]
    · have w2 : v2 = 0 := by simpa using w2
      have fd : findF zs a5 = -1 := by unfold findF; rw [if_neg n0, if_neg (fun z => z.1 (by rw [r2]; exact w2))]
      refine h none 0 0 [] 4 E2 ke ?_ (FL.nil _)
      show markF a1 zs a5 a6 = _
      unfold markF
      rw [if_neg (by rintro (z | z | z); exact hm z; omega; omega), fd, if_pos (by decide)]
  · have w : v = 0 := by simpa using w
    have n0 : ¬ ((progB (bankF zs 0)).1 ≠ 0 ∧ (progB (bankF zs 0)).1 = a5) := fun z => z.1 (by rw [r1]; exact w)
    refine ⟨bankF zs 1, HB.mono k1, rfl, fun v2 d2 b2' l2' c2' E2 k2 r2 _ => ⟨k2, ?_⟩⟩
    have r2 : hidP (bankF zs 1) = (v2, d2) := r2
    rw [hidP_eq] at r2
    have k12 : Mem.le EB E2 := Mem.le_trans k1 k2
    have ke : Mem.le E E2 := Mem.le_trans kb k12
    refine condC (fun w2 => condC (fun w3 => ⟨k12, ?_⟩) (fun w3 => ⟨k12, ke, ?_⟩)) (fun w2 => ⟨k12, ke, ?_⟩)
    · have w2 : v2 ≠ 0 := by simpa using w2
      have w3 : v2 = a5 := by simpa using w3
      have fd : findF zs a5 = 1 := by unfold findF; rw [if_neg n0, if_pos ⟨by rw [r2]; exact w2, by rw [r2]; exact w3⟩]
      refine fun base E3 k3 w3 => ⟨zs, [0], h0.mono (Mem.le_trans ke k3), Bs.win (zs := [0]) w3 rfl rfl (Nat.le_refl _) (by simp), fun bb ll cc ms e E4 k4 r4 F4 => ⟨Mem.le_trans ke (Mem.le_trans k3 k4), h bb ll cc ms e E4 (Mem.le_trans ke (Mem.le_trans k3 k4)) ?_ F4⟩⟩
      have r4 : progF a1 zs (IntKind.wrap .i64 (4238 + a6)) [0] = (ms, e) := r4
      rw [wrap_i64 (x := 4238 + a6) (by omega)] at r4
      show markF a1 zs a5 a6 = _
      unfold markF
      rw [if_neg (by rintro (z | z | z); exact hm z; omega; omega), fd, if_neg (by decide), ← r4]
      congr 1
    · have w3 : v2 ≠ a5 := by simpa using w3
      have fd : findF zs a5 = -1 := by unfold findF; rw [if_neg n0, if_neg (fun z => w3 (by have := z.2; rw [r2] at this; exact this))]
      refine h none 0 0 [] 4 E2 ke ?_ (FL.nil _)
      show markF a1 zs a5 a6 = _
      unfold markF
      rw [if_neg (by rintro (z | z | z); exact hm z; omega; omega), fd, if_pos (by decide)]
    · have w2 : v2 = 0 := by simpa using w2
      have fd : findF zs a5 = -1 := by unfold findF; rw [if_neg n0, if_neg (fun z => z.1 (by rw [r2]; exact w2))]
      refine h none 0 0 [] 4 E2 ke ?_ (FL.nil _)
      show markF a1 zs a5 a6 = _
      unfold markF
      rw [if_neg (by rintro (z | z | z); exact hm z; omega; omega), fd, if_pos (by decide)]
theorem n26 {a1 a2 : Int} {KK : KT} (herr : ∀ bx : List Box, (newF a1 a2).2 ≠ 0 → KK (.tup [.agg [I 0, L none 0 0], I 1]) bx E)
    (hok : ∀ (n tot : Nat) (zs : List Int), newF a1 a2 = ((a1, List.replicate n 255), 0) → n ≤ 16384 → n ≤ zs.length → zs.take n = List.replicate n 255 → KK (.tup [.agg [I a1, .slc 2 0 n n], I 0]) [⟨24, .lst [I a1, .slc 2 0 n n], 2, true⟩, ⟨5, .lst [.raw (.int .u8 255)], 1, true⟩, ⟨5, .vals (vB zs), tot, true⟩] E) : EntB F8 8 Try.f30 [I a1, I a2] [] E KK := by
  refine same (by kernel_rfl) (?_ : bif decide (a1 < (1 : Int)) then KK (SV.tup [SV.agg [SV.raw (Value.int IntKind.i64 0), SV.raw (VS none 0 0)], SV.raw (Value.int IntKind.i64 1)]) [{ elem := 24, row := Row.lst [SV.raw (Value.int IntKind.i64 0), SV.raw (VS none 0 0)], total := 2, own := true : Box }] E else bif bif false then true else decide (a1 > (1024 : Int)) then KK (SV.tup [SV.agg [SV.raw (Value.int IntKind.i64 0), SV.raw (VS none 0 0)], SV.raw (Value.int IntKind.i64 1)]) [{ elem := 24, row := Row.lst [SV.raw (Value.int IntKind.i64 0), SV.raw (VS none 0 0)], total := 2, own := true : Box }] E else bif bif false then true else decide (a2 < (1 : Int)) then KK (SV.tup [SV.agg [SV.raw (Value.int IntKind.i64 0), SV.raw (VS none 0 0)], SV.raw (Value.int IntKind.i64 1)]) [{ elem := 24, row := Row.lst [SV.raw (Value.int IntKind.i64 0), SV.raw (VS none 0 0)], total := 2, own := true : Box }] E else (a1 = (0 : Int) → False) ∧ bif bif false then true else decide (a2 > WI (Int.tdiv 16384 a1)) then KK (SV.tup [SV.agg [SV.raw (Value.int IntKind.i64 0), SV.raw (VS none 0 0)], SV.raw (Value.int IntKind.i64 1)]) [{ elem := 24, row := Row.lst [SV.raw (Value.int IntKind.i64 0), SV.raw (VS none 0 0)], total := 2, own := true : Box }] E else 54 = 54 ∧ ∃ (n : Nat), [SV.slc 1 0 1 1, SV.raw (Value.int IntKind.i64 (WI (a1 * a2)))] = [SV.slc 1 0 1 1, SV.raw (Value.int IntKind.i64 (NI n))] ∧ [{ elem := 24, row := Row.lst [SV.raw (Value.int IntKind.i64 0), SV.raw (VS none 0 0)], total := 2, own := true : Box }, { elem := 5, row := Row.lst [SV.raw (U8 255)], total := 1, own := true : Box }] = [{ elem := 24, row := Row.lst [SV.raw (Value.int IntKind.i64 0), SV.raw (VS none 0 0)], total := 2, own := true : Box }, { elem := 5, row := Row.lst [SV.raw (U8 255)], total := 1, own := true : Box }] ∧ (1 ≤ n ∧ n ≤ 16384) ∧ ∀ (tot : Nat) (zs : List Int), n ≤ List.length zs → List.take n zs = List.replicate n (255 : Int) → KK (SV.tup [SV.agg [SV.raw (Value.int IntKind.i64 a1), SV.slc 2 0 n n], SV.raw (Value.int IntKind.i64 0)]) [{ elem := 24, row := Row.lst [SV.raw (Value.int IntKind.i64 a1), SV.slc 2 0 n n], total := 2, own := true : Box }, { elem := 5, row := Row.lst [SV.raw (U8 255)], total := 1, own := true : Box }, { elem := 5, row := Row.vals (vB zs), total := tot, own := true : Box }] E)
  delta WI NI U8 VS
  have bad : (a1 < 1 ∨ a1 > 1024 ∨ a2 < 1 ∨ a2 > 16384 / a1) → (newF a1 a2).2 ≠ 0 := fun hb => by unfold newF; rw [if_pos hb]; decide
  refine condC (fun g => herr _ (bad (.inl (by simpa using g)))) (fun g1 => ?_)
  refine condC (fun g => herr _ (bad (.inr (.inl (by simpa using g))))) (fun g2 => ?_)
  refine condC (fun g => herr _ (bad (.inr (.inr (.inl (by simpa using g)))))) (fun g3 => ?_)
  have g1 : 1 ≤ a1 := by simpa using g1
  have g2 : a1 ≤ 1024 := by simpa using g2
  have g3 : 1 ≤ a2 := by simpa using g3
  have hdv : Int.tdiv 16384 a1 = 16384 / a1 := Int.tdiv_eq_ediv_of_nonneg (by omega)
  have hd1 : 16384 / a1 ≤ 16384 := Int.ediv_le_self _ (by omega)
  have hd0 : 0 ≤ 16384 / a1 := Int.ediv_nonneg (by omega) (by omega)
  rw [hdv, wrap_i64 (x := 16384 / a1) (by omega)]
  refine ⟨by omega, condC (fun g => herr _ (bad (.inr (.inr (.inr (by simpa using g)))))) (fun g4 => ?_)⟩
  have g4 : a2 ≤ 16384 / a1 := by simpa using g4
  have h8 : a1 * a2 ≤ 16384 := by
    have := Int.mul_le_mul_of_nonneg_right g4 (show 0 ≤ a1 by omega)
    have h2 := Int.ediv_mul_le 16384 (show a1 ≠ 0 by omega)
    rw [Int.mul_comm a1 a2]; omega
  have h9 : 1 ≤ a1 * a2 := by
    have := Int.mul_le_mul_of_nonneg_right g1 (show 0 ≤ a2 by omega)
    omega
  obtain ⟨n, hn⟩ : ∃ n : Nat, a1 * a2 = n := ⟨(a1 * a2).toNat, by omega⟩
  have eN : newF a1 a2 = ((a1, List.replicate n 255), 0) := by unfold newF; rw [if_neg (by omega), hn, Int.toNat_natCast]
  rw [hn] at h8 h9
  rw [hn, wrap_i64 (x := (n : Int)) (by omega)]
  exact ⟨rfl, n, rfl, rfl, ⟨by omega, by omega⟩, fun tot zs hz ht => hok n tot zs eN (by omega) hz ht⟩
theorem n27r {KK : KT} {a1 a2 : Int} {i cap tot n : Nat} (hn : a1 * a2 = n) (h8 : n ≤ 16384) (hi : i ≤ n) (hc : i ≤ cap ∧ cap * 1 ≤ tot)
    (hK : ∀ (cap tot : Nat), n ≤ cap → KK (.tup [.agg [I a1, .slc 2 0 n cap], I 0]) [⟨24, .lst [I a1, .slc 2 0 n cap], 2, true⟩, ⟨24, .lst [I a1, .slc 2 0 n cap], 2, true⟩, ⟨5, .vals (vB (List.replicate n 255)), tot, true⟩] E)
    (ih : ∀ cap' tot' : Nat, i < n → i + 1 ≤ cap' ∧ cap' * 1 ≤ tot' → Lp F9 8 Try.f33 [1, 1, 1, 0, 1, 0] 0 KK (sh12 a1 a2 (i + 1) cap' tot' E)) : Rnd F9 8 Try.f33 [1, 1, 1, 0, 1, 0] 0 KK (sh12 a1 a2 i cap tot E) := by
  refine same (by kernel_rfl) (?_ : bif decide ((NI i) < WI (a1 * a2)) then i * 1 ≤ List.length (Row.cells (Row.vals (vB (List.replicate i 255)))) ∧ cap * 1 ≤ tot ∧ i ≤ cap ∧ req ((i + 1) * 1 ≤ 140737488355328) (∀ (cap' tot' : Nat), i + 1 ≤ cap' → cap' * 1 ≤ tot' → Lp F9 8 Try.f33 [1, 1, 1, 0, 1, 0] 0 KK { fr := some (I a1) :: some (I a2) :: none :: none :: some (SV.loc 0 0) :: some (I 0) :: some (SV.loc 1 0) :: some (I (WI ((NI i) + (1 : Int)))) :: n32 [], bx := [⟨24, .lst [I 0, L none 0 0], 2, true⟩, ⟨24, .lst [I a1, SV.slc 4 0 (i + 1) cap'], 2, true⟩, ⟨5, .lst [], 0, false⟩, ⟨5, .lst [SV.raw (U8 255)], 1, true⟩, ⟨5, .vals (List.take (i * 1) (vB (List.replicate i 255)) ++ [U8 255]), tot', true⟩], E := E : St }) else KK (SV.tup [SV.agg [SV.raw (Value.int IntKind.i64 a1), SV.slc 2 0 i cap], SV.raw (Value.int IntKind.i64 0)]) [{ elem := 24, row := Row.lst [SV.raw (Value.int IntKind.i64 a1), SV.slc 2 0 i cap], total := 2, own := true : Box }, { elem := 24, row := Row.lst [SV.raw (Value.int IntKind.i64 a1), SV.slc 2 0 i cap], total := 2, own := true : Box }, { elem := 5, row := Row.vals (vB (List.replicate i 255)), total := tot, own := true : Box }] E)
  delta WI NI U8 n32
  rw [hn, wrap_i64 (x := (n : Int)) (by omega), wrap_i64 (x := (i : Int) + 1) (by omega)]
  refine condC (fun g => ?_) (fun g => ?_)
  · have g : i < n := by simpa using g
    refine ⟨by simp [Row.cells], hc.2, hc.1, req_intro (by omega) (fun cap' tot' c1 c2 => ?_)⟩
    have e : List.take (i * 1) (vB (List.replicate i 255)) ++ [Value.int IntKind.u8 255] = vB (List.replicate (i + 1) 255) := by
      rw [List.take_of_length_le (by simp), List.replicate_succ', vB, vB, List.map_append]; rfl
    rw [e, show (i : Int) + 1 = ((i + 1 : Nat) : Int) by simp]
    exact Lp_re [some 0, some 1, some 4] (ih cap' tot' g ⟨c1, c2⟩) (wkG (Mem.le_refl _))
  · have g : i = n := by simp at g; omega
    subst g
    exact hK cap tot hc.1
theorem n27l {KK : KT} {a1 a2 : Int} {i cap tot n : Nat} (hn : a1 * a2 = n) (h8 : n ≤ 16384) (hi : i ≤ n) (hc : i ≤ cap ∧ cap * 1 ≤ tot) (hK : ∀ (cap tot : Nat), n ≤ cap → KK (.tup [.agg [I a1, .slc 2 0 n cap], I 0]) [⟨24, .lst [I a1, .slc 2 0 n cap], 2, true⟩, ⟨24, .lst [I a1, .slc 2 0 n cap], 2, true⟩, ⟨5, .vals (vB (List.replicate n 255)), tot, true⟩] E) : Lp F9 8 Try.f33 [1, 1, 1, 0, 1, 0] 0 KK (sh12 a1 a2 i cap tot E) :=
  Lp_ind okF9 (fun x : {x : Nat × Nat × Nat // x.1 ≤ n ∧ x.1 ≤ x.2.1 ∧ x.2.1 * 1 ≤ x.2.2} => sh12 a1 a2 x.1.1 x.1.2.1 x.1.2.2 E) (fun x => n - x.1.1)
    (fun x ih => n27r hn h8 x.2.1 x.2.2 hK fun cap' tot' g hc => ih ⟨(x.1.1 + 1, cap', tot'), by omega, hc.1, hc.2⟩ (by show n - (_ + 1) < n - _; omega)) ⟨(i, cap, tot), hi, hc.1, hc.2⟩
theorem n27a {KK : KT} {a1 a2 : Int} {n : Nat} (hn : a1 * a2 = n) (h8 : n ≤ 16384) (h9 : 1 ≤ n) (hK : ∀ (cap tot : Nat), n ≤ cap → KK (.tup [.agg [I a1, .slc 2 0 n cap], I 0]) [⟨24, .lst [I a1, .slc 2 0 n cap], 2, true⟩, ⟨24, .lst [I a1, .slc 2 0 n cap], 2, true⟩, ⟨5, .vals (vB (List.replicate n 255)), tot, true⟩] E) : Rnd F9 8 Try.f33 [1, 1, 1, 0, 1, 0] 0 KK (sh12a a1 a2 0 E) := by
  refine same (by kernel_rfl) (?_ : bif decide ((0 : Int) < WI (a1 * a2)) then ∀ (cap' tot' : Nat), 1 ≤ cap' → cap' * 1 ≤ tot' → Lp F9 8 Try.f33 [1, 1, 1, 0, 1, 0] 0 KK { fr := some (I a1) :: some (I a2) :: none :: none :: some (SV.loc 0 0) :: some (I 0) :: some (SV.loc 1 0) :: some (I 1) :: n32 [], bx := [⟨24, .lst [I 0, L none 0 0], 2, true⟩, ⟨24, .lst [I a1, SV.slc 3 0 1 cap'], 2, true⟩, ⟨5, .lst [SV.raw (U8 255)], 1, true⟩, ⟨5, .lst [SV.raw (U8 255)], tot', true⟩], E := E : St } else KK (SV.tup [SV.agg [SV.raw (Value.int IntKind.i64 a1), SV.raw (VS none 0 0)], SV.raw (Value.int IntKind.i64 0)]) [{ elem := 24, row := Row.lst [SV.raw (Value.int IntKind.i64 a1), SV.raw (VS none 0 0)], total := 2, own := true : Box }, { elem := 24, row := Row.lst [SV.raw (Value.int IntKind.i64 a1), SV.raw (VS none 0 0)], total := 2, own := true : Box }] E)
  delta WI U8 VS n32
  rw [hn, wrap_i64 (x := (n : Int)) (by omega)]
  refine condC (fun g => fun cap' tot' c1 c2 => ?_) (fun g => absurd g (by simp; omega))
  exact Lp_re [some 0, some 1, some 3] (n27l (i := 1) hn h8 h9 ⟨c1, c2⟩ hK) (wkG (Mem.le_refl _))
theorem n27 {a1 a2 : Int} {KK : KT} (herr : ∀ bx : List Box, (newF a1 a2).2 ≠ 0 → KK (.tup [.agg [I 0, L none 0 0], I 1]) bx E)
    (hok : ∀ (n cap tot : Nat), newF a1 a2 = ((a1, List.replicate n 255), 0) → n ≤ 16384 → n ≤ cap → KK (.tup [.agg [I a1, .slc 2 0 n cap], I 0]) [⟨24, .lst [I a1, .slc 2 0 n cap], 2, true⟩, ⟨24, .lst [I a1, .slc 2 0 n cap], 2, true⟩, ⟨5, .vals (vB (List.replicate n 255)), tot, true⟩] E) : EntB F9 8 Try.f33 [I a1, I a2] [] E KK := by
  refine same (by kernel_rfl) (?_ : bif decide (a1 < (1 : Int)) then KK (SV.tup [SV.agg [SV.raw (Value.int IntKind.i64 0), SV.raw (VS none 0 0)], SV.raw (Value.int IntKind.i64 1)]) [{ elem := 24, row := Row.lst [SV.raw (Value.int IntKind.i64 0), SV.raw (VS none 0 0)], total := 2, own := true : Box }] E else bif bif false then true else decide (a1 > (1024 : Int)) then KK (SV.tup [SV.agg [SV.raw (Value.int IntKind.i64 0), SV.raw (VS none 0 0)], SV.raw (Value.int IntKind.i64 1)]) [{ elem := 24, row := Row.lst [SV.raw (Value.int IntKind.i64 0), SV.raw (VS none 0 0)], total := 2, own := true : Box }] E else bif bif false then true else decide (a2 < (1 : Int)) then KK (SV.tup [SV.agg [SV.raw (Value.int IntKind.i64 0), SV.raw (VS none 0 0)], SV.raw (Value.int IntKind.i64 1)]) [{ elem := 24, row := Row.lst [SV.raw (Value.int IntKind.i64 0), SV.raw (VS none 0 0)], total := 2, own := true : Box }] E else (a1 = (0 : Int) → False) ∧ bif bif false then true else decide (a2 > WI (Int.tdiv 16384 a1)) then KK (SV.tup [SV.agg [SV.raw (Value.int IntKind.i64 0), SV.raw (VS none 0 0)], SV.raw (Value.int IntKind.i64 1)]) [{ elem := 24, row := Row.lst [SV.raw (Value.int IntKind.i64 0), SV.raw (VS none 0 0)], total := 2, own := true : Box }] E else Lp F9 8 Try.f33 [1, 1, 1, 0, 1, 0] 0 KK { fr := some (I a1) :: some (I a2) :: none :: none :: some (SV.loc 0 0) :: some (I 0) :: some (SV.loc 1 0) :: some (I 0) :: some (I a1) :: some (B (decide (a1 < (1 : Int)))) :: some (B false) :: some (I a1) :: some (B (decide (a1 > (1024 : Int)))) :: some (B (bif false then true else decide (a1 > (1024 : Int)))) :: some (B false) :: some (I a2) :: some (B (decide (a2 < (1 : Int)))) :: some (B (bif false then true else decide (a2 < (1 : Int)))) :: some (B false) :: some (I a2) :: some (I a1) :: some (I (WI (Int.tdiv 16384 a1))) :: some (B (decide (a2 > WI (Int.tdiv 16384 a1)))) :: some (B (bif false then true else decide (a2 > WI (Int.tdiv 16384 a1)))) :: none :: some (I a1) :: some (SV.agg [I a1, L none 0 0]) :: n8 (n4 (none :: [])), bx := [⟨24, .lst [I 0, L none 0 0], 2, true⟩, ⟨24, .lst [I a1, L none 0 0], 2, true⟩], E := E : St })
  delta WI VS n4 n8
  have bad : (a1 < 1 ∨ a1 > 1024 ∨ a2 < 1 ∨ a2 > 16384 / a1) → (newF a1 a2).2 ≠ 0 := fun hb => by unfold newF; rw [if_pos hb]; decide
  refine condC (fun g => herr _ (bad (.inl (by simpa using g)))) (fun g1 => ?_)
  refine condC (fun g => herr _ (bad (.inr (.inl (by simpa using g))))) (fun g2 => ?_)
  refine condC (fun g => herr _ (bad (.inr (.inr (.inl (by simpa using g)))))) (fun g3 => ?_)
  have g1 : 1 ≤ a1 := by simpa using g1
  have g2 : a1 ≤ 1024 := by simpa using g2
  have g3 : 1 ≤ a2 := by simpa using g3
  have hdv : Int.tdiv 16384 a1 = 16384 / a1 := Int.tdiv_eq_ediv_of_nonneg (by omega)
  have hd1 : 16384 / a1 ≤ 16384 := Int.ediv_le_self _ (by omega)
  have hd0 : 0 ≤ 16384 / a1 := Int.ediv_nonneg (by omega) (by omega)
  rw [hdv, wrap_i64 (x := 16384 / a1) (by omega)]
  refine ⟨by omega, condC (fun g => herr _ (bad (.inr (.inr (.inr (by simpa using g)))))) (fun g4 => ?_)⟩
  have g4 : a2 ≤ 16384 / a1 := by simpa using g4
  have h8 : a1 * a2 ≤ 16384 := by
    have := Int.mul_le_mul_of_nonneg_right g4 (show 0 ≤ a1 by omega)
    have h2 := Int.ediv_mul_le 16384 (show a1 ≠ 0 by omega)
    rw [Int.mul_comm a1 a2]; omega
  have h9 : 1 ≤ a1 * a2 := by
    have := Int.mul_le_mul_of_nonneg_right g1 (show 0 ≤ a2 by omega)
    omega
  obtain ⟨n, hn⟩ : ∃ n : Nat, a1 * a2 = n := ⟨(a1 * a2).toNat, by omega⟩
  have eN : newF a1 a2 = ((a1, List.replicate n 255), 0) := by unfold newF; rw [if_neg (by omega), hn, Int.toNat_natCast]
  refine Lp_re [some 0, some 1] (S := _) (T := sh12a a1 a2 0 E) ?_ (wkG (Mem.le_refl _))
  exact Lp_ind (ι := Unit) okF9 (fun _ => sh12a a1 a2 0 E) (fun _ => 0) (fun _ _ => n27a hn (by omega) (by omega) fun cap tot hc => hok n cap tot eN (by omega) hc) ()
theorem hidN_ex : ∃ f : Int → Int → (Int × List Int) × Int, ∀ a b, f a b = newF a b := ⟨newF, fun _ _ => rfl⟩
noncomputable def hidN : Int → Int → (Int × List Int) × Int := hidN_ex.choose
theorem hidN_eq (a b : Int) : hidN a b = newF a b := hidN_ex.choose_spec a b
noncomputable def tabN : CallT := fun f args bx E K => match f with
  | 30 => d2 args fun x0 x1 => dI x0 fun a => dI x1 fun b => ((Hyp ((hidN a b).2 ≠ 0) → K (.tup [.agg [I 0, L none 0 0], I 1]) bx E) ∧ ∀ (n cap tot : Nat) (zs : List Int), Hyp (hidN a b = ((a, List.replicate n 255), 0)) → n ≤ 16384 ∧ n ≤ zs.length ∧ zs.take n = List.replicate n 255 ∧ n ≤ cap → K (.tup [.agg [I a, .slc bx.length 0 n cap], I 0]) (bx ++ [⟨5, .vals (vB zs), tot, true⟩]) E)
  | 33 => d2 args fun x0 x1 => dI x0 fun a => dI x1 fun b => ((Hyp ((hidN a b).2 ≠ 0) → K (.tup [.agg [I 0, L none 0 0], I 1]) bx E) ∧ ∀ (n cap tot : Nat) (zs : List Int), Hyp (hidN a b = ((a, List.replicate n 255), 0)) → n ≤ 16384 ∧ n ≤ zs.length ∧ zs.take n = List.replicate n 255 ∧ n ≤ cap → K (.tup [.agg [I a, .slc bx.length 0 n cap], I 0]) (bx ++ [⟨5, .vals (vB zs), tot, true⟩]) E)
  | _ => False
theorem tabN_ok : ∀ f args bx E K, tabN f args bx E K → CallSem Try.prog f args bx E K := by
  intro f args bx E K h
  unfold tabN at h
  split at h
  · obtain ⟨x0, x1, rfl, h1⟩ := d2_elim h
    obtain ⟨a, rfl, h2⟩ := dI_elim h1
    obtain ⟨c, rfl, h3⟩ := dI_elim h2
    obtain ⟨kerr, kok⟩ := h3
    refine frame0 (K' := fun s' bx' E' => K (s'.ren [] bx.length) (bx ++ bx'.map (Box.ren [] bx.length)) E') (vs := [.int .i64 a, .int .i64 c]) rfl (CallSem.clo (EntB.sem okF8 Try.func30 ⟨by kernel_rfl, by kernel_rfl⟩ (n26 ?_ ?_))) (fun _ _ _ q => q)
    · intro bx1 ne
      refine cloK_intro [] (s' := .tup [.agg [I 0, L none 0 0], I 1]) (bx' := []) (E' := E) ?_ (wkG (Mem.le_refl _))
      have := kerr (by rw [hidN_eq]; exact ne)
      simpa [SV.ren, SV.renL] using this
    · intro n tot zs r1 h16 hz ht
      refine cloK_intro [some 2] (s' := .tup [.agg [I a, .slc 0 0 n n], I 0]) (bx' := [⟨5, .vals (vB zs), tot, true⟩]) (E' := E) ?_ (wkG (Mem.le_refl _))
      have := kok n n tot zs (by rw [hidN_eq]; exact r1) ⟨h16, hz, ht, Nat.le_refl _⟩
      simpa [SV.ren, SV.renL, Box.ren, Row.ren, renF] using this
  · obtain ⟨x0, x1, rfl, h1⟩ := d2_elim h
    obtain ⟨a, rfl, h2⟩ := dI_elim h1
    obtain ⟨c, rfl, h3⟩ := dI_elim h2
    obtain ⟨kerr, kok⟩ := h3
    refine frame0 (K' := fun s' bx' E' => K (s'.ren [] bx.length) (bx ++ bx'.map (Box.ren [] bx.length)) E') (vs := [.int .i64 a, .int .i64 c]) rfl (CallSem.clo (EntB.sem okF9 Try.func33 ⟨by kernel_rfl, by kernel_rfl⟩ (n27 ?_ ?_))) (fun _ _ _ q => q)
    · intro bx1 ne
      refine cloK_intro [] (s' := .tup [.agg [I 0, L none 0 0], I 1]) (bx' := []) (E' := E) ?_ (wkG (Mem.le_refl _))
      have := kerr (by rw [hidN_eq]; exact ne)
      simpa [SV.ren, SV.renL] using this
    · intro n cap tot r1 h16 hc
      refine cloK_intro [some 2] (s' := .tup [.agg [I a, .slc 0 0 n cap], I 0]) (bx' := [⟨5, .vals (vB (List.replicate n 255)), tot, true⟩]) (E' := E) ?_ (wkG (Mem.le_refl _))
      have := kok n cap tot (List.replicate n 255) (by rw [hidN_eq]; exact r1) ⟨h16, by simp, by simp, hc⟩
      simpa [SV.ren, SV.renL, Box.ren, Row.ren, renF] using this
  · exact h.elim
theorem layV_app {xs ys : List Int} {p : Nat} (h : p + ys.length ≤ xs.length) : layV (vB xs) p (vB ys) = vB (xs.take p ++ (ys ++ xs.drop (p + ys.length))) := by
  unfold layV
  simp
theorem lay_get {xs ys : List Int} {p : Nat} (h : p + ys.length ≤ xs.length) (j : Nat) : (xs.take p ++ (ys ++ xs.drop (p + ys.length))).getD j 0 = if p ≤ j ∧ j < p + ys.length then ys.getD (j - p) 0 else xs.getD j 0 := by
  rw [getA, List.length_take, Nat.min_eq_left (by omega)]
  by_cases c : j < p
  · rw [if_pos c, if_neg (by omega), getTake _ _ _ c]
  · rw [if_neg c, getA]
    by_cases c2 : j < p + ys.length
    · rw [if_pos (by omega), if_pos (by omega)]
    · rw [if_neg (by omega), if_neg (by omega), getDrop]; congr 1; omega
theorem lay_len {xs ys : List Int} {p : Nat} (h : p + ys.length ≤ xs.length) : (xs.take p ++ (ys ++ xs.drop (p + ys.length))).length = xs.length := by
  simp only [List.length_append, List.length_take, List.length_drop]; omega
theorem win_take {base : Option Addr} {W : List Int} {n cap : Nat} (hW : WinE E base (vB W)) (h1 : n ≤ W.length) (hn : 1 ≤ n) (hc : n ≤ cap) (hb : ∀ x ∈ W.take n, 0 ≤ x ∧ x ≤ 255) : Bs E (base.map fun x => x.add 0) n cap (W.take n) := by
  have h2 := hW.2 0 n n cap (by simp; omega)
  rw [List.drop_zero, ← List.map_take] at h2
  refine ⟨.inr h2, by rw [List.length_take]; omega, hc, hb, fun e2 => ?_⟩
  cases base with
  | none =>
    have := hW.1 rfl
    have : W = [] := by simpa using this
    subst this
    simp at h1; omega
  | some a => cases e2
theorem fmt_get {v : Int} {p : List Int} (hp : p.length ≤ 4096) (j : Nat) : (hdrF v p ++ ([80, 0, 0] ++ (List.replicate 15 255 ++ (p ++ List.replicate (8416 - p.length) 255)))).getD j 0 = if j < 14 then (hdrF v p).getD j 0 else if j < 17 then [(80 : Int), 0, 0].getD (j - 14) 0 else if j < 32 then 255 else if j < 32 + p.length then p.getD (j - 32) 0 else if j < 8448 then 255 else 0 := by
  have hh := hdrF_len v p
  have gR : ∀ n j : Nat, j < n → (List.replicate n (255 : Int)).getD j 0 = 255 := fun n j h => by
    rw [List.getD_eq_getElem?_getD, List.getElem?_replicate, if_pos h]; rfl
  rw [getA, hh]
  by_cases c : j < 14
  · rw [if_pos c, if_pos c]
  rw [if_neg c, if_neg c, getA]
  simp only [List.length_cons, List.length_nil]
  by_cases c2 : j < 17
  · rw [if_pos (by omega), if_pos c2]
  rw [if_neg (by omega), if_neg c2, getA, List.length_replicate]
  by_cases c3 : j < 32
  · rw [if_pos (by omega), if_pos c3, gR _ _ (by omega)]
  rw [if_neg (by omega), if_neg c3, getA]
  by_cases c4 : j < 32 + p.length
  · rw [if_pos (by omega), if_pos c4]; congr 1 <;> omega
  rw [if_neg (by omega), if_neg c4]
  by_cases c5 : j < 8448
  · rw [if_pos c5, gR _ _ (by omega)]
  · rw [if_neg c5, List.getD_eq_getElem?_getD, List.getElem?_eq_none (by rw [List.length_replicate]; omega)]; rfl
theorem fmt_row {v : Int} {p zs : List Int} (hp : p.length ≤ 4096) (hz : 8448 ≤ zs.length) (ht : zs.take 8448 = List.replicate 8448 255) :
    ∃ W, layV (layV (layV (vB zs) 0 (vB (hdrF v p))) 14 (vB [80, 0, 0])) 32 (vB p) = vB W ∧ W.length = zs.length ∧ W.take 8448 = hdrF v p ++ ([80, 0, 0] ++ (List.replicate 15 255 ++ (p ++ List.replicate (8416 - p.length) 255))) := by
  have hh := hdrF_len v p
  have l1 := lay_len (xs := zs) (ys := hdrF v p) (p := 0) (by omega)
  have l2 := lay_len (xs := zs.take 0 ++ (hdrF v p ++ zs.drop (0 + (hdrF v p).length))) (ys := [80, 0, 0]) (p := 14) (by rw [l1]; simp; omega)
  have g1 := lay_get (xs := zs) (ys := hdrF v p) (p := 0) (by omega)
  have g2 := lay_get (xs := zs.take 0 ++ (hdrF v p ++ zs.drop (0 + (hdrF v p).length))) (ys := [80, 0, 0]) (p := 14) (by rw [l1]; simp; omega)
  rw [layV_app (by omega), layV_app (by rw [l1]; simp; omega)]
  generalize zs.take 0 ++ (hdrF v p ++ zs.drop (0 + (hdrF v p).length)) = X1 at *
  generalize X1.take 14 ++ ([80, 0, 0] ++ X1.drop (14 + [(80 : Int), 0, 0].length)) = X2 at *
  have l3 := lay_len (xs := X2) (ys := p) (p := 32) (by rw [l2, l1]; omega)
  have g3 := lay_get (xs := X2) (ys := p) (p := 32) (by rw [l2, l1]; omega)
  rw [layV_app (by rw [l2, l1]; omega)]
  refine ⟨_, rfl, by rw [l3, l2, l1], ?_⟩
  generalize X2.take 32 ++ (p ++ X2.drop (32 + p.length)) = X3 at *
  have gz : ∀ j, j < 8448 → zs.getD j 0 = 255 := fun j hj => by
    rw [← getTake zs 8448 j hj, ht, List.getD_eq_getElem?_getD, List.getElem?_replicate, if_pos hj]; rfl
  apply ext_getD (by rw [List.length_take, l3, l2, l1]; simp only [List.length_append, hh, List.length_cons, List.length_nil, List.length_replicate]; omega)
  intro j hj
  rw [List.length_take, l3, l2, l1] at hj
  rw [getTake _ _ _ (by omega), fmt_get hp, g3]
  by_cases c1 : 32 ≤ j ∧ j < 32 + p.length
  · rw [if_pos c1, if_neg (by omega), if_neg (by omega), if_neg (by omega), if_pos c1.2]
  · rw [if_neg c1, g2]
    by_cases c2 : 14 ≤ j ∧ j < 17
    · rw [if_pos (by simp; omega), if_neg (by omega), if_pos c2.2]
    · rw [if_neg (by simp; omega), g1, hh]
      by_cases c3 : j < 14
      · rw [if_pos (by omega), if_pos c3, Nat.sub_zero]
      · rw [if_neg (by omega), if_neg c3, if_neg (by omega), gz j (by omega)]
        by_cases c4 : j < 32
        · rw [if_pos c4]
        · rw [if_neg c4, if_neg (by omega), if_pos (by omega)]
theorem newB : newF 128 66 = ((128, List.replicate 8448 255), 0) := by
  unfold newF
  rw [if_neg (by decide)]
  rfl
theorem new_n {n : Nat} (h : newF 128 66 = ((128, List.replicate n 255), 0)) : n = 8448 := by
  rw [newB] at h
  have := congrArg (fun x => x.1.2.length) h
  simpa using this.symm
noncomputable def tabP6 : FuncId → List SV → Mem → (SV → Mem → Prop) → Prop := fun f args E K => match f with
  | 31 => d2 args fun x0 x1 => dI x0 fun a1 => dS x1 fun b2 l3 c4 => ∃ (zs : List Int), Bs E b2 l3 c4 zs ∧ 0 ≤ a1 ∧ a1 ≤ 1000000000 ∧ l3 ≤ 4096 ∧ (∀ (b' : Option Addr) (l' c' : Nat) (ys : List Int) (E' : Mem), Mem.le E E' → Hyp (ys = hidH a1 zs) → Bs E' b' l' c' ys → K (L b' l' c') E')
  | _ => False
theorem tabP6_ok : TabOK Try.prog tabP6 := by
  intro f args E K h
  unfold tabP6 at h
  split at h
  · replace h := d2_elim h
    obtain ⟨x0, x1, rfl, h⟩ := h
    replace h := dI_elim h
    obtain ⟨a1, rfl, h⟩ := h
    replace h := dS_elim h
    obtain ⟨b2, l3, c4, rfl, h⟩ := h
    obtain ⟨zs, g0, g1, g2, g3, h⟩ := h
    exact TabSem.congr (valL_cons rfl (valL_cons rfl rfl)) (Ent.sem okH1 Try.func31 ⟨by kernel_rfl, by kernel_rfl⟩ rfl (q31 g0 g1 g2 g3 h))
  · exact h.elim
noncomputable def P6 : Cx := { P := Try.prog, inl := fun f => List.contains [29] f, tab := tabP6, isB := fun f => f == 30, tabB := tabN, opt := { unroll := 0, carry := [] }, muts := mutsD }
theorem okP6 : CxOK P6 := CxOK.four tabP6_ok (by kernel_rfl) (okInl (by kernel_rfl)) tabN_ok
theorem q11 {a1 : Int} {b2 : Option Addr} {l3 : Nat} {c4 : Nat} {zs : List Int} (h0 : Bs E b2 l3 c4 zs) (h : ∀ (s' : Int) (b' : Option Addr) (l' c' : Nat) (ys : List Int) (e : Int) (E' : Mem), Mem.le E E' → Hyp (formatB a1 zs = ((s', ys), e)) → Bs E' b' l' c' ys → K (.tup [.agg [I s', L b' l' c'], I e]) E') :
    Ent P6 8 Try.f11 [I a1, L b2 l3 c4] E K := by
  refine same (by kernel_rfl) (?_ : bif decide (a1 ≥ (1 : Int)) then bif bif true then decide (a1 ≤ (1000000000 : Int)) else false then Mem.le E E ∧ bif !bif true then decide ((NI l3) ≤ (4096 : Int)) else false then Mem.le E E ∧ K (SV.tup [SV.agg [SV.raw (Value.int IntKind.i64 0), SV.raw (VS none 0 0)], SV.raw (Value.int IntKind.i64 1)]) E else (Hyp ((hidN 128 66).snd ≠ (0 : Int)) → Mem.le E E ∧ Mem.le E E ∧ K (SV.tup [SV.agg [SV.raw (Value.int IntKind.i64 0), SV.raw (VS none 0 0)], SV.raw (Value.int IntKind.i64 1)]) E) ∧ ∀ (n cap tot : Nat) (zs : List Int), Hyp (hidN 128 (66 : Int) = (((128 : Int), List.replicate n 255), (0 : Int))) → n ≤ 16384 ∧ n ≤ List.length zs ∧ List.take n zs = List.replicate n (255 : Int) ∧ n ≤ cap → Mem.le E E ∧ ∃ (zs_1 : List Int), Bs E b2 l3 c4 zs_1 ∧ (0 : Int) ≤ a1 ∧ a1 ≤ (1000000000 : Int) ∧ l3 ≤ 4096 ∧ ∀ (b' : Option Addr) (l' c' : Nat) (ys : List Int) (E' : Mem), Mem.le E E' → Hyp (ys = hidH a1 zs_1) → Bs E' b' l' c' ys → Mem.le E E' ∧ ∃ (cs : List Value), (cs = [] ∨ E' (VS b' l' c') cs) ∧ l' * 1 ≤ List.length cs ∧ (∀ (x : Value), List.Mem x cs → Value.oneCell' x = true) ∧ 0 + n * 1 ≤ List.length (vB zs) ∧ req ((0 : Int) ≤ (14 : Int) ∧ (14 : Int) ≤ (NI (toN none n))) ((if toN none cap = 14 then 0 else 14) + (toN none n - 14) * 1 ≤ List.length (layV (vB zs) 0 (List.take (min l' n * 1) (List.take (l' * 1) cs))) ∧ req ((0 : Int) ≤ (32 : Int) ∧ (32 : Int) ≤ (NI (toN none n))) (∃ (cs_1 : List Value), (cs_1 = [] ∨ E' (VS b2 l3 c4) cs_1) ∧ l3 * 1 ≤ List.length cs_1 ∧ (∀ (x : Value), List.Mem x cs_1 → Value.oneCell' x = true) ∧ (if toN none cap = 32 then 0 else 32) + (toN none n - 32) * 1 ≤ List.length (layV (layV (vB zs) 0 (List.take (min l' n * 1) (List.take (l' * 1) cs))) (if toN none cap = 14 then 0 else 14) (List.take (min 3 (toN none n - 14) * 1) [U8 80, U8 0, U8 0])) ∧ ∀ (base : Option Addr) (E'_1 : Mem), Mem.le E' E'_1 → WinE E'_1 base (layV (layV (layV (vB zs) 0 (List.take (min l' n * 1) (List.take (l' * 1) cs))) (if toN none cap = 14 then 0 else 14) (List.take (min 3 (toN none n - 14) * 1) [U8 80, U8 0, U8 0])) (if toN none cap = 32 then 0 else 32) (List.take (min l3 (toN none n - 32) * 1) (List.take (l3 * 1) cs_1))) → Mem.le E E'_1 ∧ K (SV.tup [SV.agg [SV.raw (Value.int IntKind.i64 128), SV.raw (VS (Option.map (fun (x : Addr) => Addr.add x 0) base) n cap)], SV.raw (Value.int IntKind.i64 0)]) E'_1)) else Mem.le E E ∧ Mem.le E E ∧ K (SV.tup [SV.agg [SV.raw (Value.int IntKind.i64 0), SV.raw (VS none 0 0)], SV.raw (Value.int IntKind.i64 1)]) E else Mem.le E E ∧ Mem.le E E ∧ K (SV.tup [SV.agg [SV.raw (Value.int IntKind.i64 0), SV.raw (VS none 0 0)], SV.raw (Value.int IntKind.i64 1)]) E)
  delta NI U8 VS
  have hl := h0.2.1
  have bad : ¬ fitsF a1 zs → Mem.le E E ∧ K (.tup [.agg [I 0, L none 0 0], I 1]) E := fun q => ⟨Mem.le_refl _, h 0 none 0 0 [] 1 E (Mem.le_refl _) (by show formatB a1 zs = _; unfold formatB; rw [if_neg q]) (Bs.nil _)⟩
  refine condC (fun q => condC (fun q2 => ⟨Mem.le_refl _, condC (fun q3 => bad (fun f => ?_)) (fun q3 => ?_)⟩) (fun q2 => ⟨Mem.le_refl _, bad (fun f => ?_)⟩)) (fun q => ⟨Mem.le_refl _, bad (fun f => ?_)⟩)
  · have := f.2.2; simp at q3; omega
  · have q : 1 ≤ a1 := by simpa using q
    have q2 : a1 ≤ 1000000000 := by simpa using q2
    have q3 : l3 ≤ 4096 := by simp at q3; omega
    have fit : fitsF a1 zs := ⟨q, q2, by omega⟩
    refine ⟨fun w => absurd (show (hidN 128 66).2 ≠ 0 from w) (by rw [hidN_eq, newB]; decide), fun n cap tot row w => ?_⟩
    have w : hidN 128 66 = ((128, List.replicate n 255), 0) := w
    rw [hidN_eq] at w
    have hn := new_n w
    subst hn
    rintro ⟨_, hz, ht, hc⟩
    refine ⟨Mem.le_refl _, zs, h0, by omega, q2, q3, fun bH lH cH yH EH kH eH HH => ⟨kH, ?_⟩⟩
    have eH : yH = hidH a1 zs := eH
    rw [hidH_eq] at eH
    have lH14 : lH = 14 := by rw [← HH.2.1, eH, hdrF_len]
    subst lH14
    obtain ⟨t1, t2, t3⟩ := HH.src
    obtain ⟨u1, u2, u3⟩ := (h0.mono kH).src
    obtain ⟨W, w1, w2, w3⟩ := fmt_row (v := a1) (p := zs) (zs := row) (by omega) hz ht
    have c14 : (if toN none cap = 14 then 0 else 14) = 14 := if_neg (by show ¬ cap = 14; omega)
    have c32 : (if toN none cap = 32 then 0 else 32) = 32 := if_neg (by show ¬ cap = 32; omega)
    have m1 : List.take (min 14 8448 * 1) (List.take (14 * 1) (vB yH)) = vB (hdrF a1 zs) := by
      rw [eH, List.take_of_length_le (l := vB _) (by simp [hdrF_len]), List.take_of_length_le (by simp [hdrF_len])]
    have m2 : List.take (min 3 (toN none 8448 - 14) * 1) [Value.int IntKind.u8 (80 : Int), Value.int IntKind.u8 (0 : Int), Value.int IntKind.u8 (0 : Int)] = vB [80, 0, 0] := rfl
    have m3 : List.take (min l3 (toN none 8448 - 32) * 1) (List.take (l3 * 1) (vB zs)) = vB zs := by
      rw [List.take_of_length_le (l := vB _) (by simp [hl]), List.take_of_length_le (by simp [hl]; show l3 ≤ min l3 (8448 - 32); omega)]
    have d1 : (layV (vB row) 0 (vB (hdrF a1 zs))).length = row.length := by unfold layV; simp [hdrF_len]; omega
    have d2 : (layV (layV (vB row) 0 (vB (hdrF a1 zs))) 14 (vB [80, 0, 0])).length = row.length := by unfold layV; simp [hdrF_len]; omega
    refine ⟨vB yH, t1, t2, t3, by simp; omega, req_intro (by show (0 : Int) ≤ 14 ∧ (14 : Int) ≤ ((8448 : Nat) : Int); omega) ?_⟩
    rw [m1, m2, c14, c32]
    refine ⟨by rw [d1]; show 14 + (8448 - 14) * 1 ≤ _; omega, req_intro (by show (0 : Int) ≤ 32 ∧ (32 : Int) ≤ ((8448 : Nat) : Int); omega) ⟨vB zs, u1, u2, u3, by rw [d2]; show 32 + (8448 - 32) * 1 ≤ _; omega, fun base EE kE wE => ⟨Mem.le_trans kH kE, ?_⟩⟩⟩
    rw [m3, w1] at wE
    have hb := win_take wE (by rw [w2]; exact hz) (by decide) hc (by
      obtain ⟨y, y1, y2, y3, _⟩ := format_ok fit h0.2.2.2.1
      unfold formatB at y1
      rw [if_pos fit] at y1
      rw [w3, (Prod.mk.inj (Prod.mk.inj y1).1).2]
      exact y3)
    rw [w3] at hb
    exact h 128 _ 8448 cap _ 0 EE (Mem.le_trans kH kE) (by show formatB a1 zs = _; unfold formatB; rw [if_pos fit]) hb
  · have := f.2.1; simp at q2; omega
  · have := f.1; simp at q; omega
theorem q14H {a1 : Int} {b2 : Option Addr} {l3 : Nat} {c4 : Nat} {a5 : Int} {b6 : Option Addr} {l7 : Nat} {c8 : Nat} {zs : List Int} {ds : List Int} (h0 : Bs E b2 l3 c4 zs) (h1 : Bs E b6 l7 c8 ds) (h2 : validF a1 l3) (h3 : 0 ≤ a5) (h4 : a5 + l7 ≤ l3) (h : ∀ (b' : Option Addr) (l' c' : Nat) (ms : List (Int × List Int)) (E' : Mem), Mem.le E E' → Hyp (progF a1 zs a5 ds = (ms, 0)) → FL E' b' l' c' ms → K (.tup [L b' l' c', I 0]) E') :
    Ent F3 6 Try.f51 [.agg [I a1, L b2 l3 c4], I a5, L b6 l7 c8] E K := by
  refine s14 h0 h1 ?_
  intro b' l' c' ms e E' hE he hF
  have hl := h0.2.1
  have hd := h1.2.1
  have he : progF a1 zs a5 ds = (ms, e) := he
  have := he.symm.trans (progF_mk (by rw [hl]; exact h2) h3 (by omega))
  simp only [Prod.mk.injEq] at this
  obtain ⟨-, rfl⟩ := this
  exact h b' l' c' ms E' hE he hF
theorem q16H {a1 : Int} {b2 : Option Addr} {l3 : Nat} {c4 : Nat} {a5 : Int} {zs : List Int} (h0 : Bs E b2 l3 c4 zs) (h1 : validF a1 l3) (h2 : 0 ≤ a5) (h3 : a5 < (l3 : Int) / a1) (h : ∀ (b' : Option Addr) (l' c' : Nat) (ms : List (Int × List Int)) (E' : Mem), Mem.le E E' → Hyp (erasF a1 zs a5 = (ms, 0)) → FL E' b' l' c' ms → K (.tup [L b' l' c', I 0]) E') :
    Ent F4 6 Try.f71 [.agg [I a1, L b2 l3 c4], I a5] E K := by
  refine s16 h0 ?_
  intro b' l' c' ms e E' hE he hF
  have hl := h0.2.1
  have he : erasF a1 zs a5 = (ms, e) := he
  have := he.symm.trans (erasF_mk (by rw [hl]; exact h1) h2 (by rw [hl]; exact h3))
  simp only [Prod.mk.injEq] at this
  obtain ⟨-, rfl⟩ := this
  exact h b' l' c' ms E' hE he hF
noncomputable def G7 : Cx := { P := Try.prog, inl := fun f => List.contains [69] f, tab := fun _ _ _ _ => False, isB := fun _ => false, tabB := fun _ _ _ _ _ => False, opt := { unroll := 0, carry := [8] }, muts := mutsD }
theorem okG7 : CxOK G7 := CxOK.four (fun _ _ _ _ h => h.elim) (by kernel_rfl) (okInl (by kernel_rfl)) (fun _ _ _ _ _ h => h.elim)
def sh85 (b : Option Addr) (l c i : Nat) (E : Mem) : St := ⟨[some (L b l c), some (.clo 69 [] []), none, none, none, none, some (L b l c), some (I (l : Nat)), some (I (i : Nat))] ++ List.replicate 10 none, [], E⟩
theorem r85 {b : Option Addr} {l c i : Nat} {zs : List Int} {E0 : Mem} {K : SV → Mem → Prop} (h0 : Bs E b l c zs) (h2 : l ≤ 100000) (hi : i ≤ l) (hp : ∀ x ∈ zs.take i, x = 255) (hE : Mem.le E0 E) (h : ∀ r : Int, decide (0 ≤ r) = zs.any (fun x => decide (x ≠ 255)) → K (I r) E)
    (ih : i < l → (∀ x ∈ zs.take (i + 1), x = 255) → Lp G7 8 Try.f85 [1, 0, 1, 0] 0 (pubK E0 K) (sh85 b l c (i + 1) E)) :
    Rnd G7 8 Try.f85 [1, 0, 1, 0] 0 (pubK E0 K) (sh85 b l c i E) := by
  refine same (by kernel_rfl) (?_ : bif decide ((NI i) < (NI l)) then req ((0 : Int) ≤ (NI i) ∧ (NI i) < (NI l)) ((∃ (cs : List Value), E (VS b l c) cs ∧ (cs = [] → False)) ∧ ∃ (n : Int), LoadE G7.P E 5 (VS b l c) (Int.toNat (NI i) * 1) (SV.raw (U8 n)) ∧ Mem.le E E ∧ bif n != (255 : Int) then Mem.le E0 E ∧ K (SV.raw (Value.int IntKind.i64 (NI i))) E else Lp G7 8 Try.f85 [1, 0, 1, 0] 0 (pubK E0 K) { fr := some (L b l c) :: some (SV.clo 69 [] []) :: none :: none :: none :: none :: some (L b l c) :: some (I (NI l)) :: some (I (WI ((NI i) + (1 : Int)))) :: n8 (n2 []), bx := [], E := E : St }) else Mem.le E0 E ∧ K (SV.raw (Value.int IntKind.i64 (-1 : Int))) E)
  delta WI NI U8 VS n2 n8
  have z0 := h0.2.1
  refine condC (fun g => ?_) (fun g => ?_)
  · have g : i < l := by simpa using g
    have ge : zs[i]'(by omega) = zs.getD i 0 := by rw [List.getD_eq_getElem?_getD, List.getElem?_eq_getElem (by omega)]; rfl
    refine req_intro (by omega) ⟨h0.ne g, zs.getD i 0, h0.load rfl g, Mem.le_refl _, condC (fun q => ?_) (fun q => ?_)⟩
    · have q : ¬ zs.getD i 0 = 255 := by simpa using q
      refine ⟨hE, h i ?_⟩
      rw [decide_eq_true (by omega)]
      exact (List.any_eq_true.2 ⟨_, List.getElem_mem (by omega : i < zs.length), by rw [ge]; simpa using q⟩).symm
    · have q : zs.getD i 0 = 255 := by simpa using q
      rw [wrap_i64 (by omega), show (i : Int) + 1 = ((i + 1 : Nat) : Int) by simp]
      refine Lp_re [] (ih g fun x hx => ?_) (wkG (Mem.le_refl _))
      rw [take_getD (by omega)] at hx
      rcases List.mem_append.1 hx with hx | hx
      · exact hp x hx
      · rw [List.mem_singleton] at hx; rw [hx]; exact q
  · have g : i = l := by simp at g; omega
    subst g
    rw [List.take_of_length_le (by omega)] at hp
    refine ⟨hE, h (-1) ?_⟩
    rw [decide_eq_false (by decide)]
    symm
    rw [List.any_eq_false]
    intro x hx
    simp [hp x hx]
theorem lp85 {b : Option Addr} {l c i : Nat} {zs : List Int} {E0 : Mem} {K : SV → Mem → Prop} (h0 : Bs E b l c zs) (h2 : l ≤ 100000) (hi : i ≤ l) (hp : ∀ x ∈ zs.take i, x = 255) (hE : Mem.le E0 E) (h : ∀ r : Int, decide (0 ≤ r) = zs.any (fun x => decide (x ≠ 255)) → K (I r) E) :
    Lp G7 8 Try.f85 [1, 0, 1, 0] 0 (pubK E0 K) (sh85 b l c i E) :=
  Lp_ind okG7 (fun x : {i : Nat // i ≤ l ∧ ∀ x ∈ zs.take i, x = 255} => sh85 b l c x.1 E) (fun x => l - x.1) (fun x ih => r85 h0 h2 x.2.1 x.2.2 hE h fun g q => ih ⟨x.1 + 1, by omega, q⟩ (by show l - (_ + 1) < l - _; omega)) ⟨i, hi, hp⟩
theorem e85 {b : Option Addr} {l c : Nat} {zs : List Int} (h0 : Bs E b l c zs) (h2 : l ≤ 100000) (h : ∀ r : Int, decide (0 ≤ r) = zs.any (fun x => decide (x ≠ 255)) → K (I r) E) : Ent G7 8 Try.f85 [L b l c, .clo 69 [] []] E K := by
  refine same (by kernel_rfl) (?_ : Lp G7 8 Try.f85 [1, 0, 1, 0] 0 (pubK E K) { fr := [some (L b l c), some (SV.clo 69 [] []), none, none, none, none, some (L b l c), some (I (↑l : Int)), some (I (0 : Int)), none, none, none, none, none, none, none, none, none, none], bx := [], E := E : St })
  exact Lp_re [] (lp85 (i := 0) h0 h2 (Nat.zero_le _) (fun x hx => by simp at hx) (Mem.le_refl _) h) (wkG (Mem.le_refl _))
theorem tab_clo {P : Program} {f g : FuncId} {b : Option Addr} {l c : Nat} {bx : List Box} {KK : KT} (h : CallSemO none P f [L b l c, .clo g [] []] [] E (pubK E fun s E' => KK s bx E')) : CallSem P f [L b l c, .clo g [] []] bx E KK := by
  have h2 : CallSemO none P f [L b l c, .raw (.func (.func g) #[] #[])] [] E (pubK E fun s E' => KK s bx E') := h
  intro w0 mu ρ w vs hR hd
  exact (TabSem.intro rfl h2).call w0 mu ρ w vs hR hd
def tab85 : CallT := fun f args bx E K => f = 85 ∧ ∃ (b : Option Addr) (l c : Nat) (zs : List Int), args = [L b l c, .clo 69 [] []] ∧ Bs E b l c zs ∧ l ≤ 100000 ∧ ∀ r : Int, decide (0 ≤ r) = zs.any (fun x => decide (x ≠ 255)) → K (I r) bx E
theorem tab85_ok (f : FuncId) (args : List SV) (bx : List Box) (E : Mem) (K : KT) (h : tab85 f args bx E K) : CallSem Try.prog f args bx E K := by
  obtain ⟨rfl, b, l, c, zs, rfl, h1, h2, h3⟩ := h
  exact tab_clo (EntB.semO (n := 8) okG7 Try.func85 ⟨by kernel_rfl, by kernel_rfl⟩ (by have h4 := e85 (K := fun s E' => K s bx E') h1 h2 h3; unfold Ent at h4; unfold EntB; exact h4))
noncomputable def G8 : Cx := { P := Try.prog, inl := fun f => List.contains [] f, tab := fun _ _ _ _ => False, isB := fun f => f == 85, tabB := tab85, opt := { unroll := 0, carry := [] }, muts := mutsD }
theorem okG8 : CxOK G8 := CxOK.four (fun _ _ _ _ h => h.elim) (by kernel_rfl) (okInl (by kernel_rfl)) tab85_ok
theorem e68 {b : Option Addr} {l c : Nat} {zs : List Int} (h0 : Bs E b l c zs) (h2 : l ≤ 100000) (h : K (B (zs.any fun x => decide (x ≠ 255))) E) : Ent G8 8 Try.f68 [L b l c, .clo 69 [] []] E K := by
  refine same (by kernel_rfl) (?_ : 85 = 85 ∧ ∃ (b_1 : Option Addr), ∃ (l_1 : Nat), ∃ (c_1 : Nat), ∃ (zs : List Int), [SV.raw (Value.slice b l c), SV.clo 69 [] []] = [SV.raw (Value.slice b_1 l_1 c_1), SV.clo 69 [] []] ∧ Bs E b_1 l_1 c_1 zs ∧ l_1 ≤ 100000 ∧ ∀ (r : Int), (decide ((0 : Int) ≤ r) = List.any zs fun (x : Int) => decide (x ≠ (255 : Int))) → Mem.le E E ∧ K (SV.raw (Value.bool (decide (r ≥ (0 : Int))))) E)
  refine ⟨rfl, b, l, c, zs, rfl, h0, h2, fun r hr => ?_⟩
  rw [← hr] at h
  exact ⟨Mem.le_refl _, h⟩
def tab68 : CallT := fun f args bx E K => f = 68 ∧ ∃ (b : Option Addr) (l c : Nat) (zs : List Int), args = [L b l c, .clo 69 [] []] ∧ Bs E b l c zs ∧ l ≤ 100000 ∧ K (B (zs.any fun x => decide (x ≠ 255))) bx E
theorem tab68_ok (f : FuncId) (args : List SV) (bx : List Box) (E : Mem) (K : KT) (h : tab68 f args bx E K) : CallSem Try.prog f args bx E K := by
  obtain ⟨rfl, b, l, c, zs, rfl, h1, h2, h3⟩ := h
  exact tab_clo (EntB.semO (n := 8) okG8 Try.func68 ⟨by kernel_rfl, by kernel_rfl⟩ (by have h4 := e68 (K := fun s E' => K s bx E') h1 h2 h3; unfold Ent at h4; unfold EntB; exact h4))
theorem FL.cap {E : Mem} {b : Option Addr} {n c : Nat} {ms : List (Int × List Int)} (h : FL E b n c ms) : n ≤ c := by
  obtain ⟨rs, h1, h2, h3, _⟩ := h; exact h3
theorem rows_one (rs : List FRow) : ∀ x : Value, List.Mem x (rs.flatMap rowV) → x.oneCell' = true := fun x hx => by
  obtain ⟨r, _, h⟩ := List.mem_flatMap.1 hx
  simp only [rowV, List.mem_cons, List.not_mem_nil, or_false] at h
  rcases h with rfl | rfl <;> rfl
theorem FL.src {E : Mem} {b : Option Addr} {n c : Nat} {ms : List (Int × List Int)} (h : FL E b n c ms) :
    ∃ rs : List FRow, FLr E rs ms ∧ (rs.flatMap rowV = [] ∨ E (.slice b n c) (rs.flatMap rowV)) ∧ n * 2 ≤ (rs.flatMap rowV).length ∧ (∀ x : Value, List.Mem x (rs.flatMap rowV) → x.oneCell' = true) ∧ rs.length = n := by
  obtain ⟨rs, h1, h2, h3, h4, h5⟩ := h
  have hl : rs.length = n := by rw [h1.1, h2]
  refine ⟨rs, h1, ?_, by rw [rows_len, hl]; exact Nat.le_refl _, rows_one rs, hl⟩
  rcases h4 with rfl | h4
  · exact .inl (by rw [List.length_eq_zero_iff.1 hl]; rfl)
  · exact .inr h4
theorem rows_drop (rs : List FRow) : (rs.flatMap rowV).drop 2 = (rs.drop 1).flatMap rowV := by
  cases rs with
  | nil => rfl
  | cons r rs => rfl
theorem FL.tail {E E' : Mem} {b b' : Option Addr} {n c : Nat} {ms : List (Int × List Int)} (h : FL E b n c ms) (he : Mem.le E E')
    (hF : ∀ cs, E (.slice b n c) cs → E' (.slice b' (n - 1) (c - 1)) (List.take ((n - 1) * 2) (List.drop 2 cs))) (hN : b'.isNone = b.isNone) (hn : 1 ≤ n) : FL E' b' (n - 1) (c - 1) (ms.drop 1) := by
  obtain ⟨rs, h1, h2, h3, h4, h5⟩ := h
  have hl : rs.length = n := by rw [h1.1, h2]
  refine ⟨rs.drop 1, ⟨by simp [h1.1], fun i r m g1 g2 => ?_⟩, by simp [h2], by omega, .inr ?_, fun e => ?_⟩
  · rw [List.getElem?_drop] at g1 g2
    exact ⟨(h1.2 _ r m g1 g2).1, ((h1.2 _ r m g1 g2).2).mono he⟩
  · have := hF _ (h4.resolve_left (by omega))
    rw [rows_drop, List.take_of_length_le (by rw [rows_len]; simp; omega)] at this
    exact this
  · have := h5 (by cases b with | none => rfl | some x => rw [e] at hN; cases hN)
    omega
theorem FLr.app {E : Mem} {rs rt : List FRow} {ms ns : List (Int × List Int)} (h : FLr E rs ms) (k : FLr E rt ns) : FLr E (rs ++ rt) (ms ++ ns) := by
  refine ⟨by simp [h.1, k.1], fun i r m g1 g2 => ?_⟩
  have hl := h.1
  by_cases hi : i < rs.length
  · rw [List.getElem?_append_left hi] at g1
    rw [List.getElem?_append_left (by omega)] at g2
    exact h.2 i r m g1 g2
  · rw [List.getElem?_append_right (by omega)] at g1
    rw [List.getElem?_append_right (by omega), ← hl] at g2
    exact k.2 _ r m g1 g2
theorem last_load {E : Mem} {rs : List FRow} {ms : List (Int × List Int)} {N : Nat} (R : FLr E rs ms) (hn : ms.length = N) (h1 : 1 ≤ N) (hb : N ≤ 1000000000000) :
    (0 ≤ IntKind.wrap .i64 ((N : Int) - 1) ∧ IntKind.wrap .i64 ((N : Int) - 1) < (N : Int)) ∧ ∃ (b' : Option Addr) (l' c' : Nat), LoadV Try.prog 24 (rs.flatMap rowV) (0 + Int.toNat (IntKind.wrap .i64 ((N : Int) - 1)) * 2) (.agg [I (lastM ms).1, L b' l' c']) ∧ Bs E b' l' c' (lastM ms).2 := by
  rw [wrap_i64 (x := (N : Int) - 1) (by omega)]
  have hrl : rs.length = N := by rw [R.1, hn]
  obtain ⟨r, er⟩ : ∃ r, rs[N - 1]? = some r := ⟨_, List.getElem?_eq_getElem (by omega)⟩
  obtain ⟨m, em⟩ : ∃ m, ms[N - 1]? = some m := ⟨_, List.getElem?_eq_getElem (by omega)⟩
  have e : lastM ms = m := by
    unfold lastM
    rw [List.getLastD_eq_getLast?, List.getLast?_eq_getElem?, hn, em]; rfl
  obtain ⟨q1, q2⟩ := R.2 _ r m er em
  refine ⟨by omega, r.2.1, r.2.2.1, r.2.2.2, ?_, by rw [e]; exact q2⟩
  rw [e, ← q1, show 0 + Int.toNat ((N : Int) - 1) * 2 = (N - 1) * 2 by omega]
  exact loadW_row er
theorem tail_app {E : Mem} {b' : Option Addr} {l' c' N cap tot : Nat} {ms ms2 : List (Int × List Int)} {rs : List FRow} (F : FL E b' l' c' ms2) (hl : 1 ≤ l') (R : FLr E rs ms) (hn : ms.length = N) (hc : N ≤ cap ∧ cap * 2 ≤ tot) (hb : N + l' ≤ 1000000000000)
    {Q : Option Addr → Mem → List Value → Nat → Nat → Prop}
    (k : ∀ (base' : Option Addr) (E' : Mem) (cs : List Value) (cap' tot' : Nat) (rs' : List FRow), List.take (N * 2) (rs.flatMap rowV) ++ List.take ((toN none l' - 1) * 2) cs = rs'.flatMap rowV → Mem.le E E' → FLr E' rs' (chgF ms ms2) → (chgF ms ms2).length = N + (toN none l' - 1) → N + (toN none l' - 1) ≤ cap' → cap' * 2 ≤ tot' → Q base' E' cs cap' tot') :
    req (l' ≤ c') (req (0 ≤ (1 : Int) ∧ (1 : Int) ≤ ((toN none l' : Nat) : Int)) (∀ (base' : Option Addr) (E' : Mem), Mem.le E E' → (∀ cs : List Value, E (.slice b' l' c') cs → E' (.slice base' (toN none l' - 1) (toN none c' - 1)) (List.take ((toN none l' - 1) * 2) (List.drop 2 cs))) → base'.isNone = b'.isNone →
      ∃ cs : List Value, (cs = [] ∨ E' (.slice base' (toN none l' - 1) (toN none c' - 1)) cs) ∧ (toN none l' - 1) * 2 ≤ List.length cs ∧ (∀ x : Value, List.Mem x cs → x.oneCell' = true) ∧ N * 2 ≤ List.length (Row.cells (Row.vals (rs.flatMap rowV))) ∧ cap * 2 ≤ tot ∧ N ≤ cap ∧
        req ((N + (toN none l' - 1)) * 32 ≤ 140737488355328) (∀ cap' tot' : Nat, N + (toN none l' - 1) ≤ cap' → cap' * 2 ≤ tot' → Q base' E' cs cap' tot'))) := by
  have hcap := F.cap
  have e0 : toN none l' = l' := rfl
  refine req_intro hcap (req_intro (by rw [e0]; omega) fun base' E' q1 q2 q3 => ?_)
  have T := FL.tail F q1 q2 q3 hl
  obtain ⟨rt, u1, u2, u3, u4, u5⟩ := T.src
  have hrl : rs.length = N := by rw [R.1, hn]
  refine ⟨_, u2, u3, u4, ?_, hc.2, hc.1, req_intro (by rw [e0]; omega) fun cap' tot' g1 g2 => k base' E' _ cap' tot' (rs ++ rt) ?_ q1 ((R.mono q1).app u1) ?_ g1 g2⟩
  · show _ ≤ (List.map SV.raw _).length
    rw [List.length_map, rows_len, hrl]; exact Nat.le_refl _
  · rw [List.take_of_length_le (by rw [rows_len, hrl]; exact Nat.le_refl _), List.take_of_length_le (by rw [rows_len, u5]; exact Nat.le_refl _), List.flatMap_append]
  · rw [chgF_len, hn, F.len]; rfl
structure LI (E : Mem) (rs : List FRow) (ms : List (Int × List Int)) (n cap tot N : Nat) : Prop where
  R : FLr E rs ms
  hn : ms.length = n
  hc : n ≤ cap ∧ cap * 2 ≤ tot
  hb : 1 ≤ n ∧ n ≤ N
  l1 : (lastM ms).1 = 128
  l2 : (lastM ms).2.length = 8448
theorem LI.mono {E E' : Mem} {rs : List FRow} {ms : List (Int × List Int)} {n cap tot N : Nat} (I : LI E rs ms n cap tot N) (h : Mem.le E E') : LI E' rs ms n cap tot N := ⟨I.R.mono h, I.hn, I.hc, I.hb, I.l1, I.l2⟩
theorem LI.load {E : Mem} {rs : List FRow} {ms : List (Int × List Int)} {n cap tot N : Nat} (X : LI E rs ms n cap tot N) (hN : N ≤ 100000) :
    (0 ≤ IntKind.wrap .i64 ((n : Int) - 1) ∧ IntKind.wrap .i64 ((n : Int) - 1) < (n : Int)) ∧ ∃ (b' : Option Addr) (c' : Nat), LoadV Try.prog 24 (rs.flatMap rowV) (0 + Int.toNat (IntKind.wrap .i64 ((n : Int) - 1)) * 2) (.agg [I 128, L b' 8448 c']) ∧ Bs E b' 8448 c' (lastM ms).2 := by
  have hb := X.hb
  obtain ⟨h1, b', l', c', h2, h3⟩ := last_load X.R X.hn hb.1 (by omega)
  have e : l' = 8448 := by rw [← h3.2.1, X.l2]
  subst e
  rw [X.l1] at h2
  exact ⟨h1, b', c', h2, h3⟩
theorem LI.app {E E2 : Mem} {rs : List FRow} {ms m2 ms' : List (Int × List Int)} {n cap tot N k : Nat} {b' : Option Addr} {l' c' : Nat} (I : LI E rs ms n cap tot N) (hE : Mem.le E E2) (F : FL E2 b' l' c' m2) (h2 : m2.length = k + 1) (hN : N + k ≤ 100000)
    (e : chgF ms m2 = ms') (e1 : (lastM ms').1 = 128) (e2 : (lastM ms').2.length = 8448)
    {Q : Option Addr → Mem → List Value → Nat → Nat → Prop}
    (q : ∀ (base' : Option Addr) (E' : Mem) (cs : List Value) (cap' tot' : Nat) (rs' : List FRow), List.take (n * 2) (rs.flatMap rowV) ++ List.take ((toN none l' - 1) * 2) cs = rs'.flatMap rowV → Mem.le E2 E' → LI E' rs' ms' (n + (toN none l' - 1)) cap' tot' (N + k) → Q base' E' cs cap' tot') :
    req (l' ≤ c') (req (0 ≤ (1 : Int) ∧ (1 : Int) ≤ ((toN none l' : Nat) : Int)) (∀ (base' : Option Addr) (E' : Mem), Mem.le E2 E' → (∀ cs : List Value, E2 (.slice b' l' c') cs → E' (.slice base' (toN none l' - 1) (toN none c' - 1)) (List.take ((toN none l' - 1) * 2) (List.drop 2 cs))) → base'.isNone = b'.isNone →
      ∃ cs : List Value, (cs = [] ∨ E' (.slice base' (toN none l' - 1) (toN none c' - 1)) cs) ∧ (toN none l' - 1) * 2 ≤ List.length cs ∧ (∀ x : Value, List.Mem x cs → x.oneCell' = true) ∧ n * 2 ≤ List.length (Row.cells (Row.vals (rs.flatMap rowV))) ∧ cap * 2 ≤ tot ∧ n ≤ cap ∧
        req ((n + (toN none l' - 1)) * 32 ≤ 140737488355328) (∀ cap' tot' : Nat, n + (toN none l' - 1) ≤ cap' → cap' * 2 ≤ tot' → Q base' E' cs cap' tot'))) := by
  have hb := I.hb
  have hl' := F.len
  rw [h2] at hl'
  have e0 : toN none l' = l' := rfl
  refine tail_app F (by omega) (I.R.mono hE) I.hn I.hc (by omega) fun base' E' cs cap' tot' rs' h1 h2 h3 h4 h5 h6 => q base' E' cs cap' tot' rs' h1 h2 ⟨e ▸ h3, e ▸ h4, ⟨h5, h6⟩, ⟨by omega, by omega⟩, e1, e2⟩
theorem prog_li {ms m2 : List (Int × List Int)} {a : Nat} {ds : List Int} (l1 : (lastM ms).1 = 128) (l2 : (lastM ms).2.length = 8448) (ha : a + ds.length ≤ 8448) (h : progF 128 (lastM ms).2 (a : Int) ds = (m2, 0)) :
    m2.length = ds.length + 1 ∧ chgF ms m2 = progL ms a ds ∧ (lastM (progL ms a ds)).1 = 128 ∧ (lastM (progL ms a ds)).2.length = 8448 := by
  have hl : lastM ms = (128, (lastM ms).2) := Prod.ext l1 rfl
  have h0 := h
  rw [progF_mk (by rw [l2]; exact validB) (by omega) (by omega)] at h
  have e := (Prod.mk.inj h).1
  have ee : chgF ms m2 = progL ms a ds := by unfold progL; rw [l1, h0]
  refine ⟨by rw [← e, mems_len], ee, ?_⟩
  by_cases q : ds.length = 0
  · have : ds = [] := List.length_eq_zero_iff.1 q
    subst this
    rw [progL_nil (s := 128) validB hl l2 (by omega)]
    exact ⟨l1, l2⟩
  · rw [← ee, ← e, mems_last (by omega)]
    exact ⟨rfl, by simp only [stp_len]; exact l2⟩
theorem eras_li {ms m2 : List (Int × List Int)} {k : Nat} (l1 : (lastM ms).1 = 128) (l2 : (lastM ms).2.length = 8448) (hk : k < 66) (h : erasF 128 (lastM ms).2 (k : Int) = (m2, 0)) :
    m2.length = 128 + 1 ∧ chgF ms m2 = erasL ms k ∧ (lastM (erasL ms k)).1 = 128 ∧ (lastM (erasL ms k)).2.length = 8448 := by
  have h0 := h
  rw [erasF_mk (by rw [l2]; exact validB) (by omega) (by rw [l2]; omega)] at h
  have e := (Prod.mk.inj h).1
  have ee : chgF ms m2 = erasL ms k := by unfold erasL; rw [l1, h0]
  refine ⟨by rw [← e, mems_len]; rfl, ee, ?_⟩
  rw [← ee, ← e]
  have := mems_last (s := 128) (g := gE) (a := ((k : Int) * 128).toNat) (n := 128) (zs := (lastM ms).2) (l := ms) (by decide)
  rw [show (128 : Int).toNat + 1 = 128 + 1 from rfl, this]
  exact ⟨rfl, by simp only [stp_len]; exact l2⟩
structure HI (E : Mem) (s v : Int) (b b0 b1 pb : Option Addr) (l c pl pc : Nat) (z p : List Int) : Prop where
  hs : s = 128
  hl : l = 8448
  hz : Bs E b l c z
  h0 : Bs E b0 4224 4224 (bankF z 0)
  h1 : Bs E b1 4224 4224 (bankF z 1)
  hp : Bs E pb pl pc p
  hv : 0 ≤ v ∧ v ≤ 1000000000
  hpl : pl ≤ 4096
theorem HI.mono {E E' : Mem} {s v : Int} {b b0 b1 pb : Option Addr} {l c pl pc : Nat} {z p : List Int} (h : HI E s v b b0 b1 pb l c pl pc z p) (he : Mem.le E E') : HI E' s v b b0 b1 pb l c pl pc z p :=
  ⟨h.hs, h.hl, h.hz.mono he, h.h0.mono he, h.h1.mono he, h.hp.mono he, h.hv, h.hpl⟩
noncomputable def tabCH : FuncId → List SV → Mem → (SV → Mem → Prop) → Prop := fun f args E K => match f with
  | 51 => d3 args fun x0 x1 x2 => dC x0 fun l1 => d2 l1 fun x0_0 x0_1 => dI x0_0 fun a1 => dS x0_1 fun b2 l3 c4 => dI x1 fun a5 => dS x2 fun b6 l7 c8 => ∃ (zs : List Int) (ds : List Int), Bs E b2 l3 c4 zs ∧ Bs E b6 l7 c8 ds ∧ validF a1 l3 ∧ 0 ≤ a5 ∧ a5 + l7 ≤ l3 ∧ (∀ (b' : Option Addr) (l' c' : Nat) (ms : List (Int × List Int)) (E' : Mem), Mem.le E E' → Hyp (progF a1 zs a5 ds = (ms, 0)) → FL E' b' l' c' ms → K (.tup [L b' l' c', I 0]) E')
  | 71 => d2 args fun x0 x1 => dC x0 fun l1 => d2 l1 fun x0_0 x0_1 => dI x0_0 fun a1 => dS x0_1 fun b2 l3 c4 => dI x1 fun a5 => ∃ (zs : List Int), Bs E b2 l3 c4 zs ∧ validF a1 l3 ∧ 0 ≤ a5 ∧ a5 < (l3 : Int) / a1 ∧ (∀ (b' : Option Addr) (l' c' : Nat) (ms : List (Int × List Int)) (E' : Mem), Mem.le E E' → Hyp (erasF a1 zs a5 = (ms, 0)) → FL E' b' l' c' ms → K (.tup [L b' l' c', I 0]) E')
  | _ => False
theorem tabCH_ok : TabOK Try.prog tabCH := by
  intro f args E K h
  unfold tabCH at h
  split at h
  · replace h := d3_elim h
    obtain ⟨x0, x1, x2, rfl, h⟩ := h
    replace h := dC_elim h
    obtain ⟨l1, hl1, h⟩ := h
    replace h := d2_elim h
    obtain ⟨x0_0, x0_1, rfl, h⟩ := h
    replace h := dI_elim h
    obtain ⟨a1, rfl, h⟩ := h
    replace h := dS_elim h
    obtain ⟨b2, l3, c4, rfl, h⟩ := h
    replace h := dI_elim h
    obtain ⟨a5, rfl, h⟩ := h
    replace h := dS_elim h
    obtain ⟨b6, l7, c8, rfl, h⟩ := h
    obtain ⟨zs, ds, g0, g1, g2, g3, g4, h⟩ := h
    exact TabSem.congr (valL_cons (asCells_val hl1) (valL_cons rfl (valL_cons rfl rfl))) (Ent.sem okF3 Try.func51 ⟨by kernel_rfl, by kernel_rfl⟩ rfl (q14H g0 g1 g2 g3 g4 h))
  · replace h := d2_elim h
    obtain ⟨x0, x1, rfl, h⟩ := h
    replace h := dC_elim h
    obtain ⟨l1, hl1, h⟩ := h
    replace h := d2_elim h
    obtain ⟨x0_0, x0_1, rfl, h⟩ := h
    replace h := dI_elim h
    obtain ⟨a1, rfl, h⟩ := h
    replace h := dS_elim h
    obtain ⟨b2, l3, c4, rfl, h⟩ := h
    replace h := dI_elim h
    obtain ⟨a5, rfl, h⟩ := h
    obtain ⟨zs, g0, g1, g2, g3, h⟩ := h
    exact TabSem.congr (valL_cons (asCells_val hl1) (valL_cons rfl rfl)) (Ent.sem okF4 Try.func71 ⟨by kernel_rfl, by kernel_rfl⟩ rfl (q16H g0 g1 g2 g3 h))
  · exact h.elim
noncomputable def CH : Cx := { P := Try.prog, inl := fun f => List.contains [66, 70] f, tab := tabCH, isB := fun _ => false, tabB := fun _ _ _ _ _ => False, opt := { unroll := 0, carry := [], cuts := [8] }, muts := (fun o => match o with | .call _ => true | o => mutsD o) }
theorem okCH : CxOK CH := CxOK.four tabCH_ok (by kernel_rfl) (okInl (by kernel_rfl)) (fun _ _ _ _ _ h => h.elim)
abbrev fr42 (s : Int) (b : Option Addr) (l c : Nat) : List (Option SV) := [some (.agg [I s, L b l c]), some (.clo 43 [] [.loc 3 0, .loc 4 0, .loc 5 0, .loc 2 0, .loc 1 0]), some (.loc 6 0), none, some (.loc 7 0), some (.loc 8 0), some (.loc 10 0), none, none, none, some (.agg [I s, L b l c]), some (.slc 9 0 1 1), some (.clo 43 [] [.loc 3 0, .loc 4 0, .loc 5 0, .loc 2 0, .loc 1 0])] ++ List.replicate 20 none
noncomputable def tabGI : FuncId → List SV → Mem → (SV → Mem → Prop) → Prop := fun f args E K => match f with
  | 31 => d2 args fun x0 x1 => dI x0 fun a1 => dS x1 fun b2 l3 c4 => ∃ (zs : List Int), Bs E b2 l3 c4 zs ∧ 0 ≤ a1 ∧ a1 ≤ 1000000000 ∧ l3 ≤ 4096 ∧ (∀ (b' : Option Addr) (l' c' : Nat) (ys : List Int) (E' : Mem), Mem.le E E' → Hyp (ys = hidH a1 zs) → Bs E' b' l' c' ys → K (L b' l' c') E')
  | _ => False
theorem tabGI_ok : TabOK Try.prog tabGI := by
  intro f args E K h
  unfold tabGI at h
  split at h
  · replace h := d2_elim h
    obtain ⟨x0, x1, rfl, h⟩ := h
    replace h := dI_elim h
    obtain ⟨a1, rfl, h⟩ := h
    replace h := dS_elim h
    obtain ⟨b2, l3, c4, rfl, h⟩ := h
    obtain ⟨zs, g0, g1, g2, g3, h⟩ := h
    exact TabSem.congr (valL_cons rfl (valL_cons rfl rfl)) (Ent.sem okH1 Try.func31 ⟨by kernel_rfl, by kernel_rfl⟩ rfl (q31 g0 g1 g2 g3 h))
  · exact h.elim
noncomputable def GI : Cx := { P := Try.prog, inl := fun f => List.contains [44, 45] f, tab := tabGI, isB := fun _ => false, tabB := fun _ _ _ _ _ => False, opt := { unroll := 0, carry := [50], cuts := [1, 2, 5] }, muts := (fun o => match o with | .call { args := #[.tmp 45, .tmp 46], .. } => true | .call { args := #[.tmp 19, .tmp 20], .. } => true | .call { args := #[.tmp 21], .. } => true | o => mutsD o) }
theorem okGI : CxOK GI := CxOK.four tabGI_ok (by kernel_rfl) (okInl (by kernel_rfl)) (fun _ _ _ _ _ h => h.elim)
noncomputable def CI (s : Int) (b : Option Addr) (l c : Nat) (rc : Rc) : Cx := YCx GI CH 8 (fr42 s b l c) (sub (bodyOf Try.f42) [1, 1, 0, 1, 0]) rc
theorem bank_at {z : List Int} {k i : Nat} (h : i < 4224) : (bankF z k).getD i 0 = z.getD (4224 * k + i) 0 := bank_get h
def shA_0 (s v : Int) (b b0 b1 pb : Option Addr) (l c pl pc : Nat) (rc : Rc) (n cap tot : Nat) (rs : List FRow) (E : Mem) : St := ⟨[some (.raw (.func (.yield rc.l) #[] #[])), some (.loc 3 0), some (.loc 4 0), some (.loc 5 0), some (.loc 2 0), some (.loc 1 0), some (.loc 11 0)] ++ List.replicate 52 none, [⟨24, .lst [I s, L b l c], 2, true⟩, ⟨3, .lst [I v], 1, true⟩, ⟨22, .lst [L pb pl pc], 1, true⟩, ⟨56, .lst [L b0 4224 4224, L b1 4224 4224], 2, true⟩, ⟨3, .lst [I 0], 1, true⟩, ⟨3, .lst [I 0], 1, true⟩, ⟨24, .lst [I s, L b l c], 2, true⟩, ⟨33, .lst [L none 0 0], 1, true⟩, ⟨26, .lst [I 0], 1, true⟩, ⟨24, .lst [], 0, false⟩, ⟨33, .lst [.slc 12 0 n cap], 1, true⟩, ⟨68, .lst [.raw (.func (.yield rc.l) #[] #[])], 1, true⟩, ⟨24, .vals (rs.flatMap rowV), tot, true⟩], E⟩
theorem y1_0 {s v : Int} {b b0 b1 pb : Option Addr} {l c pl pc : Nat} {z p : List Int} {rc : Rc} {n cap tot N : Nat} {rs : List FRow} {ms : List (Int × List Int)} {KK : KT} (H : HI E s v b b0 b1 pb l c pl pc z p) (X : LI E rs ms n cap tot N) (hN : N ≤ 50000)
    (h : ∀ (E' : Mem) (n' cap' tot' : Nat) (rs' : List FRow), Mem.le E E' → LI E' rs' (if z.getD (0 + 14) 0 ≠ 255 then progL ms (0 + 14) [0] else ms) n' cap' tot' (N + 1) → Ct (CI s b l c rc) 8 Try.f43 [1, 1] 11 KK (shA_0 s v b b0 b1 pb l c pl pc rc n' cap' tot' rs' E')) :
    Pc (CI s b l c rc) 8 Try.f43 [1] 11 KK (shA_0 s v b b0 b1 pb l c pl pc rc n cap tot rs E) := by
  refine same (by kernel_rfl) (?_ : (∃ (cs : List Value), E (VS b0 4224 4224) cs ∧ (cs = [] → False)) ∧ ∃ (n_1 : Int), LoadE (CI s b l c rc).P E 5 (VS b0 4224 4224) 14 (SV.raw (U8 n_1)) ∧ bif n_1 != (255 : Int) then Sx.Alike (AlikeT.n AlikeT.l (AlikeT.n AlikeT.l AlikeT.l)) (rc.l = rc.l ∧ req ((0 : Int) ≤ WI ((NI n) - (1 : Int)) ∧ WI ((NI n) - (1 : Int)) < (NI n)) (∃ (n_2 : Int), ∃ (base : Option Addr), ∃ (len : Nat), ∃ (cap_1 : Nat), LoadV CH.P 24 (List.flatMap rowV rs) (0 + Int.toNat (WI ((NI n) - (1 : Int))) * 2) (SV.agg [SV.raw (Value.int IntKind.i64 n_2), SV.raw (VS base len cap_1)]) ∧ ∀ (base_1 : Option Addr) (E' : Mem), Mem.le E E' → WinE E' base_1 [U8 0] → ∃ (zs : List Int), ∃ (ds : List Int), Bs E' base len cap_1 zs ∧ Bs E' (Option.map (fun (x : Addr) => Addr.add x 0) base_1) 1 1 ds ∧ validF n_2 len ∧ (0 : Int) ≤ (14 : Int) ∧ (15 : Int) ≤ (NI len) ∧ ∀ (b' : Option Addr) (l' c' : Nat) (ms : List (Int × List Int)) (E'_1 : Mem), Mem.le E' E'_1 → Hyp (progF n_2 zs 14 ds = (ms, (0 : Int))) → FL E'_1 b' l' c' ms → req (l' ≤ c') (req ((0 : Int) ≤ (1 : Int) ∧ (1 : Int) ≤ (NI (toN none l'))) (∀ (base' : Option Addr) (E' : Mem), Mem.le E'_1 E' → (∀ (cs : List Value), E'_1 (VS b' l' c') cs → E' (VS base' (toN none l' - 1) (toN none c' - 1)) (List.take ((toN none l' - 1) * 2) (List.drop 2 cs))) → Option.isNone base' = Option.isNone b' → ∃ (cs : List Value), (cs = [] ∨ E' (VS base' (toN none l' - 1) (toN none c' - 1)) cs) ∧ (toN none l' - 1) * 2 ≤ List.length cs ∧ (∀ (x : Value), List.Mem x cs → Value.oneCell' x = true) ∧ n * 2 ≤ List.length (Row.cells (Row.vals (List.flatMap rowV rs))) ∧ cap * 2 ≤ tot ∧ n ≤ cap ∧ req ((n + (toN none l' - 1)) * 32 ≤ 140737488355328) (∀ (cap' tot' : Nat), n + (toN none l' - 1) ≤ cap' → cap' * 2 ≤ tot' → Ct (CI s b l c rc) 8 Try.f43 [1, 1] 11 KK { fr := some (SV.raw (Value.func (Fn.yield rc.l) #[] #[])) :: some (SV.loc 3 0) :: some (SV.loc 4 0) :: some (SV.loc 5 0) :: some (SV.loc 2 0) :: some (SV.loc 1 0) :: some (SV.loc 11 0) :: none :: none :: none :: some (I 0) :: some (SV.loc 3 0) :: some (L b0 4224 4224) :: some (SV.rp (VS b0 4224 4224) 14) :: some (SV.raw (U8 n_1)) :: some (B (n_1 != (255 : Int))) :: some (B true) :: some (SV.raw (Value.func (Fn.yield rc.l) #[] #[])) :: some (I 0) :: some (I 14) :: some (SV.slc 13 0 1 1) :: some (SV.clo 66 [] [SV.loc 14 0, SV.loc 15 0]) :: some (B true) :: some (B false) :: some (B false) :: n32 (n2 []), bx := [⟨24, .lst [I s, L b l c], 2, true⟩, ⟨3, .lst [I v], 1, true⟩, ⟨22, .lst [L pb pl pc], 1, true⟩, ⟨56, .lst [L b0 4224 4224, L b1 4224 4224], 2, true⟩, ⟨3, .lst [I 0], 1, true⟩, ⟨3, .lst [I 0], 1, true⟩, ⟨24, .lst [I s, L b l c], 2, true⟩, ⟨33, .lst [L none 0 0], 1, true⟩, ⟨26, .lst [I 0], 1, true⟩, ⟨24, .lst [], 0, false⟩, ⟨33, .lst [SV.slc 17 0 (n + (toN none l' - 1)) cap'], 1, true⟩, ⟨68, .lst [SV.raw (Value.func (Fn.yield rc.l) #[] #[])], 1, true⟩, ⟨24, .lst [], 0, false⟩, ⟨5, .lst [SV.raw (U8 0)], 1, false⟩, ⟨3, .lst [I 14], 1, true⟩, ⟨22, .lst [L (Option.map (fun (x : Addr) => Addr.add x 0) base_1) 1 1], 1, true⟩, ⟨24, .lst [I n_2, L base len cap_1], 2, true⟩, ⟨24, .vals (List.take (n * 2) (List.flatMap rowV rs) ++ List.take ((toN none l' - 1) * 2) cs), tot', true⟩], E := E' : St }))))) else Sx.Alike (AlikeT.n AlikeT.l (AlikeT.n AlikeT.l AlikeT.l)) (Ct (CI s b l c rc) 8 Try.f43 [1, 1] 11 KK { fr := some (SV.raw (Value.func (Fn.yield rc.l) #[] #[])) :: some (SV.loc 3 0) :: some (SV.loc 4 0) :: some (SV.loc 5 0) :: some (SV.loc 2 0) :: some (SV.loc 1 0) :: some (SV.loc 11 0) :: none :: none :: none :: some (I 0) :: some (SV.loc 3 0) :: some (L b0 4224 4224) :: some (SV.rp (VS b0 4224 4224) 14) :: some (SV.raw (U8 n_1)) :: some (B (n_1 != (255 : Int))) :: some (B false) :: some (SV.raw (Value.tuple #[])) :: some (SV.raw (Value.tuple #[])) :: some (SV.raw (Value.tuple #[])) :: some (SV.raw (Value.tuple #[])) :: some (SV.raw (Value.tuple #[])) :: some (SV.raw (Value.tuple #[])) :: some (SV.raw (Value.tuple #[])) :: some (B false) :: n32 (n2 []), bx := [⟨24, .lst [I s, L b l c], 2, true⟩, ⟨3, .lst [I v], 1, true⟩, ⟨22, .lst [L pb pl pc], 1, true⟩, ⟨56, .lst [L b0 4224 4224, L b1 4224 4224], 2, true⟩, ⟨3, .lst [I 0], 1, true⟩, ⟨3, .lst [I 0], 1, true⟩, ⟨24, .lst [I s, L b l c], 2, true⟩, ⟨33, .lst [L none 0 0], 1, true⟩, ⟨26, .lst [I 0], 1, true⟩, ⟨24, .lst [], 0, false⟩, ⟨33, .lst [SV.slc 12 0 n cap], 1, true⟩, ⟨68, .lst [SV.raw (Value.func (Fn.yield rc.l) #[] #[])], 1, true⟩, ⟨24, .vals (List.flatMap rowV rs), tot, true⟩], E := E : St }))
  delta WI NI U8 VS n2 n32
  have hb := H.h0
  have hg : (bankF z 0).getD 14 0 = z.getD (0 + 14) 0 := bank_at (k := 0) (by decide)
  refine ⟨hb.ne (i := 14) (by decide), (bankF z 0).getD 14 0, hb.load rfl (i := 14) (by decide), condC (fun g => ?_) (fun g => ?_)⟩
  · have g : z.getD (0 + 14) 0 ≠ 255 := by rw [hg] at g; simpa using g
    rw [if_pos g] at h
    obtain ⟨q1, b2, c2, q2, q3⟩ := X.load (by omega)
    refine alike ⟨rfl, req_intro q1 ⟨128, b2, 8448, c2, q2, fun bw Ew kw ww => ⟨_, [0], q3.mono kw, Bs.win (zs := [0]) ww rfl rfl (Nat.le_refl _) (by decide), validB, by decide, by decide, fun b3 l3 c3 m3 E3 k3 r3 F3 => ?_⟩⟩⟩
    have r3 : progF 128 (lastM ms).2 ((0 + 14 : Nat) : Int) [0] = (m3, 0) := r3
    obtain ⟨p1, p2, p3, p4⟩ := prog_li X.l1 X.l2 (by simp) r3
    refine X.app (Mem.le_trans kw k3) F3 p1 (by show N + 1 ≤ _; omega) p2 p3 p4 fun base' E' cs cap' tot' rs' e1 e2 e3 => ?_
    rw [e1]
    exact Ct_re [some 0, some 1, some 2, some 3, some 4, some 5, some 6, some 7, some 8, some 9, some 10, some 11, some 17] (h E' _ cap' tot' rs' (Mem.le_trans kw (Mem.le_trans k3 e2)) e3) (wkG (Mem.le_refl _) (h6 := (by repeat' first | exact True.intro | exact rfl | exact Or.inl rfl | exact (by decide : 9 < 18) | refine And.intro ?_ ?_)))
  · have g : z.getD (0 + 14) 0 = 255 := by rw [hg] at g; simpa using g
    rw [if_neg (fun q => q g)] at h
    refine alike ?_
    exact Ct_re [some 0, some 1, some 2, some 3, some 4, some 5, some 6, some 7, some 8, some 9, some 10, some 11, some 12] (h E n cap tot rs (Mem.le_refl _) ⟨X.R, X.hn, X.hc, ⟨X.hb.1, Nat.le_succ_of_le X.hb.2⟩, X.l1, X.l2⟩) (wkG (Mem.le_refl _) (h6 := (by repeat' first | exact True.intro | exact rfl | exact Or.inl rfl | exact (by decide : 9 < 13) | refine And.intro ?_ ?_)))
def shA_1 (s v : Int) (b b0 b1 pb : Option Addr) (l c pl pc : Nat) (rc : Rc) (n cap tot : Nat) (rs : List FRow) (E : Mem) : St := ⟨[some (.raw (.func (.yield rc.l) #[] #[])), some (.loc 3 0), some (.loc 4 0), some (.loc 5 0), some (.loc 2 0), some (.loc 1 0), some (.loc 11 0)] ++ List.replicate 52 none, [⟨24, .lst [I s, L b l c], 2, true⟩, ⟨3, .lst [I v], 1, true⟩, ⟨22, .lst [L pb pl pc], 1, true⟩, ⟨56, .lst [L b0 4224 4224, L b1 4224 4224], 2, true⟩, ⟨3, .lst [I 1], 1, true⟩, ⟨3, .lst [I 4224], 1, true⟩, ⟨24, .lst [I s, L b l c], 2, true⟩, ⟨33, .lst [L none 0 0], 1, true⟩, ⟨26, .lst [I 0], 1, true⟩, ⟨24, .lst [], 0, false⟩, ⟨33, .lst [.slc 12 0 n cap], 1, true⟩, ⟨68, .lst [.raw (.func (.yield rc.l) #[] #[])], 1, true⟩, ⟨24, .vals (rs.flatMap rowV), tot, true⟩], E⟩
theorem y1_1 {s v : Int} {b b0 b1 pb : Option Addr} {l c pl pc : Nat} {z p : List Int} {rc : Rc} {n cap tot N : Nat} {rs : List FRow} {ms : List (Int × List Int)} {KK : KT} (H : HI E s v b b0 b1 pb l c pl pc z p) (X : LI E rs ms n cap tot N) (hN : N ≤ 50000)
    (h : ∀ (E' : Mem) (n' cap' tot' : Nat) (rs' : List FRow), Mem.le E E' → LI E' rs' (if z.getD (4224 + 14) 0 ≠ 255 then progL ms (4224 + 14) [0] else ms) n' cap' tot' (N + 1) → Ct (CI s b l c rc) 8 Try.f43 [1, 1] 11 KK (shA_1 s v b b0 b1 pb l c pl pc rc n' cap' tot' rs' E')) :
    Pc (CI s b l c rc) 8 Try.f43 [1] 11 KK (shA_1 s v b b0 b1 pb l c pl pc rc n cap tot rs E) := by
  refine same (by kernel_rfl) (?_ : (∃ (cs : List Value), E (VS b1 4224 4224) cs ∧ (cs = [] → False)) ∧ ∃ (n_1 : Int), LoadE (CI s b l c rc).P E 5 (VS b1 4224 4224) 14 (SV.raw (U8 n_1)) ∧ bif n_1 != (255 : Int) then Sx.Alike (AlikeT.n AlikeT.l (AlikeT.n AlikeT.l AlikeT.l)) (rc.l = rc.l ∧ req ((0 : Int) ≤ WI ((NI n) - (1 : Int)) ∧ WI ((NI n) - (1 : Int)) < (NI n)) (∃ (n_2 : Int), ∃ (base : Option Addr), ∃ (len : Nat), ∃ (cap_1 : Nat), LoadV CH.P 24 (List.flatMap rowV rs) (0 + Int.toNat (WI ((NI n) - (1 : Int))) * 2) (SV.agg [SV.raw (Value.int IntKind.i64 n_2), SV.raw (VS base len cap_1)]) ∧ ∀ (base_1 : Option Addr) (E' : Mem), Mem.le E E' → WinE E' base_1 [U8 0] → ∃ (zs : List Int), ∃ (ds : List Int), Bs E' base len cap_1 zs ∧ Bs E' (Option.map (fun (x : Addr) => Addr.add x 0) base_1) 1 1 ds ∧ validF n_2 len ∧ (0 : Int) ≤ (4238 : Int) ∧ (4239 : Int) ≤ (NI len) ∧ ∀ (b' : Option Addr) (l' c' : Nat) (ms : List (Int × List Int)) (E'_1 : Mem), Mem.le E' E'_1 → Hyp (progF n_2 zs 4238 ds = (ms, (0 : Int))) → FL E'_1 b' l' c' ms → req (l' ≤ c') (req ((0 : Int) ≤ (1 : Int) ∧ (1 : Int) ≤ (NI (toN none l'))) (∀ (base' : Option Addr) (E' : Mem), Mem.le E'_1 E' → (∀ (cs : List Value), E'_1 (VS b' l' c') cs → E' (VS base' (toN none l' - 1) (toN none c' - 1)) (List.take ((toN none l' - 1) * 2) (List.drop 2 cs))) → Option.isNone base' = Option.isNone b' → ∃ (cs : List Value), (cs = [] ∨ E' (VS base' (toN none l' - 1) (toN none c' - 1)) cs) ∧ (toN none l' - 1) * 2 ≤ List.length cs ∧ (∀ (x : Value), List.Mem x cs → Value.oneCell' x = true) ∧ n * 2 ≤ List.length (Row.cells (Row.vals (List.flatMap rowV rs))) ∧ cap * 2 ≤ tot ∧ n ≤ cap ∧ req ((n + (toN none l' - 1)) * 32 ≤ 140737488355328) (∀ (cap' tot' : Nat), n + (toN none l' - 1) ≤ cap' → cap' * 2 ≤ tot' → Ct (CI s b l c rc) 8 Try.f43 [1, 1] 11 KK { fr := some (SV.raw (Value.func (Fn.yield rc.l) #[] #[])) :: some (SV.loc 3 0) :: some (SV.loc 4 0) :: some (SV.loc 5 0) :: some (SV.loc 2 0) :: some (SV.loc 1 0) :: some (SV.loc 11 0) :: none :: none :: none :: some (I 1) :: some (SV.loc 3 1) :: some (L b1 4224 4224) :: some (SV.rp (VS b1 4224 4224) 14) :: some (SV.raw (U8 n_1)) :: some (B (n_1 != (255 : Int))) :: some (B true) :: some (SV.raw (Value.func (Fn.yield rc.l) #[] #[])) :: some (I 4224) :: some (I 4238) :: some (SV.slc 13 0 1 1) :: some (SV.clo 66 [] [SV.loc 14 0, SV.loc 15 0]) :: some (B true) :: some (B false) :: some (B false) :: n32 (n2 []), bx := [⟨24, .lst [I s, L b l c], 2, true⟩, ⟨3, .lst [I v], 1, true⟩, ⟨22, .lst [L pb pl pc], 1, true⟩, ⟨56, .lst [L b0 4224 4224, L b1 4224 4224], 2, true⟩, ⟨3, .lst [I 1], 1, true⟩, ⟨3, .lst [I 4224], 1, true⟩, ⟨24, .lst [I s, L b l c], 2, true⟩, ⟨33, .lst [L none 0 0], 1, true⟩, ⟨26, .lst [I 0], 1, true⟩, ⟨24, .lst [], 0, false⟩, ⟨33, .lst [SV.slc 17 0 (n + (toN none l' - 1)) cap'], 1, true⟩, ⟨68, .lst [SV.raw (Value.func (Fn.yield rc.l) #[] #[])], 1, true⟩, ⟨24, .lst [], 0, false⟩, ⟨5, .lst [SV.raw (U8 0)], 1, false⟩, ⟨3, .lst [I 4238], 1, true⟩, ⟨22, .lst [L (Option.map (fun (x : Addr) => Addr.add x 0) base_1) 1 1], 1, true⟩, ⟨24, .lst [I n_2, L base len cap_1], 2, true⟩, ⟨24, .vals (List.take (n * 2) (List.flatMap rowV rs) ++ List.take ((toN none l' - 1) * 2) cs), tot', true⟩], E := E' : St }))))) else Sx.Alike (AlikeT.n AlikeT.l (AlikeT.n AlikeT.l AlikeT.l)) (Ct (CI s b l c rc) 8 Try.f43 [1, 1] 11 KK { fr := some (SV.raw (Value.func (Fn.yield rc.l) #[] #[])) :: some (SV.loc 3 0) :: some (SV.loc 4 0) :: some (SV.loc 5 0) :: some (SV.loc 2 0) :: some (SV.loc 1 0) :: some (SV.loc 11 0) :: none :: none :: none :: some (I 1) :: some (SV.loc 3 1) :: some (L b1 4224 4224) :: some (SV.rp (VS b1 4224 4224) 14) :: some (SV.raw (U8 n_1)) :: some (B (n_1 != (255 : Int))) :: some (B false) :: some (SV.raw (Value.tuple #[])) :: some (SV.raw (Value.tuple #[])) :: some (SV.raw (Value.tuple #[])) :: some (SV.raw (Value.tuple #[])) :: some (SV.raw (Value.tuple #[])) :: some (SV.raw (Value.tuple #[])) :: some (SV.raw (Value.tuple #[])) :: some (B false) :: n32 (n2 []), bx := [⟨24, .lst [I s, L b l c], 2, true⟩, ⟨3, .lst [I v], 1, true⟩, ⟨22, .lst [L pb pl pc], 1, true⟩, ⟨56, .lst [L b0 4224 4224, L b1 4224 4224], 2, true⟩, ⟨3, .lst [I 1], 1, true⟩, ⟨3, .lst [I 4224], 1, true⟩, ⟨24, .lst [I s, L b l c], 2, true⟩, ⟨33, .lst [L none 0 0], 1, true⟩, ⟨26, .lst [I 0], 1, true⟩, ⟨24, .lst [], 0, false⟩, ⟨33, .lst [SV.slc 12 0 n cap], 1, true⟩, ⟨68, .lst [SV.raw (Value.func (Fn.yield rc.l) #[] #[])], 1, true⟩, ⟨24, .vals (List.flatMap rowV rs), tot, true⟩], E := E : St }))
  delta WI NI U8 VS n2 n32
  have hb := H.h1
  have hg : (bankF z 1).getD 14 0 = z.getD (4224 + 14) 0 := bank_at (k := 1) (by decide)
  refine ⟨hb.ne (i := 14) (by decide), (bankF z 1).getD 14 0, hb.load rfl (i := 14) (by decide), condC (fun g => ?_) (fun g => ?_)⟩
  · have g : z.getD (4224 + 14) 0 ≠ 255 := by rw [hg] at g; simpa using g
    rw [if_pos g] at h
    obtain ⟨q1, b2, c2, q2, q3⟩ := X.load (by omega)
    refine alike ⟨rfl, req_intro q1 ⟨128, b2, 8448, c2, q2, fun bw Ew kw ww => ⟨_, [0], q3.mono kw, Bs.win (zs := [0]) ww rfl rfl (Nat.le_refl _) (by decide), validB, by decide, by decide, fun b3 l3 c3 m3 E3 k3 r3 F3 => ?_⟩⟩⟩
    have r3 : progF 128 (lastM ms).2 ((4224 + 14 : Nat) : Int) [0] = (m3, 0) := r3
    obtain ⟨p1, p2, p3, p4⟩ := prog_li X.l1 X.l2 (by simp) r3
    refine X.app (Mem.le_trans kw k3) F3 p1 (by show N + 1 ≤ _; omega) p2 p3 p4 fun base' E' cs cap' tot' rs' e1 e2 e3 => ?_
    rw [e1]
    exact Ct_re [some 0, some 1, some 2, some 3, some 4, some 5, some 6, some 7, some 8, some 9, some 10, some 11, some 17] (h E' _ cap' tot' rs' (Mem.le_trans kw (Mem.le_trans k3 e2)) e3) (wkG (Mem.le_refl _) (h6 := (by repeat' first | exact True.intro | exact rfl | exact Or.inl rfl | exact (by decide : 9 < 18) | refine And.intro ?_ ?_)))
  · have g : z.getD (4224 + 14) 0 = 255 := by rw [hg] at g; simpa using g
    rw [if_neg (fun q => q g)] at h
    refine alike ?_
    exact Ct_re [some 0, some 1, some 2, some 3, some 4, some 5, some 6, some 7, some 8, some 9, some 10, some 11, some 12] (h E n cap tot rs (Mem.le_refl _) ⟨X.R, X.hn, X.hc, ⟨X.hb.1, Nat.le_succ_of_le X.hb.2⟩, X.l1, X.l2⟩) (wkG (Mem.le_refl _) (h6 := (by repeat' first | exact True.intro | exact rfl | exact Or.inl rfl | exact (by decide : 9 < 13) | refine And.intro ?_ ?_)))
end Go.Proofs.Ytdblighgcpabnaa.BootOwn
