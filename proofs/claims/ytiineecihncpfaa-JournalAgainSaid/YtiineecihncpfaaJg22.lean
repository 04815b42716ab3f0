/- What functions of the program compute; plain lemmas on it. Conditions: none. -/
import Derived.Test.YtiineecihncpfaaJg15
namespace Go.Proofs.Ytiineecihncpfaa.JournalOwn
open Go Go.Sx
set_option maxRecDepth 100000
set_option maxHeartbeats 4000000
set_option linter.unusedVariables false
set_option linter.unusedSimpArgs false
variable {E : Mem} {K : SV → Mem → Prop}
theorem CallSem.wr3 {P : Program} {f : FuncId} {bx : List Box} {iw ij ir : Nat} {cs : List Value} {vs : List Value} {tot n cap : Nat} {args args' : List SV} {E : Mem} {K : KT} (hw : bx[iw]? = some ⟨65, .lst [.slc ir 0 n cap], 1, true⟩) (hj : bx[ij]? = some ⟨57, .lst (cs.map .raw), 7, true⟩) (hb : bx[ir]? = some ⟨24, .vals vs, tot, true⟩) (hne : iw ≠ ij ∧ iw ≠ ir ∧ ij ≠ ir) (ha : args = SV.renL [iw, ij, ir] bx.length args')
    (h : CallSem P f args' [⟨65, .lst [.slc 2 0 n cap], 1, true⟩, ⟨57, .lst (cs.map .raw), 7, true⟩, ⟨24, .vals vs, tot, true⟩] E (cloK 3 fun s bx' E' => ∃ k n' cap' vs' tot', s = I k ∧ bx' = [⟨65, .lst [.slc 3 0 n' cap'], 1, true⟩, ⟨57, .lst (cs.map .raw), 7, true⟩, ⟨24, .lst [], 0, false⟩, ⟨24, .vals vs', tot', true⟩] ∧ K (I k) ((bx.set iw ⟨65, .lst [.slc bx.length 0 n' cap'], 1, true⟩).set ir ⟨24, .lst [], 0, false⟩ ++ [⟨24, .vals vs', tot', true⟩]) E')) :
    CallSem P f args bx E K := by
  obtain ⟨h1, h2, h3⟩ := hne
  have rawr : ∀ (l : List Value) (σ : List Nat) (m : Nat), SV.renL σ m (l.map .raw) = l.map .raw := fun l σ m => renL_of_val σ m (l.map .raw) (vs := l) (by induction l with | nil => rfl | cons x l ih => simp [SV.valL, SV.val, ih])
  refine frame (σ := [iw, ij, ir]) ⟨by simp [h1, h2, h3], rfl, fun i y hy => ?_⟩ ha h.clo ?_
  · match i, hy with
    | 0, hy =>
      simp only [List.getElem?_cons_zero, Option.some.injEq] at hy; subst hy
      exact ⟨rfl, iw, rfl, hw⟩
    | 1, hy =>
      simp only [List.getElem?_cons_succ, List.getElem?_cons_zero, Option.some.injEq] at hy; subst hy
      refine ⟨rfl, ij, rfl, ?_⟩
      rw [hj]; simp [Box.ren, Row.ren, rawr]
    | 2, hy =>
      simp only [List.getElem?_cons_succ, List.getElem?_cons_zero, Option.some.injEq] at hy; subst hy
      exact ⟨rfl, ir, rfl, hb⟩
  · rintro s bxs' E' ⟨k, n', cap', vs', tot', rfl, rfl, hK⟩
    have e2 : ∀ y, (bx.set iw y).set ij ⟨57, .lst (cs.map .raw), 7, true⟩ = bx.set iw y := fun y => by
      apply List.ext_getElem?
      intro i
      rw [List.getElem?_set]
      split
      · rename_i h'; subst h'
        rw [List.getElem?_set_ne h1, hj]
        have hlt : ij < bx.length := (List.getElem?_eq_some_iff.1 hj).1
        simp only [List.length_set, hlt, if_true]
      · rfl
    simpa [merge, setAll, SV.ren, renF, Box.ren, Row.ren, SV.renL, rawr, e2] using hK
noncomputable def tabI : CallT := fun f args bx E K => match f with
  | 29 => tabB29 29 args bx E K
  | 34 => tabW 34 args bx E K
  | 63 => d2 args fun x0 x1 => dS x0 fun b l c => match x1 with
    | .clo 48 [] [] => ∃ zs : List Int, (Bs E b l c zs ∧ l ≤ 100000) ∧ ∀ r : Int, Hyp (decide (r ≥ 0) = (!(zs.all (fun x => decide (x = 255))))) → K (I r) bx E
    | _ => False
  | 33 => d3 args fun x0 x1 x2 => dS x2 fun kb kn kc => match x0 with
    | .loc iw 0 => match x1 with
      | .loc ij 0 => match bx[iw]? with
        | some ⟨65, .lst [.slc ir 0 1 cap], 1, true⟩ => match bx[ir]? with
          | some ⟨e1, r, tot, true⟩ => match r.val with
            | some vs => ∃ (s g : Int) (b lb : Option Addr) (l c a ln lc e : Nat) (zs : List Int) (rs : List FRow) (keep : List (List Int)), ((iw ≠ ij ∧ iw ≠ ir ∧ ij ≠ ir) ∧ bx[ij]? = some ⟨57, .lst [I s, L b l c, I (a : Nat), I (areaF s zs.length : Nat), I g, L lb ln lc, I (e : Nat)], 7, true⟩ ∧ e1 = 24 ∧ vs = rs.flatMap rowV ∧ FLr E rs [(s, zs)] ∧ (∀ z ∈ zs, 0 ≤ z ∧ z ≤ 255) ∧ (1 ≤ cap ∧ cap * 2 ≤ tot) ∧ areaF s zs.length ≠ 0 ∧ usedF (areaF s zs.length) zs = ((a : Int), g) ∧ BL E kb kn kc keep ∧ kn ≤ 1000 ∧ 5 + needF keep ≤ areaF s zs.length) ∧
               ∀ (n' cap' tot' : Nat) (rs' : List FRow) (E' : Mem), Mem.le E E' → FLr E' rs' (rewL s zs (areaF s zs.length) a g keep) → Hyp ((rewL s zs (areaF s zs.length) a g keep).length = n') → n' ≤ cap' ∧ cap' * 2 ≤ tot' → K (I (areaF s zs.length - a + 5 + needF keep : Nat)) ((bx.set iw ⟨65, .lst [.slc bx.length 0 n' cap'], 1, true⟩).set ir ⟨24, .lst [], 0, false⟩ ++ [⟨24, .vals (rs'.flatMap rowV), tot', true⟩]) E'
            | none => False
          | _ => False
        | _ => False
      | _ => False
    | _ => False
  | _ => False
theorem tabI_ok : ∀ f args bx E K, tabI f args bx E K → CallSem Try.prog f args bx E K := by
  intro f args bx E K h
  unfold tabI at h
  split at h
  · exact tabB29_ok _ _ _ _ _ h
  · exact tabW_ok _ _ _ _ _ h
  · obtain ⟨x0, x1, rfl, h1⟩ := d2_elim h
    obtain ⟨b, l, c, rfl, h2⟩ := dS_elim h1
    clear h h1
    split at h2
    case h_2 => exact h2.elim
    obtain ⟨zs, ⟨hz, hl⟩, hK⟩ := h2
    refine frame (σ := []) (args' := [L b l c, .clo 48 [] []]) ⟨List.nodup_nil, rfl, fun i b h => by simp at h⟩ (by simp [SV.renL, SV.ren]) (EntB.sem okKE Try.func63 ⟨by kernel_rfl, by kernel_rfl⟩ (b63 (KK := fun s bx' E' => ∃ r, s = I r ∧ bx' = [] ∧ K (I r) bx E') hz hl fun r hr => ⟨r, rfl, rfl, hK r hr⟩)) ?_
    rintro s bxs' E' ⟨r, rfl, rfl, hK⟩
    simpa [merge, setAll, SV.ren] using hK
  · obtain ⟨x0, x1, x2, rfl, h1⟩ := d3_elim h
    obtain ⟨kb, kn, kc, rfl, h3⟩ := dS_elim h1
    clear h h1
    split at h3
    case h_2 => exact h3.elim
    rename_i iw
    split at h3
    case h_2 => exact h3.elim
    rename_i ij
    split at h3
    case h_2 => exact h3.elim
    rename_i ir cap hw
    split at h3
    case h_2 => exact h3.elim
    rename_i e1 r tot hb
    split at h3
    case h_2 => exact h3.elim
    rename_i vs hr
    obtain ⟨s, g, b, lb, l, c, a, ln, lc, e, zs, rs, keep, ⟨hne, hj, rfl, rfl, R, hzb, hc, hA, hu, hk, hkn, hroom⟩, hK⟩ := h3
    refine CallSem.asV hb hr ?_
    have hlt : ir < bx.length := (List.getElem?_eq_some_iff.1 hb).1
    have hb2 : (bx.set ir ⟨24, .vals (rs.flatMap rowV), tot, true⟩)[ir]? = some ⟨24, .vals (rs.flatMap rowV), tot, true⟩ := by rw [List.getElem?_set_self hlt]
    have hw2 : (bx.set ir ⟨24, .vals (rs.flatMap rowV), tot, true⟩)[iw]? = some ⟨65, .lst [.slc ir 0 1 cap], 1, true⟩ := by rw [List.getElem?_set_ne (Ne.symm hne.2.1)]; exact hw
    have hj2 : (bx.set ir ⟨24, .vals (rs.flatMap rowV), tot, true⟩)[ij]? = some ⟨57, .lst (([.int .i64 s, .slice b l c, .int .i64 (a : Nat), .int .i64 (areaF s zs.length : Nat), .int .i64 g, .slice lb ln lc, .int .i64 (e : Nat)] : List Value).map .raw), 7, true⟩ := by rw [List.getElem?_set_ne (Ne.symm hne.2.2)]; exact hj
    refine CallSem.wr3 (args' := [.loc 0 0, .loc 1 0, L kb kn kc]) hw2 hj2 hb2 hne (by simp [SV.renL, SV.ren, renF]) (EntB.sem okKD Try.func33 ⟨by kernel_rfl, by kernel_rfl⟩ (b33 (b := b) (lb := lb) (l := l) (c := c) (ln := ln) (lc := lc) (e := e) R hzb hc hA hu hk hkn hroom fun n' cap' tot' rs' E' h1 h2 h3 h4 => ?_))
    refine cloK_intro [some 0, some 1, some 2, some 7] ⟨_, n', cap', _, tot', rfl, rfl, ?_⟩ (wkG (Mem.le_refl _) (h6 := (by repeat' first | exact True.intro | exact rfl | exact Or.inl rfl | exact (by decide : 2 < 8) | refine And.intro ?_ ?_)))
    have := hK n' cap' tot' rs' E' h1 h2 h3 h4
    rw [List.length_set, List.set_comm _ _ (Ne.symm hne.2.1), List.set_set]
    exact this
  · exact h.elim
noncomputable def KI : Cx := { P := Try.prog, inl := fun f => List.contains [31, 32, 46, 47, 49] f, tab := fun _ _ _ _ => False, isB := fun f => f == 29 || f == 33 || f == 34 || f == 63, tabB := tabI, opt := { unroll := 0, carry := [8, 22], cuts := [7] }, muts := (fun o => match o with | .call { callee := .value (.func 31), .. } => true | .call { callee := .value (.func 47), .. } => true | .call { callee := .value (.func 46), .. } => true | .call { callee := .value (.func 49), .. } => true | o => mutsD o) }
theorem okKI : CxOK KI := CxOK.four (fun _ _ _ _ h => h.elim) (by kernel_rfl) (okInl (by kernel_rfl)) tabI_ok
noncomputable def KJ : Cx := { P := Try.prog, inl := fun f => List.contains [31, 32, 46, 47, 49] f, tab := fun _ _ _ _ => False, isB := fun f => f == 29 || f == 33 || f == 34 || f == 63, tabB := tabI, opt := { unroll := 0, carry := [8, 22], cuts := [13] }, muts := (fun o => match o with | .call { callee := .value (.func 31), .. } => true | .call { callee := .value (.func 47), .. } => true | .call { callee := .value (.func 46), .. } => true | .call { callee := .value (.func 49), .. } => true | o => mutsD o) }
theorem okKJ : CxOK KJ := CxOK.four (fun _ _ _ _ h => h.elim) (by kernel_rfl) (okInl (by kernel_rfl)) tabI_ok
theorem readF_nil {s : Int} {zs : List Int} (h : (openF s zs).2 ≠ 0) : (openF s zs).1.1 = [] := by
  by_cases h1 : areaF s zs.length = 0
  · rw [openF_arg h1]
  obtain ⟨u, g, hu⟩ : ∃ u g, usedF (areaF s zs.length) zs = (u, g) := ⟨_, _, rfl⟩
  by_cases h2 : u < 0
  · rw [openF_none h1 hu h2]
  obtain ⟨a, rfl⟩ : ∃ a : Nat, u = a := ⟨u.toNat, by omega⟩
  cases h3 : parseF (recsB (areaF s zs.length) a zs) with
  | none => rw [openF_sum h1 hu h3]
  | some q => rw [openF_ok h1 hu h3] at h; exact absurd rfl h
theorem clean_eq {h a e : Nat} {zs : List Int} : ((((zs.drop a).take h).drop e).all (fun x => decide (x = 255))) = cleanF h a e zs := by
  unfold cleanF
  rw [List.drop_take, List.drop_drop]
theorem open_facts {s : Int} {zs : List Int} {yss : List (List Int)} {a e : Nat} {g : Int} (ro : openF s zs = ((yss, a, g, e), 0)) : areaF s zs.length ≠ 0 ∧ usedF (areaF s zs.length) zs = ((a : Int), g) ∧ (a = 0 ∨ a = areaF s zs.length) ∧ needF yss + 5 = e ∧ e ≤ areaF s zs.length ∧ 11 * yss.length ≤ needF yss ∧ 2 * areaF s zs.length = zs.length ∧ 16 ≤ areaF s zs.length ∧ zs.length ≤ 16384 ∧ validF s zs.length := by
  obtain ⟨ls, a', n, g', hA, hu, hp, ho⟩ := openF_inv (s := s) (zs := zs) (by rw [ro])
  rw [ro] at ho
  simp only [Prod.mk.injEq, and_true] at ho
  obtain ⟨rfl, rfl, rfl, rfl⟩ := ho
  obtain ⟨a1', hv, a3, a4, a5, a6⟩ := areaF_ok hA
  have hn := parseF_len hp
  have ha := used_ok hu
  rw [recs_len (by omega)] at hn
  have hnd := parseF_need hp
  have := needF_ge yss
  exact ⟨hA, hu, ha, by omega, by omega, this, a5, by omega, a6, hv⟩
theorem clean_intro {E : Mem} {b : Option Addr} {l c h a e : Nat} {zs : List Int} (hz : Bs E b l c zs) (hah : a + h ≤ l) (hl : l ≤ 16384) (he : e ≤ h) {Q : Mem → Int → Prop} (k : ∀ (E' : Mem) (r : Int), Mem.le E E' → decide (r ≥ 0) = (!(cleanF h a e zs)) → Q E' r) :
    req (l ≤ c) (req (0 ≤ IntKind.wrap .i64 ((a : Int) + (h : Int)) ∧ IntKind.wrap .i64 ((a : Int) + (h : Int)) ≤ (c : Int)) (req (0 ≤ IntKind.wrap .i64 ((a : Int) + (h : Int)) ∧ IntKind.wrap .i64 ((a : Int) + (h : Int)) ≤ ((toN (some (IntKind.wrap .i64 ((a : Int) + (h : Int)))) c : Nat) : Int)) (req (0 ≤ (a : Int) ∧ (a : Int) ≤ ((toN (some (IntKind.wrap .i64 ((a : Int) + (h : Int)))) l : Nat) : Int)) (∀ (b' : Option Addr) (E' : Mem), Mem.le E E' →
      (∀ cs : List Value, E (.slice b l c) cs → E' (.slice b' (toN (some (IntKind.wrap .i64 ((a : Int) + (h : Int)))) l - toN (some (a : Int)) 0) (toN (some (IntKind.wrap .i64 ((a : Int) + (h : Int)))) c - toN (some (a : Int)) 0)) (List.take ((toN (some (IntKind.wrap .i64 ((a : Int) + (h : Int)))) l - toN (some (a : Int)) 0) * 1) (List.drop (toN (some (a : Int)) 0 * 1) cs))) → b'.isNone = b.isNone →
        req (toN (some (IntKind.wrap .i64 ((a : Int) + (h : Int)))) l - toN (some (a : Int)) 0 ≤ toN (some (IntKind.wrap .i64 ((a : Int) + (h : Int)))) c - toN (some (a : Int)) 0) (req (0 ≤ (e : Int) ∧ (e : Int) ≤ ((toN none (toN (some (IntKind.wrap .i64 ((a : Int) + (h : Int)))) l - toN (some (a : Int)) 0) : Nat) : Int)) (∀ (b2 : Option Addr) (E2 : Mem), Mem.le E' E2 →
          (∀ cs : List Value, E' (.slice b' (toN (some (IntKind.wrap .i64 ((a : Int) + (h : Int)))) l - toN (some (a : Int)) 0) (toN (some (IntKind.wrap .i64 ((a : Int) + (h : Int)))) c - toN (some (a : Int)) 0)) cs → E2 (.slice b2 (toN none (toN (some (IntKind.wrap .i64 ((a : Int) + (h : Int)))) l - toN (some (a : Int)) 0) - toN (some (e : Int)) 0) (toN none (toN (some (IntKind.wrap .i64 ((a : Int) + (h : Int)))) c - toN (some (a : Int)) 0) - toN (some (e : Int)) 0)) (List.take ((toN none (toN (some (IntKind.wrap .i64 ((a : Int) + (h : Int)))) l - toN (some (a : Int)) 0) - toN (some (e : Int)) 0) * 1) (List.drop (toN (some (e : Int)) 0 * 1) cs))) → b2.isNone = b'.isNone →
            ∃ zs' : List Int, (Bs E2 b2 (toN none (toN (some (IntKind.wrap .i64 ((a : Int) + (h : Int)))) l - toN (some (a : Int)) 0) - toN (some (e : Int)) 0) (toN none (toN (some (IntKind.wrap .i64 ((a : Int) + (h : Int)))) c - toN (some (a : Int)) 0) - toN (some (e : Int)) 0) zs' ∧ toN none (toN (some (IntKind.wrap .i64 ((a : Int) + (h : Int)))) l - toN (some (a : Int)) 0) - toN (some (e : Int)) 0 ≤ 100000) ∧
              ∀ r : Int, Hyp (decide (r ≥ 0) = (!(zs'.all (fun x => decide (x = 255))))) → Q E2 r)))))) := by
  have hzl := hz.2.1
  have e1 : IntKind.wrap .i64 ((a : Int) + (h : Int)) = ((a + h : Nat) : Int) := by rw [wrap_i64 (by omega)]; omega
  rw [e1]
  refine slice_introM hz (lo := a) (hi := a + h) rfl rfl (by omega) (by omega) (fun b' E' q hB hl => ?_) Bs.subM
  rw [show a + h - a = h by omega] at hB hl
  rw [hl] at hB ⊢
  refine slice_introE hB (lo := e) rfl he fun b2 E2 k2 hB2 hl2 => ⟨_, ⟨hB2, by omega⟩, fun r hr => k E2 r (Mem.le_trans q k2) ?_⟩
  rw [← clean_eq]; exact hr
theorem j15 {a1 : Int} {b2 : Option Addr} {l3 : Nat} {c4 : Nat} {zs : List Int} (h0 : Bs E b2 l3 c4 zs) (h : ∀ (b' : Option Addr) (l' c' : Nat) (yss : List (List Int)) (e : Int) (E' : Mem), Mem.le E E' → Hyp (readF a1 zs = (yss, e)) → BL E' b' l' c' yss → K (.tup [L b' l' c', I e]) E') :
    Ent KI 8 Try.f15 [.agg [I a1, L b2 l3 c4]] E K := by
  refine same (by kernel_rfl) (?_ : ∃ (zs : List Int), Bs E b2 l3 c4 zs ∧ (∀ (e : Int) (E' : Mem), Mem.le E E' → Hyp ((openF a1 zs).snd = e) → (e = (0 : Int) → False) → Mem.le E E' ∧ bif e != (0 : Int) then Mem.le E E' ∧ K (SV.tup [SV.raw (Value.slice none 0 0), SV.raw (Value.int IntKind.i64 e)]) E' else False) ∧ ∀ (yss : List (List Int)) (a : Nat) (g : Int) (h e : Nat) (lb : Option Addr) (ln lc : Nat) (E' : Mem), Mem.le E E' → Hyp (areaF a1 l3 = h) → Hyp (openF a1 zs = ((yss, a, g, e), (0 : Int))) → BL E' lb ln lc yss → Mem.le E E' ∧ Mem.le E E' ∧ K (SV.tup [SV.raw (Value.slice lb ln lc), SV.raw (Value.int IntKind.i64 (0 : Int))]) E')
  refine ⟨zs, h0, fun e E1 k1 r1 ne => ⟨k1, condC (fun _ => ⟨k1, h none 0 0 [] e E1 k1 ?_ SL.nil⟩) (fun q => absurd (show e = 0 by simpa using q) ne)⟩, fun yss a g hh e lb ln lc E1 k1 rA ro B1 => ⟨k1, k1, h lb ln lc yss 0 E1 k1 ?_ B1⟩⟩
  · have r1 : (openF a1 zs).2 = e := r1
    show readF a1 zs = _
    unfold readF
    rw [r1, readF_nil (fun q => ne (by rw [← r1, q]))]
  · have ro : openF a1 zs = ((yss, a, g, e), 0) := ro
    show readF a1 zs = _
    unfold readF
    rw [ro]
def z17 (s g : Int) (b lb : Option Addr) (l c a h ln lc e : Nat) (d : Option Addr) (dl dc : Nat) (rb : Option Addr) (rl rc x : Nat) (E : Mem) : St := ⟨[none, some (L d dl dc), none, none, none, none, some (.loc 0 0), none, some (.loc 2 0), some (I (x : Nat)), none, none, none, none, none, none, none, none, none, none, none, none, none, none, none, none, none, none, none, none, none, none, none, none, none, none, none, none, none, none, none, none, none, none, none, none, none, none, none, none, none, none, none, none, none, none, none, none, none, none, none, none, none, none, none, none, none, none, none, none, none, none], [⟨57, .lst [I s, L b l c, I (a : Nat), I (h : Nat), I g, L lb ln lc, I (e : Nat)], 7, true⟩, ⟨24, .lst [I s, L rb rl rc], 2, true⟩, ⟨65, .lst [.slc 1 0 1 1], 1, true⟩], E⟩
def z19 (s g : Int) (b lb : Option Addr) (l c a h ln lc e : Nat) (kb : Option Addr) (kn kc : Nat) (rb : Option Addr) (rl rc : Nat) (E : Mem) : St := ⟨[none, some (L kb kn kc), none, none, none, none, some (.loc 0 0), none, none, none, none, some (.loc 2 0), none, none, none, none, none, none, none, none, none, none, none, none, none, none, none, none, none, none, none, none, none, none, none, none, none, none, none, none, none, none, none, none, none, none, none, none, none, none, none, none, none, none, none], [⟨57, .lst [I s, L b l c, I (a : Nat), I (h : Nat), I g, L lb ln lc, I (e : Nat)], 7, true⟩, ⟨24, .lst [I s, L rb rl rc], 2, true⟩, ⟨65, .lst [.slc 1 0 1 1], 1, true⟩], E⟩
theorem y17 {s g : Int} {b lb : Option Addr} {c a ln lc e : Nat} {d : Option Addr} {dl dc : Nat} {rb : Option Addr} {rl rc x : Nat} {E0 : Mem} {zs ds : List Int} {yss : List (List Int)} (hz : Bs E b zs.length c zs) (hr : Bs E rb rl rc zs) (ro : openF s zs = ((yss, a, g, e), 0)) (hB : BL E lb ln lc yss) (hd : Bs E d dl dc ds) (hroom : e + dl + 11 ≤ areaF s zs.length) (hx : x = a + e) (hdl : dl ≤ 60000)
    (hg : cleanF (areaF s zs.length) a e zs = false → ¬ g = 4294967295) (hE : Mem.le E0 E)
    (ex : ∀ (ms : List (Int × List Int)), appendF s zs ds = (ms, 0) → ∀ (b' : Option Addr) (l' c' : Nat) (E' : Mem), Mem.le E0 E' → FL E' b' l' c' ms → K (.tup [L b' l' c', I 0]) E') : Pc KI 8 Try.f17 [1, 1, 1, 1, 1] 0 (pubK E0 K) (z17 s g b lb zs.length c a (areaF s zs.length) ln lc e d dl dc rb rl rc x E) := by
  refine same (by kernel_rfl) (?_ : Sx.Alike (AlikeT.n AlikeT.l AlikeT.l) (req (List.length zs ≤ c) (req ((0 : Int) ≤ WI ((NI a) + (NI (areaF s (List.length zs)))) ∧ WI ((NI a) + (NI (areaF s (List.length zs)))) ≤ (NI c)) (req ((0 : Int) ≤ WI ((NI a) + (NI (areaF s (List.length zs)))) ∧ WI ((NI a) + (NI (areaF s (List.length zs)))) ≤ (NI (toN (some (WI ((NI a) + (NI (areaF s (List.length zs)))))) c))) (req ((0 : Int) ≤ (NI a) ∧ (NI a) ≤ (NI (toN (some (WI ((NI a) + (NI (areaF s (List.length zs)))))) (List.length zs)))) (∀ (base' : Option Addr) (E' : Mem), Mem.le E E' → (∀ (cs : List Value), E (VS b (List.length zs) c) cs → E' (VS base' (toN (some (WI ((NI a) + (NI (areaF s (List.length zs)))))) (List.length zs) - toN (some (NI a)) 0) (toN (some (WI ((NI a) + (NI (areaF s (List.length zs)))))) c - toN (some (NI a)) 0)) (List.take ((toN (some (WI ((NI a) + (NI (areaF s (List.length zs)))))) (List.length zs) - toN (some (NI a)) 0) * 1) (List.drop (toN (some (NI a)) 0 * 1) cs))) → Option.isNone base' = Option.isNone b → req (toN (some (WI ((NI a) + (NI (areaF s (List.length zs)))))) (List.length zs) - toN (some (NI a)) 0 ≤ toN (some (WI ((NI a) + (NI (areaF s (List.length zs)))))) c - toN (some (NI a)) 0) (req ((0 : Int) ≤ (NI e) ∧ (NI e) ≤ (NI (toN none (toN (some (WI ((NI a) + (NI (areaF s (List.length zs)))))) (List.length zs) - toN (some (NI a)) 0)))) (∀ (base'_1 : Option Addr) (E'_1 : Mem), Mem.le E' E'_1 → (∀ (cs : List Value), E' (VS base' (toN (some (WI ((NI a) + (NI (areaF s (List.length zs)))))) (List.length zs) - toN (some (NI a)) 0) (toN (some (WI ((NI a) + (NI (areaF s (List.length zs)))))) c - toN (some (NI a)) 0)) cs → E'_1 (VS base'_1 (toN none (toN (some (WI ((NI a) + (NI (areaF s (List.length zs)))))) (List.length zs) - toN (some (NI a)) 0) - toN (some (NI e)) 0) (toN none (toN (some (WI ((NI a) + (NI (areaF s (List.length zs)))))) c - toN (some (NI a)) 0) - toN (some (NI e)) 0)) (List.take ((toN none (toN (some (WI ((NI a) + (NI (areaF s (List.length zs)))))) (List.length zs) - toN (some (NI a)) 0) - toN (some (NI e)) 0) * 1) (List.drop (toN (some (NI e)) 0 * 1) cs))) → Option.isNone base'_1 = Option.isNone base' → ∃ (zs_1 : List Int), (Bs E'_1 base'_1 (toN none (toN (some (WI ((NI a) + (NI (areaF s (List.length zs)))))) (List.length zs) - toN (some (NI a)) 0) - toN (some (NI e)) 0) (toN none (toN (some (WI ((NI a) + (NI (areaF s (List.length zs)))))) c - toN (some (NI a)) 0) - toN (some (NI e)) 0) zs_1 ∧ toN none (toN (some (WI ((NI a) + (NI (areaF s (List.length zs)))))) (List.length zs) - toN (some (NI a)) 0) - toN (some (NI e)) 0 ≤ 100000) ∧ ∀ (r : Int), Hyp (decide (r ≥ (0 : Int)) = !List.all zs_1 fun (x : Int) => decide (x = (255 : Int))) → bif !!decide (r ≥ (0 : Int)) then ∃ (s_1 : Int), ∃ (g_1 : Int), ∃ (b_1 : Option Addr), ∃ (lb_1 : Option Addr), ∃ (l : Nat), ∃ (c_1 : Nat), ∃ (a_8 : Nat), ∃ (ln_1 : Nat), ∃ (lc_1 : Nat), ∃ (e_1 : Nat), ∃ (zs_2 : List Int), ∃ (rs : List FRow), ∃ (keep : List (List Int)), (((2 = 0 → False) ∧ (2 = 1 → False) ∧ (0 = 1 → False)) ∧ some { elem := 57, row := Row.lst [SV.raw (Value.int IntKind.i64 s), SV.raw (VS b (List.length zs) c), SV.raw (Value.int IntKind.i64 (NI a)), SV.raw (Value.int IntKind.i64 (NI (areaF s (List.length zs)))), SV.raw (Value.int IntKind.i64 g), SV.raw (VS lb ln lc), SV.raw (Value.int IntKind.i64 (NI e))], total := 7, own := true : Box } = some { elem := 57, row := Row.lst [SV.raw (Value.int IntKind.i64 s_1), SV.raw (VS b_1 l c_1), SV.raw (Value.int IntKind.i64 (NI a_8)), SV.raw (Value.int IntKind.i64 (NI (areaF s_1 (List.length zs_2)))), SV.raw (Value.int IntKind.i64 g_1), SV.raw (VS lb_1 ln_1 lc_1), SV.raw (Value.int IntKind.i64 (NI e_1))], total := 7, own := true : Box } ∧ 24 = 24 ∧ [Value.int IntKind.i64 s, VS rb rl rc] = List.flatMap rowV rs ∧ FLr E'_1 rs [(s_1, zs_2)] ∧ (∀ (z : Int), List.Mem z zs_2 → (0 : Int) ≤ z ∧ z ≤ (255 : Int)) ∧ (1 ≤ 1 ∧ 2 ≤ 2) ∧ (areaF s_1 (List.length zs_2) = 0 → False) ∧ usedF (areaF s_1 (List.length zs_2)) zs_2 = ((NI a_8), g_1) ∧ BL E'_1 lb ln lc keep ∧ ln ≤ 1000 ∧ 5 + needF keep ≤ areaF s_1 (List.length zs_2)) ∧ ∀ (n' cap' tot' : Nat) (rs' : List FRow) (E' : Mem), Mem.le E'_1 E' → FLr E' rs' (rewL s_1 zs_2 (areaF s_1 (List.length zs_2)) a_8 g_1 keep) → Hyp (List.length (rewL s_1 zs_2 (areaF s_1 (List.length zs_2)) a_8 g_1 keep) = n') → n' ≤ cap' ∧ cap' * 2 ≤ tot' → ∃ (rs : List FRow), ∃ (ms : List (Int × List Int)), ∃ (ds : List Int), ((2 = 3 → False) ∧ 24 = 24 ∧ List.flatMap rowV rs' = List.flatMap rowV rs ∧ FLr E' rs ms ∧ List.length ms = n' ∧ (n' ≤ cap' ∧ cap' * 2 ≤ tot') ∧ (1 ≤ n' ∧ n' ≤ (100000000000 : Nat)) ∧ Bs E' d dl dc ds ∧ validF (lastM ms).fst (List.length (lastM ms).snd) ∧ (0 : Int) ≤ (NI (areaF s_1 (List.length zs_2) - a_8 + (5 : Nat) + needF keep)) ∧ Int.toNat (NI (areaF s_1 (List.length zs_2) - a_8 + (5 : Nat) + needF keep)) + dl + (11 : Nat) ≤ List.length (lastM ms).snd) ∧ ∀ (n' cap' tot' : Nat) (rs' : List FRow) (E'_2 : Mem), Mem.le E' E'_2 → FLr E'_2 rs' (writeL ms (Int.toNat (NI (areaF s_1 (List.length zs_2) - a_8 + 5 + needF keep))) ds) → Hyp (List.length (writeL ms (Int.toNat (NI (areaF s_1 (List.length zs_2) - a_8 + (5 : Nat) + needF keep))) ds) = n') → n' ≤ cap' ∧ cap' * 2 ≤ tot' → ∀ (base : Option Addr) (E' : Mem), Mem.le E'_2 E' → WinE E' base (List.flatMap rowV rs') → Mem.le E0 E' ∧ K (SV.tup [SV.raw (VS (Option.map (fun (x : Addr) => Addr.add x 0) base) n' cap'), SV.raw (Value.int IntKind.i64 0)]) E' else ∃ (rs : List FRow), ∃ (ms : List (Int × List Int)), ∃ (ds : List Int), ((2 = 1 → False) ∧ 24 = 24 ∧ [Value.int IntKind.i64 s, VS rb rl rc] = List.flatMap rowV rs ∧ FLr E'_1 rs ms ∧ List.length ms = 1 ∧ (1 ≤ 1 ∧ 2 ≤ 2) ∧ (1 ≤ 1 ∧ 1 ≤ 100000000000) ∧ Bs E'_1 d dl dc ds ∧ validF (lastM ms).fst (List.length (lastM ms).snd) ∧ (0 : Int) ≤ (NI x) ∧ Int.toNat (NI x) + dl + 11 ≤ List.length (lastM ms).snd) ∧ ∀ (n' cap' tot' : Nat) (rs' : List FRow) (E' : Mem), Mem.le E'_1 E' → FLr E' rs' (writeL ms (Int.toNat (NI x)) ds) → Hyp (List.length (writeL ms (Int.toNat (NI x)) ds) = n') → n' ≤ cap' ∧ cap' * 2 ≤ tot' → ∀ (base : Option Addr) (E'_2 : Mem), Mem.le E' E'_2 → WinE E'_2 base (List.flatMap rowV rs') → Mem.le E0 E'_2 ∧ K (SV.tup [SV.raw (VS (Option.map (fun (x : Addr) => Addr.add x 0) base) n' cap'), SV.raw (Value.int IntKind.i64 0)]) E'_2))))))))
  delta WI NI VS
  obtain ⟨hA, hu, ha, hn5, heh, hcnt, h2h, h16, hl16, hv⟩ := open_facts ro
  have hdd := hd.2.1
  have hBl := hB.len
  have eqA := appendF_eq ds ro
  refine alike (clean_intro hz (by omega) (by omega) heh fun E1 r k1 hr1 => ?_)
  rw [hr1]
  cases hcl : cleanF (areaF s zs.length) a e zs with
  | false =>
    refine condC (fun _ => ?_) (fun z => by cases z)
    have q2 := hg hcl
    obtain ⟨w1, w2, w3⟩ := rewL_ok (g := g) (keep := yss) hA ha (by omega)
    refine ⟨s, g, b, lb, _, c, a, ln, lc, e, zs, [(s, rb, rl, rc)], yss, ⟨⟨by decide, by decide, by decide⟩, rfl, rfl, rfl, (FLr.nil E1).snoc (r := (s, rb, rl, rc)) (m := (s, zs)) rfl (hr.mono k1), hz.2.2.2.1, ⟨by omega, by omega⟩, hA, hu, hB.mono RB_ok k1, by omega, by omega⟩, fun n1 cap1 tot1 rs1 E2 k2 R2 n2 c2 => ?_⟩
    have n2 : (rewL s zs (areaF s zs.length) a g yss).length = n1 := n2
    have ek : areaF s zs.length - a + 5 + needF yss = areaF s zs.length - a + e := by omega
    refine ⟨rs1, _, ds, ⟨by decide, rfl, rfl, R2, n2, c2, ⟨by omega, by omega⟩, hd.mono (Mem.le_trans k1 k2), by rw [w1, w2]; exact hv, by omega, by rw [Int.toNat_natCast, w2]; omega⟩, fun n3 cap3 tot3 rs3 E3 k3 R3 n3' c3 base E4 k4 w4 => ?_⟩
    rw [Int.toNat_natCast, ek] at R3 n3'
    have kE : Mem.le E0 E4 := Mem.le_trans hE (Mem.le_trans k1 (Mem.le_trans k2 (Mem.le_trans k3 k4)))
    exact ⟨kE, ex _ (by rw [eqA, if_neg (by rw [hcl]; rintro (z | z); omega; exact q2 z.2), if_neg (by rw [hcl]; simp)]) _ _ _ E4 kE (FL.win w4 rfl (R3.mono k4) n3' c3.1)⟩
  | true =>
    refine condC (fun z => by cases z) (fun _ => ?_)
    refine ⟨[(s, rb, rl, rc)], [(s, zs)], ds, ⟨by decide, rfl, rfl, (FLr.nil E1).snoc (r := (s, rb, rl, rc)) (m := (s, zs)) rfl (hr.mono k1), rfl, ⟨by omega, by omega⟩, ⟨by omega, by omega⟩, hd.mono k1, hv, by omega, by rw [Int.toNat_natCast]; show _ ≤ zs.length; omega⟩, fun n3 cap3 tot3 rs3 E3 k3 R3 n3' c3 base E4 k4 w4 => ?_⟩
    rw [Int.toNat_natCast, hx] at R3 n3'
    have kE : Mem.le E0 E4 := Mem.le_trans hE (Mem.le_trans k1 (Mem.le_trans k3 k4))
    exact ⟨kE, ex _ (by rw [eqA, if_neg (by rw [hcl]; rintro (z | z); omega; exact absurd z.1 (by simp)), if_pos hcl]) _ _ _ E4 kE (FL.win w4 rfl (R3.mono k4) n3' c3.1)⟩
theorem y19 {s g : Int} {b lb : Option Addr} {c a ln lc e : Nat} {kb : Option Addr} {kn kc : Nat} {rb : Option Addr} {rl rc : Nat} {E0 : Mem} {zs : List Int} {yss keep : List (List Int)} (hr : Bs E rb rl rc zs) (ro : openF s zs = ((yss, a, g, e), 0)) (hk : BL E kb kn kc keep) (hkn : kn ≤ 1000) (hroom : 5 + needF keep ≤ areaF s zs.length) (hg : ¬ g = 4294967295) (hE : Mem.le E0 E)
    (ex : ∀ (ms : List (Int × List Int)), compactF s zs keep = (ms, 0) → ∀ (b' : Option Addr) (l' c' : Nat) (E' : Mem), Mem.le E0 E' → FL E' b' l' c' ms → K (.tup [L b' l' c', I 0]) E') : Pc KJ 8 Try.f19 [1, 1, 1, 1, 1, 1, 1] 0 (pubK E0 K) (z19 s g b lb zs.length c a (areaF s zs.length) ln lc e kb kn kc rb rl rc E) := by
  refine same (by kernel_rfl) (?_ : ∃ (s_1 : Int), ∃ (g_1 : Int), ∃ (b_1 : Option Addr), ∃ (lb_1 : Option Addr), ∃ (l : Nat), ∃ (c_1 : Nat), ∃ (a_1 : Nat), ∃ (ln_1 : Nat), ∃ (lc_1 : Nat), ∃ (e_1 : Nat), ∃ (zs_1 : List Int), ∃ (rs : List FRow), ∃ (keep : List (List Int)), (((2 = 0 → False) ∧ (2 = 1 → False) ∧ (0 = 1 → False)) ∧ some { elem := 57, row := Row.lst [SV.raw (Value.int IntKind.i64 s), SV.raw (VS b (List.length zs) c), SV.raw (Value.int IntKind.i64 (NI a)), SV.raw (Value.int IntKind.i64 (NI (areaF s (List.length zs)))), SV.raw (Value.int IntKind.i64 g), SV.raw (VS lb ln lc), SV.raw (Value.int IntKind.i64 (NI e))], total := 7, own := true : Box } = some { elem := 57, row := Row.lst [SV.raw (Value.int IntKind.i64 s_1), SV.raw (VS b_1 l c_1), SV.raw (Value.int IntKind.i64 (NI a_1)), SV.raw (Value.int IntKind.i64 (NI (areaF s_1 (List.length zs_1)))), SV.raw (Value.int IntKind.i64 g_1), SV.raw (VS lb_1 ln_1 lc_1), SV.raw (Value.int IntKind.i64 (NI e_1))], total := 7, own := true : Box } ∧ 24 = 24 ∧ [Value.int IntKind.i64 s, VS rb rl rc] = List.flatMap rowV rs ∧ FLr E rs [(s_1, zs_1)] ∧ (∀ (z : Int), List.Mem z zs_1 → (0 : Int) ≤ z ∧ z ≤ (255 : Int)) ∧ (1 ≤ 1 ∧ 2 ≤ 2) ∧ (areaF s_1 (List.length zs_1) = 0 → False) ∧ usedF (areaF s_1 (List.length zs_1)) zs_1 = ((NI a_1), g_1) ∧ BL E kb kn kc keep ∧ kn ≤ 1000 ∧ 5 + needF keep ≤ areaF s_1 (List.length zs_1)) ∧ ∀ (n' cap' tot' : Nat) (rs' : List FRow) (E' : Mem), Mem.le E E' → FLr E' rs' (rewL s_1 zs_1 (areaF s_1 (List.length zs_1)) a_1 g_1 keep) → Hyp (List.length (rewL s_1 zs_1 (areaF s_1 (List.length zs_1)) a_1 g_1 keep) = n') → n' ≤ cap' ∧ cap' * 2 ≤ tot' → ∀ (base : Option Addr) (E'_1 : Mem), Mem.le E' E'_1 → WinE E'_1 base (List.flatMap rowV rs') → Mem.le E0 E'_1 ∧ K (SV.tup [SV.raw (VS (Option.map (fun (x : Addr) => Addr.add x 0) base) n' cap'), SV.raw (Value.int IntKind.i64 0)]) E'_1)
  delta NI VS
  obtain ⟨hA, hu, ha, hn5, heh, hcnt, h2h, h16, hl16, hv⟩ := open_facts ro
  refine ⟨s, g, b, lb, _, c, a, ln, lc, e, zs, [(s, rb, rl, rc)], keep, ⟨⟨by decide, by decide, by decide⟩, rfl, rfl, rfl, (FLr.nil E).snoc (r := (s, rb, rl, rc)) (m := (s, zs)) rfl hr, hr.2.2.2.1, ⟨by omega, by omega⟩, hA, hu, hk, hkn, hroom⟩, fun n1 cap1 tot1 rs1 E2 k2 R2 n2 c2 base E4 k4 w4 => ?_⟩
  have kE : Mem.le E0 E4 := Mem.le_trans hE (Mem.le_trans k2 k4)
  exact ⟨kE, ex _ (by rw [compactF_eq keep ro, if_neg (by rintro (z | z); omega; exact hg z)]) _ _ _ E4 kE (FL.win w4 rfl (R2.mono k4) n2 c2.1)⟩
theorem j17 {a1 : Int} {b2 : Option Addr} {l3 : Nat} {c4 : Nat} {b5 : Option Addr} {l6 : Nat} {c7 : Nat} {zs : List Int} {ds : List Int} (h0 : Bs E b2 l3 c4 zs) (h1 : Bs E b5 l6 c7 ds) (h2 : l6 ≤ 60000) (h : ∀ (b' : Option Addr) (l' c' : Nat) (ms : List (Int × List Int)) (e : Int) (E' : Mem), Mem.le E E' → Hyp (appendF a1 zs ds = (ms, e)) → FL E' b' l' c' ms → K (.tup [L b' l' c', I e]) E') :
    Ent KI 8 Try.f17 [.agg [I a1, L b2 l3 c4], L b5 l6 c7] E K := by
  refine same (by kernel_rfl) (?_ : ∃ (zs : List Int), Bs E b2 l3 c4 zs ∧ (∀ (e : Int) (E' : Mem), Mem.le E E' → Hyp ((openF a1 zs).snd = e) → (e = (0 : Int) → False) → Mem.le E E' ∧ bif e != (0 : Int) then Mem.le E E' ∧ K (SV.tup [SV.raw (VS none 0 0), SV.raw (Value.int IntKind.i64 e)]) E' else False) ∧ ∀ (yss : List (List Int)) (a : Nat) (g : Int) (h e : Nat) (lb : Option Addr) (ln lc : Nat) (E' : Mem), Mem.le E E' → Hyp (areaF a1 l3 = h) → Hyp (openF a1 zs = ((yss, a, g, e), (0 : Int))) → BL E' lb ln lc yss → Mem.le E E' ∧ bif decide (WI (WI ((NI e) + (NI l6)) + (11 : Int)) > (NI h)) then Mem.le E E' ∧ K (SV.tup [SV.raw (VS none 0 0), SV.raw (Value.int IntKind.i64 10)]) E' else Sx.Alike (AlikeT.n AlikeT.l AlikeT.l) (req (l3 ≤ c4) (req ((0 : Int) ≤ WI ((NI a) + (NI h)) ∧ WI ((NI a) + (NI h)) ≤ (NI c4)) (req ((0 : Int) ≤ WI ((NI a) + (NI h)) ∧ WI ((NI a) + (NI h)) ≤ (NI (toN (some (WI ((NI a) + (NI h)))) c4))) (req ((0 : Int) ≤ (NI a) ∧ (NI a) ≤ (NI (toN (some (WI ((NI a) + (NI h)))) l3))) (∀ (base' : Option Addr) (E'_1 : Mem), Mem.le E' E'_1 → (∀ (cs : List Value), E' (VS b2 l3 c4) cs → E'_1 (VS base' (toN (some (WI ((NI a) + (NI h)))) l3 - toN (some (NI a)) 0) (toN (some (WI ((NI a) + (NI h)))) c4 - toN (some (NI a)) 0)) (List.take ((toN (some (WI ((NI a) + (NI h)))) l3 - toN (some (NI a)) 0) * 1) (List.drop (toN (some (NI a)) 0 * 1) cs))) → Option.isNone base' = Option.isNone b2 → req (toN (some (WI ((NI a) + (NI h)))) l3 - toN (some (NI a)) 0 ≤ toN (some (WI ((NI a) + (NI h)))) c4 - toN (some (NI a)) 0) (req ((0 : Int) ≤ (NI e) ∧ (NI e) ≤ (NI (toN none (toN (some (WI ((NI a) + (NI h)))) l3 - toN (some (NI a)) 0)))) (∀ (base'_1 : Option Addr) (E' : Mem), Mem.le E'_1 E' → (∀ (cs : List Value), E'_1 (VS base' (toN (some (WI ((NI a) + (NI h)))) l3 - toN (some (NI a)) 0) (toN (some (WI ((NI a) + (NI h)))) c4 - toN (some (NI a)) 0)) cs → E' (VS base'_1 (toN none (toN (some (WI ((NI a) + (NI h)))) l3 - toN (some (NI a)) 0) - toN (some (NI e)) 0) (toN none (toN (some (WI ((NI a) + (NI h)))) c4 - toN (some (NI a)) 0) - toN (some (NI e)) 0)) (List.take ((toN none (toN (some (WI ((NI a) + (NI h)))) l3 - toN (some (NI a)) 0) - toN (some (NI e)) 0) * 1) (List.drop (toN (some (NI e)) 0 * 1) cs))) → Option.isNone base'_1 = Option.isNone base' → ∃ (zs : List Int), (Bs E' base'_1 (toN none (toN (some (WI ((NI a) + (NI h)))) l3 - toN (some (NI a)) 0) - toN (some (NI e)) 0) (toN none (toN (some (WI ((NI a) + (NI h)))) c4 - toN (some (NI a)) 0) - toN (some (NI e)) 0) zs ∧ toN none (toN (some (WI ((NI a) + (NI h)))) l3 - toN (some (NI a)) 0) - toN (some (NI e)) 0 ≤ 100000) ∧ ∀ (r : Int), Hyp (decide (r ≥ (0 : Int)) = !List.all zs fun (x : Int) => decide (x = (255 : Int))) → bif !!decide (r ≥ (0 : Int)) then bif bif false then true else bif true then g == (4294967295 : Int) else false then Mem.le E E' ∧ K (SV.tup [SV.raw (VS none 0 0), SV.raw (Value.int IntKind.i64 10)]) E' else Sx.Alike (AlikeT.n AlikeT.l AlikeT.l) (bif Option.isNone b2 then Mem.le E' E' ∧ Mem.le E' E' ∧ Ct KI 8 Try.f17 [1, 1, 1, 1, 1] 0 (pubK E K) { fr := some (SV.agg [I a1, L b2 l3 c4]) :: some (L b5 l6 c7) :: some (SV.loc 0 0) :: none :: some (L none 0 0) :: some (I 0) :: some (SV.loc 1 0) :: some (I 0) :: some (SV.loc 4 0) :: some (I (WI ((NI a) + (NI e)))) :: some (SV.tup [SV.loc 1 0, I 0]) :: some (SV.agg [I a1, L b2 l3 c4]) :: some (SV.tup [SV.loc 1 0, I 0]) :: some (SV.loc 1 0) :: some (I 0) :: some (I 0) :: some (B false) :: none :: some (SV.loc 1 0) :: some (SV.loc 1 0) :: some (SV.loc 1 6) :: some (I (NI e)) :: some (L b5 l6 c7) :: some (I (NI l6)) :: some (I (WI ((NI e) + (NI l6)))) :: some (I (WI (WI ((NI e) + (NI l6)) + (11 : Int)))) :: some (SV.loc 1 0) :: some (SV.loc 1 0) :: some (SV.loc 1 3) :: some (I (NI h)) :: some (B (decide (WI (WI ((NI e) + (NI l6)) + (11 : Int)) > (NI h)))) :: some (B false) :: some (SV.loc 1 0) :: some (B !decide (r ≥ (0 : Int))) :: some (B !!decide (r ≥ (0 : Int))) :: some (B true) :: some (SV.loc 1 0) :: some (SV.loc 1 0) :: some (SV.loc 1 4) :: some (I g) :: some (B (g == (4294967295 : Int))) :: some (B (bif true then g == (4294967295 : Int) else false)) :: some (B (bif false then true else bif true then g == (4294967295 : Int) else false)) :: some (SV.agg [I a1, L b2 l3 c4]) :: some (SV.loc 4 0) :: some (SV.loc 1 0) :: some (SV.loc 1 0) :: some (SV.loc 1 2) :: some (I (NI a)) :: some (SV.loc 1 0) :: some (SV.loc 1 0) :: some (SV.loc 1 6) :: some (I (NI e)) :: some (I (WI ((NI a) + (NI e)))) :: n16 (n2 []), bx := [⟨24, .lst [I a1, L b2 l3 c4], 2, true⟩, ⟨57, .lst [I a1, L b2 l3 c4, I (NI a), I (NI h), I g, L lb ln lc, I (NI e)], 7, true⟩, ⟨24, .lst [I a1, L b2 l3 c4], 2, true⟩, ⟨24, .lst [I a1, L none 0 0], 2, true⟩, ⟨65, .lst [SV.slc 3 0 1 1], 1, true⟩], E := E' : St } else ∃ (cs : List Value), (cs = [] ∨ E' (VS b2 l3 c4) cs) ∧ l3 * 1 ≤ List.length cs ∧ (∀ (x : Value), List.Mem x cs → Value.oneCell' x = true) ∧ 0 ≤ 0 ∧ 0 ≤ 0 ∧ 0 ≤ 0 ∧ req ((0 + l3) * 1 ≤ 140737488355328) (∀ (cap' tot' : Nat), 0 + l3 ≤ cap' → cap' * 1 ≤ tot' → Mem.le E' E' ∧ Mem.le E' E' ∧ Ct KI 8 Try.f17 [1, 1, 1, 1, 1] 0 (pubK E K) { fr := some (SV.agg [I a1, L b2 l3 c4]) :: some (L b5 l6 c7) :: some (SV.loc 0 0) :: none :: some (L none 0 0) :: some (I 0) :: some (SV.loc 1 0) :: some (I 0) :: some (SV.loc 6 0) :: some (I (WI ((NI a) + (NI e)))) :: some (SV.tup [SV.loc 1 0, I 0]) :: some (SV.agg [I a1, L b2 l3 c4]) :: some (SV.tup [SV.loc 1 0, I 0]) :: some (SV.loc 1 0) :: some (I 0) :: some (I 0) :: some (B false) :: none :: some (SV.loc 1 0) :: some (SV.loc 1 0) :: some (SV.loc 1 6) :: some (I (NI e)) :: some (L b5 l6 c7) :: some (I (NI l6)) :: some (I (WI ((NI e) + (NI l6)))) :: some (I (WI (WI ((NI e) + (NI l6)) + (11 : Int)))) :: some (SV.loc 1 0) :: some (SV.loc 1 0) :: some (SV.loc 1 3) :: some (I (NI h)) :: some (B (decide (WI (WI ((NI e) + (NI l6)) + (11 : Int)) > (NI h)))) :: some (B false) :: some (SV.loc 1 0) :: some (B !decide (r ≥ (0 : Int))) :: some (B !!decide (r ≥ (0 : Int))) :: some (B true) :: some (SV.loc 1 0) :: some (SV.loc 1 0) :: some (SV.loc 1 4) :: some (I g) :: some (B (g == (4294967295 : Int))) :: some (B (bif true then g == (4294967295 : Int) else false)) :: some (B (bif false then true else bif true then g == (4294967295 : Int) else false)) :: some (SV.agg [I a1, L b2 l3 c4]) :: some (SV.loc 6 0) :: some (SV.loc 1 0) :: some (SV.loc 1 0) :: some (SV.loc 1 2) :: some (I (NI a)) :: some (SV.loc 1 0) :: some (SV.loc 1 0) :: some (SV.loc 1 6) :: some (I (NI e)) :: some (I (WI ((NI a) + (NI e)))) :: n16 (n2 []), bx := [⟨24, .lst [I a1, L b2 l3 c4], 2, true⟩, ⟨57, .lst [I a1, L b2 l3 c4, I (NI a), I (NI h), I g, L lb ln lc, I (NI e)], 7, true⟩, ⟨24, .lst [I a1, L b2 l3 c4], 2, true⟩, ⟨5, .lst [], 0, false⟩, ⟨5, .vals ([] ++ List.take (l3 * (1 : Nat)) cs), tot', true⟩, ⟨24, .lst [I a1, SV.slc 4 0 ((0 : Nat) + l3) cap'], 2, true⟩, ⟨65, .lst [SV.slc 5 0 1 1], 1, true⟩], E := E' : St })) else Sx.Alike (AlikeT.n AlikeT.l AlikeT.l) (bif Option.isNone b2 then Mem.le E' E' ∧ Mem.le E' E' ∧ Ct KI 8 Try.f17 [1, 1, 1, 1, 1] 0 (pubK E K) { fr := some (SV.agg [I a1, L b2 l3 c4]) :: some (L b5 l6 c7) :: some (SV.loc 0 0) :: none :: some (L none 0 0) :: some (I 0) :: some (SV.loc 1 0) :: some (I 0) :: some (SV.loc 4 0) :: some (I (WI ((NI a) + (NI e)))) :: some (SV.tup [SV.loc 1 0, I 0]) :: some (SV.agg [I a1, L b2 l3 c4]) :: some (SV.tup [SV.loc 1 0, I 0]) :: some (SV.loc 1 0) :: some (I 0) :: some (I 0) :: some (B false) :: none :: some (SV.loc 1 0) :: some (SV.loc 1 0) :: some (SV.loc 1 6) :: some (I (NI e)) :: some (L b5 l6 c7) :: some (I (NI l6)) :: some (I (WI ((NI e) + (NI l6)))) :: some (I (WI (WI ((NI e) + (NI l6)) + (11 : Int)))) :: some (SV.loc 1 0) :: some (SV.loc 1 0) :: some (SV.loc 1 3) :: some (I (NI h)) :: some (B (decide (WI (WI ((NI e) + (NI l6)) + (11 : Int)) > (NI h)))) :: some (B false) :: some (SV.loc 1 0) :: some (B !decide (r ≥ (0 : Int))) :: some (B !!decide (r ≥ (0 : Int))) :: some (B false) :: some (SV.raw (Value.tuple #[])) :: some (SV.raw (Value.tuple #[])) :: some (SV.raw (Value.tuple #[])) :: some (SV.raw (Value.tuple #[])) :: some (SV.raw (Value.tuple #[])) :: some (B false) :: some (B false) :: some (SV.agg [I a1, L b2 l3 c4]) :: some (SV.loc 4 0) :: some (SV.loc 1 0) :: some (SV.loc 1 0) :: some (SV.loc 1 2) :: some (I (NI a)) :: some (SV.loc 1 0) :: some (SV.loc 1 0) :: some (SV.loc 1 6) :: some (I (NI e)) :: some (I (WI ((NI a) + (NI e)))) :: n16 (n2 []), bx := [⟨24, .lst [I a1, L b2 l3 c4], 2, true⟩, ⟨57, .lst [I a1, L b2 l3 c4, I (NI a), I (NI h), I g, L lb ln lc, I (NI e)], 7, true⟩, ⟨24, .lst [I a1, L b2 l3 c4], 2, true⟩, ⟨24, .lst [I a1, L none 0 0], 2, true⟩, ⟨65, .lst [SV.slc 3 0 1 1], 1, true⟩], E := E' : St } else ∃ (cs : List Value), (cs = [] ∨ E' (VS b2 l3 c4) cs) ∧ l3 * 1 ≤ List.length cs ∧ (∀ (x : Value), List.Mem x cs → Value.oneCell' x = true) ∧ 0 ≤ 0 ∧ 0 ≤ 0 ∧ 0 ≤ 0 ∧ req ((0 + l3) * 1 ≤ 140737488355328) (∀ (cap' tot' : Nat), 0 + l3 ≤ cap' → cap' * 1 ≤ tot' → Mem.le E' E' ∧ Mem.le E' E' ∧ Ct KI 8 Try.f17 [1, 1, 1, 1, 1] 0 (pubK E K) { fr := some (SV.agg [I a1, L b2 l3 c4]) :: some (L b5 l6 c7) :: some (SV.loc 0 0) :: none :: some (L none 0 0) :: some (I 0) :: some (SV.loc 1 0) :: some (I 0) :: some (SV.loc 6 0) :: some (I (WI ((NI a) + (NI e)))) :: some (SV.tup [SV.loc 1 0, I 0]) :: some (SV.agg [I a1, L b2 l3 c4]) :: some (SV.tup [SV.loc 1 0, I 0]) :: some (SV.loc 1 0) :: some (I 0) :: some (I 0) :: some (B false) :: none :: some (SV.loc 1 0) :: some (SV.loc 1 0) :: some (SV.loc 1 6) :: some (I (NI e)) :: some (L b5 l6 c7) :: some (I (NI l6)) :: some (I (WI ((NI e) + (NI l6)))) :: some (I (WI (WI ((NI e) + (NI l6)) + (11 : Int)))) :: some (SV.loc 1 0) :: some (SV.loc 1 0) :: some (SV.loc 1 3) :: some (I (NI h)) :: some (B (decide (WI (WI ((NI e) + (NI l6)) + (11 : Int)) > (NI h)))) :: some (B false) :: some (SV.loc 1 0) :: some (B !decide (r ≥ (0 : Int))) :: some (B !!decide (r ≥ (0 : Int))) :: some (B false) :: some (SV.raw (Value.tuple #[])) :: some (SV.raw (Value.tuple #[])) :: some (SV.raw (Value.tuple #[])) :: some (SV.raw (Value.tuple #[])) :: some (SV.raw (Value.tuple #[])) :: some (B false) :: some (B false) :: some (SV.agg [I a1, L b2 l3 c4]) :: some (SV.loc 6 0) :: some (SV.loc 1 0) :: some (SV.loc 1 0) :: some (SV.loc 1 2) :: some (I (NI a)) :: some (SV.loc 1 0) :: some (SV.loc 1 0) :: some (SV.loc 1 6) :: some (I (NI e)) :: some (I (WI ((NI a) + (NI e)))) :: n16 (n2 []), bx := [⟨24, .lst [I a1, L b2 l3 c4], 2, true⟩, ⟨57, .lst [I a1, L b2 l3 c4, I (NI a), I (NI h), I g, L lb ln lc, I (NI e)], 7, true⟩, ⟨24, .lst [I a1, L b2 l3 c4], 2, true⟩, ⟨5, .lst [], 0, false⟩, ⟨5, .vals ([] ++ List.take (l3 * 1) cs), tot', true⟩, ⟨24, .lst [I a1, SV.slc 4 0 (0 + l3) cap'], 2, true⟩, ⟨65, .lst [SV.slc 5 0 1 1], 1, true⟩], E := E' : St }))))))))))
  delta WI NI VS n2 n16
  have hl := h0.2.1
  subst hl
  have hdl := h1.2.1
  have ex : ∀ {ms : List (Int × List Int)} {e : Int}, appendF a1 zs ds = (ms, e) → ∀ (b' : Option Addr) (l' c' : Nat) (E' : Mem), Mem.le E E' → FL E' b' l' c' ms → K (.tup [L b' l' c', I e]) E' := fun he b' l' c' E' hE hF => h b' l' c' _ _ E' hE he hF
  refine ⟨zs, h0, fun e E1 k1 r1 ne => ⟨k1, condC (fun _ => ⟨k1, ex ?_ none 0 0 E1 k1 (FL.nil _)⟩) (fun q => absurd (show e = 0 by simpa using q) ne)⟩, fun yss a g hh e lb ln lc E1 k1 rA ro B1 => ⟨k1, condC (fun q => ⟨k1, ex ?_ none 0 0 E1 k1 (FL.nil _)⟩) (fun q => alike ?_)⟩⟩
  · have r1 : (openF a1 zs).2 = e := r1
    unfold appendF
    rw [if_pos (by rw [r1]; exact ne), r1]
  all_goals
    have rA : areaF a1 zs.length = hh := rA
    subst rA
    have ro : openF a1 zs = ((yss, a, g, e), 0) := ro
    obtain ⟨hA, hu, ha, hn5, heh, hcnt, h2h, h16, hl16, hv⟩ := open_facts ro
    have eqA := appendF_eq ds ro
    have e1 : IntKind.wrap .i64 (IntKind.wrap .i64 ((e : Int) + ((l6 : Nat) : Int)) + 11) = ((e + l6 + 11 : Nat) : Int) := by rw [wrap_i64 (x := (e : Int) + ((l6 : Nat) : Int)) (by omega), wrap_i64 (by omega)]; omega
    rw [e1] at q
  · rw [eqA, if_pos (.inl (by simp at q; omega))]
  have q : e + l6 + 11 ≤ areaF a1 zs.length := by simp at q; omega
  have e2 : IntKind.wrap .i64 ((a : Int) + (e : Int)) = ((a + e : Nat) : Int) := by rw [wrap_i64 (by omega)]; omega
  have h16l : 1 ≤ zs.length := by omega
  refine clean_intro (h0.mono k1) (by omega) (by omega) heh fun E2 r k2 hr1 => ?_
  rw [hr1, e2]
  have hzE := h0.mono (Mem.le_trans k1 k2)
  cases hcl : cleanF (areaF a1 zs.length) a e zs with
  | false =>
    refine condC (fun _ => condC (fun q2 => ⟨Mem.le_trans k1 k2, ex (by rw [eqA, if_pos (.inr ⟨hcl, by simpa using q2⟩)]) none 0 0 E2 (Mem.le_trans k1 k2) (FL.nil _)⟩) (fun q2 => ?_)) (fun z => by cases z)
    have q2 : ¬ g = 4294967295 := by simpa using q2
    refine alike (condC (fun z => absurd (hzE.2.2.2.2 (by simpa using z)) (by intro z2; rw [z2] at h16l; simp at h16l)) (fun _ => ?_))
    obtain ⟨t1, t2, t3⟩ := hzE.src
    refine ⟨_, t1, t2, t3, Nat.le_refl _, Nat.le_refl _, Nat.le_refl _, req_intro (by omega) fun cap1 tot1 c1 c2 => ⟨Mem.le_refl _, Mem.le_refl _, ?_⟩⟩
    refine Ct_pub 4 _ _ rfl rfl fun base E3 k3 w3 => ?_
    have hB3 : Bs E3 (base.map fun x => x.add 0) (0 + zs.length) cap1 zs := Bs.win w3 (by rw [List.nil_append, List.take_of_length_le (by simp)]) (by omega) (by omega) hzE.2.2.2.1
    have key := Ct_intro okKI (y17 (x := a + e) (hzE.mono k3) hB3 ro (B1.mono RB_ok (Mem.le_trans k2 k3)) (h1.mono (Mem.le_trans k1 (Mem.le_trans k2 k3))) q rfl h2 (fun _ => q2) (Mem.le_trans k1 (Mem.le_trans k2 k3)) (fun ms he => ex he))
    exact Ct_re [some 1, some 5, some 6] (key) (wkG (Mem.le_refl _))
  | true =>
    refine condC (fun z => by cases z) (fun _ => ?_)
    refine alike (condC (fun z => absurd (hzE.2.2.2.2 (by simpa using z)) (by intro z2; rw [z2] at h16l; simp at h16l)) (fun _ => ?_))
    obtain ⟨t1, t2, t3⟩ := hzE.src
    refine ⟨_, t1, t2, t3, Nat.le_refl _, Nat.le_refl _, Nat.le_refl _, req_intro (by omega) fun cap1 tot1 c1 c2 => ⟨Mem.le_refl _, Mem.le_refl _, ?_⟩⟩
    refine Ct_pub 4 _ _ rfl rfl fun base E3 k3 w3 => ?_
    have hB3 : Bs E3 (base.map fun x => x.add 0) (0 + zs.length) cap1 zs := Bs.win w3 (by rw [List.nil_append, List.take_of_length_le (by simp)]) (by omega) (by omega) hzE.2.2.2.1
    have key := Ct_intro okKI (y17 (x := a + e) (hzE.mono k3) hB3 ro (B1.mono RB_ok (Mem.le_trans k2 k3)) (h1.mono (Mem.le_trans k1 (Mem.le_trans k2 k3))) q rfl h2 (fun z => by rw [hcl] at z; cases z) (Mem.le_trans k1 (Mem.le_trans k2 k3)) (fun ms he => ex he))
    exact Ct_re [some 1, some 5, some 6] (key) (wkG (Mem.le_refl _))
def l19 (s g : Int) (b lb : Option Addr) (l c a h ln lc e : Nat) (kb : Option Addr) (kn kc : Nat) (x i : Nat) (E : Mem) : St := ⟨[none, some (L kb kn kc), some (.loc 0 0), none, none, none, some (.loc 1 0), none, some (I (x : Nat)), none, none, none, none, none, none, none, none, none, none, none, some (L kb kn kc), some (I (kn : Nat)), some (I (i : Nat)), none, none, none, none, none, none, none, none, none, none, none, none, none, none, none, none, none, none, none, none, none, none, none, none, none, none, none, none, none, none, none, none], [⟨24, .lst [I s, L b l c], 2, true⟩, ⟨57, .lst [I s, L b l c, I (a : Nat), I (h : Nat), I g, L lb ln lc, I (e : Nat)], 7, true⟩], E⟩
theorem y19r {s g : Int} {b lb : Option Addr} {c a ln lc e : Nat} {kb : Option Addr} {kn kc : Nat} {i : Nat} {E0 : Mem} {zs : List Int} {yss keep : List (List Int)} (hz : Bs E b zs.length c zs) (ro : openF s zs = ((yss, a, g, e), 0)) (hk : BL E kb kn kc keep) (hkl : ∀ d ∈ keep, d.length ≤ 60000) (hkn : kn ≤ 1000) (hi : i ≤ kn) (hE : Mem.le E0 E)
    (ex : ∀ (ms : List (Int × List Int)) (e : Int), compactF s zs keep = (ms, e) → ∀ (b' : Option Addr) (l' c' : Nat) (E' : Mem), Mem.le E0 E' → FL E' b' l' c' ms → K (.tup [L b' l' c', I e]) E')
    (ih : i < kn → Lp KJ 8 Try.f19 [1, 1, 1, 1, 0, 1, 0] 0 (pubK E0 K) (l19 s g b lb zs.length c a (areaF s zs.length) ln lc e kb kn kc (5 + needF (keep.take (i + 1))) (i + 1) E)) : Rnd KJ 8 Try.f19 [1, 1, 1, 1, 0, 1, 0] 0 (pubK E0 K) (l19 s g b lb zs.length c a (areaF s zs.length) ln lc e kb kn kc (5 + needF (keep.take i)) i E) := by
  refine same (by kernel_rfl) (?_ : bif decide ((NI i) < (NI kn)) then req ((0 : Int) ≤ (NI i) ∧ (NI i) < (NI kn)) ((∃ (cs : List Value), E (VS kb kn kc) cs ∧ (cs = [] → False)) ∧ ∃ (base : Option Addr), ∃ (len : Nat), ∃ (cap : Nat), LoadE KJ.P E 22 (VS kb kn kc) (Int.toNat (NI i) * 1) (SV.raw (VS base len cap)) ∧ Lp KJ 8 Try.f19 [1, 1, 1, 1, 0, 1, 0] 0 (pubK E0 K) { fr := none :: some (L kb kn kc) :: some (SV.loc 0 0) :: none :: none :: none :: some (SV.loc 1 0) :: none :: some (I (WI ((NI (5 + needF (List.take i keep))) + WI ((NI len) + (11 : Int))))) :: n8 (n2 (none :: (some (L kb kn kc) :: some (I (NI kn)) :: some (I (WI ((NI i) + (1 : Int)))) :: n32 []))), bx := [⟨24, .lst [I s, L b (List.length zs) c], 2, true⟩, ⟨57, .lst [I s, L b (List.length zs) c, I (NI a), I (NI (areaF s (List.length zs))), I g, L lb ln lc, I (NI e)], 7, true⟩], E := E : St }) else bif decide ((NI (5 + needF (List.take i keep))) > (NI (areaF s (List.length zs)))) then Mem.le E0 E ∧ K (SV.tup [SV.raw (VS none 0 0), SV.raw (Value.int IntKind.i64 10)]) E else bif bif false then true else g == (4294967295 : Int) then Mem.le E0 E ∧ K (SV.tup [SV.raw (VS none 0 0), SV.raw (Value.int IntKind.i64 10)]) E else Sx.Alike (AlikeT.n AlikeT.l AlikeT.l) (bif Option.isNone b then Mem.le E E ∧ Mem.le E E ∧ Ct KJ 8 Try.f19 [1, 1, 1, 1, 1, 1, 1] 0 (pubK E0 K) { fr := none :: some (L kb kn kc) :: some (SV.loc 0 0) :: none :: none :: none :: some (SV.loc 1 0) :: none :: some (I (NI (5 + needF (List.take i keep)))) :: none :: none :: some (SV.loc 4 0) :: n8 (some (L kb kn kc) :: some (I (NI kn)) :: some (I (NI i)) :: some (B (decide ((NI i) < (NI kn)))) :: n8 (some (I (NI (5 + needF (List.take i keep)))) :: some (SV.loc 1 0) :: some (SV.loc 1 0) :: some (SV.loc 1 3) :: some (I (NI (areaF s (List.length zs)))) :: some (B (decide ((NI (5 + needF (List.take i keep))) > (NI (areaF s (List.length zs)))))) :: some (B false) :: some (SV.loc 1 0) :: some (SV.loc 1 0) :: some (SV.loc 1 4) :: some (I g) :: some (B (g == (4294967295 : Int))) :: some (B (bif false then true else g == (4294967295 : Int))) :: some (SV.agg [I s, L b (List.length zs) c]) :: some (SV.loc 4 0) :: n8 [])), bx := [⟨24, .lst [I s, L b (List.length zs) c], 2, true⟩, ⟨57, .lst [I s, L b (List.length zs) c, I (NI a), I (NI (areaF s (List.length zs))), I g, L lb ln lc, I (NI e)], 7, true⟩, ⟨24, .lst [I s, L b (List.length zs) c], 2, true⟩, ⟨24, .lst [I s, L none 0 0], 2, true⟩, ⟨65, .lst [SV.slc 3 0 1 1], 1, true⟩], E := E : St } else ∃ (cs : List Value), (cs = [] ∨ E (VS b (List.length zs) c) cs) ∧ List.length zs * 1 ≤ List.length cs ∧ (∀ (x : Value), List.Mem x cs → Value.oneCell' x = true) ∧ 0 ≤ 0 ∧ 0 ≤ 0 ∧ 0 ≤ 0 ∧ req ((0 + List.length zs) * 1 ≤ 140737488355328) (∀ (cap' tot' : Nat), 0 + List.length zs ≤ cap' → cap' * 1 ≤ tot' → Mem.le E E ∧ Mem.le E E ∧ Ct KJ 8 Try.f19 [1, 1, 1, 1, 1, 1, 1] 0 (pubK E0 K) { fr := none :: some (L kb kn kc) :: some (SV.loc 0 0) :: none :: none :: none :: some (SV.loc 1 0) :: none :: some (I (NI (5 + needF (List.take i keep)))) :: none :: none :: some (SV.loc 6 0) :: n8 (some (L kb kn kc) :: some (I (NI kn)) :: some (I (NI i)) :: some (B (decide ((NI i) < (NI kn)))) :: n8 (some (I (NI (5 + needF (List.take i keep)))) :: some (SV.loc 1 0) :: some (SV.loc 1 0) :: some (SV.loc 1 3) :: some (I (NI (areaF s (List.length zs)))) :: some (B (decide ((NI (5 + needF (List.take i keep))) > (NI (areaF s (List.length zs)))))) :: some (B false) :: some (SV.loc 1 0) :: some (SV.loc 1 0) :: some (SV.loc 1 4) :: some (I g) :: some (B (g == (4294967295 : Int))) :: some (B (bif false then true else g == (4294967295 : Int))) :: some (SV.agg [I s, L b (List.length zs) c]) :: some (SV.loc 6 0) :: n8 [])), bx := [⟨24, .lst [I s, L b (List.length zs) c], 2, true⟩, ⟨57, .lst [I s, L b (List.length zs) c, I (NI a), I (NI (areaF s (List.length zs))), I g, L lb ln lc, I (NI e)], 7, true⟩, ⟨24, .lst [I s, L b (List.length zs) c], 2, true⟩, ⟨5, .lst [], 0, false⟩, ⟨5, .vals ([] ++ List.take (List.length zs * 1) cs), tot', true⟩, ⟨24, .lst [I s, SV.slc 4 0 (0 + List.length zs) cap'], 2, true⟩, ⟨65, .lst [SV.slc 5 0 1 1], 1, true⟩], E := E : St })))
  delta WI NI VS n2 n8 n32
  obtain ⟨hA, hu, ha, hn5, heh, hcnt, h2h, h16, hl16, hv⟩ := open_facts ro
  have eqC := compactF_eq keep ro
  have h16l : 1 ≤ zs.length := by omega
  have hzE := hz
  have q3 := needF_bd (dss := keep.take i) (m := 60000) (fun d h => hkl d (List.mem_of_mem_take h))
  have q4 : (keep.take i).length * (60000 + 11) ≤ 1000 * 60011 := Nat.mul_le_mul (by rw [List.length_take]; omega) (Nat.le_refl _)
  refine condC (fun g1 => ?_) (fun g1 => ?_)
  · have g1 : i < kn := by simpa using g1
    obtain ⟨d, ed⟩ := hk.get g1
    obtain ⟨p1, b1, l1, c1, p2, p3⟩ := hk.load ed
    have hd := p3.2.1
    have hd2 := hkl d (List.mem_of_getElem? ed)
    have hnt := needF_take ed
    refine req_intro (by omega) ⟨p1, b1, l1, c1, p2, ?_⟩
    have ek : IntKind.wrap .i64 (((5 + needF (keep.take i) : Nat) : Int) + IntKind.wrap .i64 (((l1 : Nat) : Int) + 11)) = ((5 + needF (keep.take (i + 1)) : Nat) : Int) := by rw [wrap_i64 (x := ((l1 : Nat) : Int) + 11) (by omega), wrap_i64 (by omega)]; omega
    rw [ek, wrap_i64 (x := (i : Int) + 1) (by omega), show (i : Int) + 1 = ((i + 1 : Nat) : Int) by simp]
    exact Lp_re [some 0, some 1] (ih g1) (wkG (Mem.le_refl _))
  · have g1 : i = kn := by simp at g1; omega
    subst g1
    have et : keep.take i = keep := List.take_of_length_le (by rw [hk.len]; omega)
    rw [et]
    refine condC (fun q => ⟨hE, ex [] 10 (by rw [eqC, if_pos (.inl (by simp at q; omega))]) none 0 0 E hE (FL.nil _)⟩) (fun q => condC (fun q2 => ⟨hE, ex [] 10 (by rw [eqC, if_pos (.inr (by simpa using q2))]) none 0 0 E hE (FL.nil _)⟩) (fun q2 => ?_))
    have q : 5 + needF keep ≤ areaF s zs.length := by simp at q; omega
    have q2 : ¬ g = 4294967295 := by simpa using q2
    refine alike (condC (fun z => absurd (hzE.2.2.2.2 (by simpa using z)) (by intro z2; rw [z2] at h16l; simp at h16l)) (fun _ => ?_))
    obtain ⟨t1, t2, t3⟩ := hzE.src
    refine ⟨_, t1, t2, t3, Nat.le_refl _, Nat.le_refl _, Nat.le_refl _, req_intro (by omega) fun cap1 tot1 c1 c2 => ⟨Mem.le_refl _, Mem.le_refl _, ?_⟩⟩
    refine Ct_pub 4 _ _ rfl rfl fun base E3 k3 w3 => ?_
    have hB3 : Bs E3 (base.map fun x => x.add 0) (0 + zs.length) cap1 zs := Bs.win w3 (by rw [List.nil_append, List.take_of_length_le (by simp)]) (by omega) (by omega) hzE.2.2.2.1
    have key := Ct_intro okKJ (y19 (b := b) (lb := lb) (c := c) (ln := ln) (lc := lc) hB3 ro (hk.mono RB_ok k3) hkn q q2 (Mem.le_trans hE k3) (fun ms he => ex ms 0 he))
    exact Ct_re [some 1, some 5, some 6] (key) (wkG (Mem.le_refl _))
theorem y19l {s g : Int} {b lb : Option Addr} {c a ln lc e : Nat} {kb : Option Addr} {kn kc : Nat} {E0 : Mem} {zs : List Int} {yss keep : List (List Int)} (hz : Bs E b zs.length c zs) (ro : openF s zs = ((yss, a, g, e), 0)) (hk : BL E kb kn kc keep) (hkl : ∀ d ∈ keep, d.length ≤ 60000) (hkn : kn ≤ 1000) (hE : Mem.le E0 E)
    (ex : ∀ (ms : List (Int × List Int)) (e : Int), compactF s zs keep = (ms, e) → ∀ (b' : Option Addr) (l' c' : Nat) (E' : Mem), Mem.le E0 E' → FL E' b' l' c' ms → K (.tup [L b' l' c', I e]) E') :
    ∀ {r i : Nat}, i + r = kn → Lp KJ 8 Try.f19 [1, 1, 1, 1, 0, 1, 0] 0 (pubK E0 K) (l19 s g b lb zs.length c a (areaF s zs.length) ln lc e kb kn kc (5 + needF (keep.take i)) i E)
  | 0, i, hr => Lp_ind (ι := Unit) okKJ (fun _ => l19 s g b lb zs.length c a (areaF s zs.length) ln lc e kb kn kc (5 + needF (keep.take i)) i E) (fun _ => 0) (fun _ _ => y19r hz ro hk hkl hkn (by omega) hE ex (fun g => by omega)) ()
  | r + 1, i, hr => Lp_ind (ι := Unit) okKJ (fun _ => l19 s g b lb zs.length c a (areaF s zs.length) ln lc e kb kn kc (5 + needF (keep.take i)) i E) (fun _ => 0) (fun _ _ => y19r hz ro hk hkl hkn (by omega) hE ex (fun g => y19l hz ro hk hkl hkn hE ex (r := r) (by omega))) ()
theorem j19 {a1 : Int} {b2 : Option Addr} {l3 : Nat} {c4 : Nat} {b5 : Option Addr} {l6 : Nat} {c7 : Nat} {zs : List Int} {keep : List (List Int)} (h0 : Bs E b2 l3 c4 zs) (h1 : BL E b5 l6 c7 keep) (h2 : (∀ d ∈ keep, d.length ≤ 60000)) (h3 : l6 ≤ 1000) (h : ∀ (b' : Option Addr) (l' c' : Nat) (ms : List (Int × List Int)) (e : Int) (E' : Mem), Mem.le E E' → Hyp (compactF a1 zs keep = (ms, e)) → FL E' b' l' c' ms → K (.tup [L b' l' c', I e]) E') :
    Ent KJ 8 Try.f19 [.agg [I a1, L b2 l3 c4], L b5 l6 c7] E K := by
  refine same (by kernel_rfl) (?_ : ∃ (zs : List Int), Bs E b2 l3 c4 zs ∧ (∀ (e : Int) (E' : Mem), Mem.le E E' → Hyp ((openF a1 zs).snd = e) → (e = (0 : Int) → False) → Mem.le E E' ∧ bif e != (0 : Int) then Mem.le E E' ∧ K (SV.tup [SV.raw (VS none 0 0), SV.raw (Value.int IntKind.i64 e)]) E' else Lp KJ 8 Try.f19 [1, 1, 1, 1, 0, 1, 0] 0 (pubK E K) { fr := some (SV.agg [I a1, L b2 l3 c4]) :: some (L b5 l6 c7) :: some (SV.loc 0 0) :: none :: some (L none 0 0) :: some (I 0) :: some (SV.raw (Value.pointer none)) :: some (I e) :: some (I 5) :: none :: none :: none :: some (SV.tup [SV.raw (Value.pointer none), I e]) :: some (SV.agg [I a1, L b2 l3 c4]) :: some (SV.tup [SV.raw (Value.pointer none), I e]) :: some (SV.raw (Value.pointer none)) :: some (I e) :: some (I e) :: some (B (e != (0 : Int))) :: none :: some (L b5 l6 c7) :: some (I (NI l6)) :: some (I 0) :: n32 [], bx := [⟨24, .lst [I a1, L b2 l3 c4], 2, true⟩], E := E' : St }) ∧ ∀ (yss : List (List Int)) (a : Nat) (g : Int) (h e : Nat) (lb : Option Addr) (ln lc : Nat) (E' : Mem), Mem.le E E' → Hyp (areaF a1 l3 = h) → Hyp (openF a1 zs = ((yss, a, g, e), (0 : Int))) → BL E' lb ln lc yss → Mem.le E E' ∧ Lp KJ 8 Try.f19 [1, 1, 1, 1, 0, 1, 0] 0 (pubK E K) { fr := some (SV.agg [I a1, L b2 l3 c4]) :: some (L b5 l6 c7) :: some (SV.loc 0 0) :: none :: some (L none 0 0) :: some (I 0) :: some (SV.loc 1 0) :: some (I 0) :: some (I 5) :: none :: none :: none :: some (SV.tup [SV.loc 1 0, I 0]) :: some (SV.agg [I a1, L b2 l3 c4]) :: some (SV.tup [SV.loc 1 0, I 0]) :: some (SV.loc 1 0) :: some (I 0) :: some (I 0) :: some (B false) :: none :: some (L b5 l6 c7) :: some (I (NI l6)) :: some (I 0) :: n32 [], bx := [⟨24, .lst [I a1, L b2 l3 c4], 2, true⟩, ⟨57, .lst [I a1, L b2 l3 c4, I (NI a), I (NI h), I g, L lb ln lc, I (NI e)], 7, true⟩], E := E' : St })
  delta NI VS n32
  have hl := h0.2.1
  subst hl
  have ex : ∀ {ms : List (Int × List Int)} {e : Int}, compactF a1 zs keep = (ms, e) → ∀ (b' : Option Addr) (l' c' : Nat) (E' : Mem), Mem.le E E' → FL E' b' l' c' ms → K (.tup [L b' l' c', I e]) E' := fun he b' l' c' E' hE hF => h b' l' c' _ _ E' hE he hF
  refine ⟨zs, h0, fun e E1 k1 r1 ne => ⟨k1, condC (fun _ => ⟨k1, ex ?_ none 0 0 E1 k1 (FL.nil _)⟩) (fun q => absurd (show e = 0 by simpa using q) ne)⟩, fun yss a g hh e lb ln lc E1 k1 rA ro B1 => ⟨k1, ?_⟩⟩
  · have r1 : (openF a1 zs).2 = e := r1
    unfold compactF
    rw [if_pos (by rw [r1]; exact ne), r1]
  have rA : areaF a1 zs.length = hh := rA
  subst rA
  have ro : openF a1 zs = ((yss, a, g, e), 0) := ro
  have key := y19l (lb := lb) (ln := ln) (lc := lc) (h0.mono k1) ro (h1.mono RB_ok k1) h2 h3 k1 (fun ms e he => ex he) (r := l6) (i := 0) (by omega)
  exact Lp_re [some 0, some 1] (key) (wkG (Mem.le_refl _))
theorem n26 {a1 a2 : Int} {KK : KT} (herr : ∀ bx : List Box, (newF a1 a2).2 ≠ 0 → KK (.tup [.agg [I 0, L none 0 0], I 1]) bx E)
    (hok : ∀ (n tot : Nat) (zs : List Int), newF a1 a2 = ((a1, List.replicate n 255), 0) → n ≤ 16384 → n ≤ zs.length → zs.take n = List.replicate n 255 → KK (.tup [.agg [I a1, .slc 2 0 n n], I 0]) [⟨24, .lst [I a1, .slc 2 0 n n], 2, true⟩, ⟨5, .lst [.raw (.int .u8 255)], 1, true⟩, ⟨5, .vals (vB zs), tot, true⟩] E) : EntB F8 8 Try.f26 [I a1, I a2] [] E KK := by
  refine same (by kernel_rfl) (?_ : bif decide (a1 < (1 : Int)) then KK (SV.tup [SV.agg [SV.raw (Value.int IntKind.i64 0), SV.raw (VS none 0 0)], SV.raw (Value.int IntKind.i64 1)]) [{ elem := 24, row := Row.lst [SV.raw (Value.int IntKind.i64 0), SV.raw (VS none 0 0)], total := 2, own := true : Box }] E else bif bif false then true else decide (a1 > (1024 : Int)) then KK (SV.tup [SV.agg [SV.raw (Value.int IntKind.i64 0), SV.raw (VS none 0 0)], SV.raw (Value.int IntKind.i64 1)]) [{ elem := 24, row := Row.lst [SV.raw (Value.int IntKind.i64 0), SV.raw (VS none 0 0)], total := 2, own := true : Box }] E else bif bif false then true else decide (a2 < (1 : Int)) then KK (SV.tup [SV.agg [SV.raw (Value.int IntKind.i64 0), SV.raw (VS none 0 0)], SV.raw (Value.int IntKind.i64 1)]) [{ elem := 24, row := Row.lst [SV.raw (Value.int IntKind.i64 0), SV.raw (VS none 0 0)], total := 2, own := true : Box }] E else (a1 = (0 : Int) → False) ∧ bif bif false then true else decide (a2 > WI (Int.tdiv 16384 a1)) then KK (SV.tup [SV.agg [SV.raw (Value.int IntKind.i64 0), SV.raw (VS none 0 0)], SV.raw (Value.int IntKind.i64 1)]) [{ elem := 24, row := Row.lst [SV.raw (Value.int IntKind.i64 0), SV.raw (VS none 0 0)], total := 2, own := true : Box }] E else 40 = 40 ∧ ∃ (n : Nat), [SV.slc 1 0 1 1, SV.raw (Value.int IntKind.i64 (WI (a1 * a2)))] = [SV.slc 1 0 1 1, SV.raw (Value.int IntKind.i64 (NI n))] ∧ [{ elem := 24, row := Row.lst [SV.raw (Value.int IntKind.i64 0), SV.raw (VS none 0 0)], total := 2, own := true : Box }, { elem := 5, row := Row.lst [SV.raw (U8 255)], total := 1, own := true : Box }] = [{ elem := 24, row := Row.lst [SV.raw (Value.int IntKind.i64 0), SV.raw (VS none 0 0)], total := 2, own := true : Box }, { elem := 5, row := Row.lst [SV.raw (U8 255)], total := 1, own := true : Box }] ∧ (1 ≤ n ∧ n ≤ 16384) ∧ ∀ (tot : Nat) (zs : List Int), n ≤ List.length zs → List.take n zs = List.replicate n (255 : Int) → KK (SV.tup [SV.agg [SV.raw (Value.int IntKind.i64 a1), SV.slc 2 0 n n], SV.raw (Value.int IntKind.i64 0)]) [{ elem := 24, row := Row.lst [SV.raw (Value.int IntKind.i64 a1), SV.slc 2 0 n n], total := 2, own := true : Box }, { elem := 5, row := Row.lst [SV.raw (U8 255)], total := 1, own := true : Box }, { elem := 5, row := Row.vals (vB zs), total := tot, own := true : Box }] E)
  delta WI NI U8 VS
  have bad : (a1 < 1 ∨ a1 > 1024 ∨ a2 < 1 ∨ a2 > 16384 / a1) → (newF a1 a2).2 ≠ 0 := fun hb => by unfold newF; rw [if_pos hb]; decide
  refine condC (fun g => herr _ (bad (.inl (by simpa using g)))) (fun g1 => ?_)
  refine condC (fun g => herr _ (bad (.inr (.inl (by simpa using g))))) (fun g2 => ?_)
  refine condC (fun g => herr _ (bad (.inr (.inr (.inl (by simpa using g)))))) (fun g3 => ?_)
  have g1 : 1 ≤ a1 := by simpa using g1
  have g2 : a1 ≤ 1024 := by simpa using g2
  have g3 : 1 ≤ a2 := by simpa using g3
  have hdv : Int.tdiv 16384 a1 = 16384 / a1 := Int.tdiv_eq_ediv_of_nonneg (by omega)
  have hd1 : 16384 / a1 ≤ 16384 := Int.ediv_le_self _ (by omega)
  have hd0 : 0 ≤ 16384 / a1 := Int.ediv_nonneg (by omega) (by omega)
  rw [hdv, wrap_i64 (x := 16384 / a1) (by omega)]
  refine ⟨by omega, condC (fun g => herr _ (bad (.inr (.inr (.inr (by simpa using g)))))) (fun g4 => ?_)⟩
  have g4 : a2 ≤ 16384 / a1 := by simpa using g4
  have h8 : a1 * a2 ≤ 16384 := by
    have := Int.mul_le_mul_of_nonneg_right g4 (show 0 ≤ a1 by omega)
    have h2 := Int.ediv_mul_le 16384 (show a1 ≠ 0 by omega)
    rw [Int.mul_comm a1 a2]; omega
  have h9 : 1 ≤ a1 * a2 := by
    have := Int.mul_le_mul_of_nonneg_right g1 (show 0 ≤ a2 by omega)
    omega
  obtain ⟨n, hn⟩ : ∃ n : Nat, a1 * a2 = n := ⟨(a1 * a2).toNat, by omega⟩
  have eN : newF a1 a2 = ((a1, List.replicate n 255), 0) := by unfold newF; rw [if_neg (by omega), hn, Int.toNat_natCast]
  rw [hn] at h8 h9
  rw [hn, wrap_i64 (x := (n : Int)) (by omega)]
  exact ⟨rfl, n, rfl, rfl, ⟨by omega, by omega⟩, fun tot zs hz ht => hok n tot zs eN (by omega) hz ht⟩
theorem n27r {KK : KT} {a1 a2 : Int} {i cap tot n : Nat} (hn : a1 * a2 = n) (h8 : n ≤ 16384) (hi : i ≤ n) (hc : i ≤ cap ∧ cap * 1 ≤ tot)
    (hK : ∀ (cap tot : Nat), n ≤ cap → KK (.tup [.agg [I a1, .slc 2 0 n cap], I 0]) [⟨24, .lst [I a1, .slc 2 0 n cap], 2, true⟩, ⟨24, .lst [I a1, .slc 2 0 n cap], 2, true⟩, ⟨5, .vals (vB (List.replicate n 255)), tot, true⟩] E)
    (ih : ∀ cap' tot' : Nat, i < n → i + 1 ≤ cap' ∧ cap' * 1 ≤ tot' → Lp F9 8 Try.f27 [1, 1, 1, 0, 1, 0] 0 KK (sh12 a1 a2 (i + 1) cap' tot' E)) : Rnd F9 8 Try.f27 [1, 1, 1, 0, 1, 0] 0 KK (sh12 a1 a2 i cap tot E) := by
  refine same (by kernel_rfl) (?_ : bif decide ((NI i) < WI (a1 * a2)) then i * 1 ≤ List.length (Row.cells (Row.vals (vB (List.replicate i 255)))) ∧ cap * 1 ≤ tot ∧ i ≤ cap ∧ req ((i + 1) * 1 ≤ 140737488355328) (∀ (cap' tot' : Nat), i + 1 ≤ cap' → cap' * 1 ≤ tot' → Lp F9 8 Try.f27 [1, 1, 1, 0, 1, 0] 0 KK { fr := some (I a1) :: some (I a2) :: none :: none :: some (SV.loc 0 0) :: some (I 0) :: some (SV.loc 1 0) :: some (I (WI ((NI i) + (1 : Int)))) :: n32 [], bx := [⟨24, .lst [I 0, L none 0 0], 2, true⟩, ⟨24, .lst [I a1, SV.slc 4 0 (i + 1) cap'], 2, true⟩, ⟨5, .lst [], 0, false⟩, ⟨5, .lst [SV.raw (U8 255)], 1, true⟩, ⟨5, .vals (List.take (i * 1) (vB (List.replicate i 255)) ++ [U8 255]), tot', true⟩], E := E : St }) else KK (SV.tup [SV.agg [SV.raw (Value.int IntKind.i64 a1), SV.slc 2 0 i cap], SV.raw (Value.int IntKind.i64 0)]) [{ elem := 24, row := Row.lst [SV.raw (Value.int IntKind.i64 a1), SV.slc 2 0 i cap], total := 2, own := true : Box }, { elem := 24, row := Row.lst [SV.raw (Value.int IntKind.i64 a1), SV.slc 2 0 i cap], total := 2, own := true : Box }, { elem := 5, row := Row.vals (vB (List.replicate i 255)), total := tot, own := true : Box }] E)
  delta WI NI U8 n32
  rw [hn, wrap_i64 (x := (n : Int)) (by omega), wrap_i64 (x := (i : Int) + 1) (by omega)]
  refine condC (fun g => ?_) (fun g => ?_)
  · have g : i < n := by simpa using g
    refine ⟨by simp [Row.cells], hc.2, hc.1, req_intro (by omega) (fun cap' tot' c1 c2 => ?_)⟩
    have e : List.take (i * 1) (vB (List.replicate i 255)) ++ [Value.int IntKind.u8 255] = vB (List.replicate (i + 1) 255) := by
      rw [List.take_of_length_le (by simp), List.replicate_succ', vB, vB, List.map_append]; rfl
    rw [e, show (i : Int) + 1 = ((i + 1 : Nat) : Int) by simp]
    exact Lp_re [some 0, some 1, some 4] (ih cap' tot' g ⟨c1, c2⟩) (wkG (Mem.le_refl _))
  · have g : i = n := by simp at g; omega
    subst g
    exact hK cap tot hc.1
theorem n27l {KK : KT} {a1 a2 : Int} {i cap tot n : Nat} (hn : a1 * a2 = n) (h8 : n ≤ 16384) (hi : i ≤ n) (hc : i ≤ cap ∧ cap * 1 ≤ tot) (hK : ∀ (cap tot : Nat), n ≤ cap → KK (.tup [.agg [I a1, .slc 2 0 n cap], I 0]) [⟨24, .lst [I a1, .slc 2 0 n cap], 2, true⟩, ⟨24, .lst [I a1, .slc 2 0 n cap], 2, true⟩, ⟨5, .vals (vB (List.replicate n 255)), tot, true⟩] E) : Lp F9 8 Try.f27 [1, 1, 1, 0, 1, 0] 0 KK (sh12 a1 a2 i cap tot E) :=
  Lp_ind okF9 (fun x : {x : Nat × Nat × Nat // x.1 ≤ n ∧ x.1 ≤ x.2.1 ∧ x.2.1 * 1 ≤ x.2.2} => sh12 a1 a2 x.1.1 x.1.2.1 x.1.2.2 E) (fun x => n - x.1.1)
    (fun x ih => n27r hn h8 x.2.1 x.2.2 hK fun cap' tot' g hc => ih ⟨(x.1.1 + 1, cap', tot'), by omega, hc.1, hc.2⟩ (by show n - (_ + 1) < n - _; omega)) ⟨(i, cap, tot), hi, hc.1, hc.2⟩
theorem n27a {KK : KT} {a1 a2 : Int} {n : Nat} (hn : a1 * a2 = n) (h8 : n ≤ 16384) (h9 : 1 ≤ n) (hK : ∀ (cap tot : Nat), n ≤ cap → KK (.tup [.agg [I a1, .slc 2 0 n cap], I 0]) [⟨24, .lst [I a1, .slc 2 0 n cap], 2, true⟩, ⟨24, .lst [I a1, .slc 2 0 n cap], 2, true⟩, ⟨5, .vals (vB (List.replicate n 255)), tot, true⟩] E) : Rnd F9 8 Try.f27 [1, 1, 1, 0, 1, 0] 0 KK (sh12a a1 a2 0 E) := by
  refine same (by kernel_rfl) (?_ : bif decide ((0 : Int) < WI (a1 * a2)) then ∀ (cap' tot' : Nat), 1 ≤ cap' → cap' * 1 ≤ tot' → Lp F9 8 Try.f27 [1, 1, 1, 0, 1, 0] 0 KK { fr := some (I a1) :: some (I a2) :: none :: none :: some (SV.loc 0 0) :: some (I 0) :: some (SV.loc 1 0) :: some (I 1) :: n32 [], bx := [⟨24, .lst [I 0, L none 0 0], 2, true⟩, ⟨24, .lst [I a1, SV.slc 3 0 1 cap'], 2, true⟩, ⟨5, .lst [SV.raw (U8 255)], 1, true⟩, ⟨5, .lst [SV.raw (U8 255)], tot', true⟩], E := E : St } else KK (SV.tup [SV.agg [SV.raw (Value.int IntKind.i64 a1), SV.raw (VS none 0 0)], SV.raw (Value.int IntKind.i64 0)]) [{ elem := 24, row := Row.lst [SV.raw (Value.int IntKind.i64 a1), SV.raw (VS none 0 0)], total := 2, own := true : Box }, { elem := 24, row := Row.lst [SV.raw (Value.int IntKind.i64 a1), SV.raw (VS none 0 0)], total := 2, own := true : Box }] E)
  delta WI U8 VS n32
  rw [hn, wrap_i64 (x := (n : Int)) (by omega)]
  refine condC (fun g => fun cap' tot' c1 c2 => ?_) (fun g => absurd g (by simp; omega))
  exact Lp_re [some 0, some 1, some 3] (n27l (i := 1) hn h8 h9 ⟨c1, c2⟩ hK) (wkG (Mem.le_refl _))
theorem n27 {a1 a2 : Int} {KK : KT} (herr : ∀ bx : List Box, (newF a1 a2).2 ≠ 0 → KK (.tup [.agg [I 0, L none 0 0], I 1]) bx E)
    (hok : ∀ (n cap tot : Nat), newF a1 a2 = ((a1, List.replicate n 255), 0) → n ≤ 16384 → n ≤ cap → KK (.tup [.agg [I a1, .slc 2 0 n cap], I 0]) [⟨24, .lst [I a1, .slc 2 0 n cap], 2, true⟩, ⟨24, .lst [I a1, .slc 2 0 n cap], 2, true⟩, ⟨5, .vals (vB (List.replicate n 255)), tot, true⟩] E) : EntB F9 8 Try.f27 [I a1, I a2] [] E KK := by
  refine same (by kernel_rfl) (?_ : bif decide (a1 < (1 : Int)) then KK (SV.tup [SV.agg [SV.raw (Value.int IntKind.i64 0), SV.raw (VS none 0 0)], SV.raw (Value.int IntKind.i64 1)]) [{ elem := 24, row := Row.lst [SV.raw (Value.int IntKind.i64 0), SV.raw (VS none 0 0)], total := 2, own := true : Box }] E else bif bif false then true else decide (a1 > (1024 : Int)) then KK (SV.tup [SV.agg [SV.raw (Value.int IntKind.i64 0), SV.raw (VS none 0 0)], SV.raw (Value.int IntKind.i64 1)]) [{ elem := 24, row := Row.lst [SV.raw (Value.int IntKind.i64 0), SV.raw (VS none 0 0)], total := 2, own := true : Box }] E else bif bif false then true else decide (a2 < (1 : Int)) then KK (SV.tup [SV.agg [SV.raw (Value.int IntKind.i64 0), SV.raw (VS none 0 0)], SV.raw (Value.int IntKind.i64 1)]) [{ elem := 24, row := Row.lst [SV.raw (Value.int IntKind.i64 0), SV.raw (VS none 0 0)], total := 2, own := true : Box }] E else (a1 = (0 : Int) → False) ∧ bif bif false then true else decide (a2 > WI (Int.tdiv 16384 a1)) then KK (SV.tup [SV.agg [SV.raw (Value.int IntKind.i64 0), SV.raw (VS none 0 0)], SV.raw (Value.int IntKind.i64 1)]) [{ elem := 24, row := Row.lst [SV.raw (Value.int IntKind.i64 0), SV.raw (VS none 0 0)], total := 2, own := true : Box }] E else Lp F9 8 Try.f27 [1, 1, 1, 0, 1, 0] 0 KK { fr := some (I a1) :: some (I a2) :: none :: none :: some (SV.loc 0 0) :: some (I 0) :: some (SV.loc 1 0) :: some (I 0) :: some (I a1) :: some (B (decide (a1 < (1 : Int)))) :: some (B false) :: some (I a1) :: some (B (decide (a1 > (1024 : Int)))) :: some (B (bif false then true else decide (a1 > (1024 : Int)))) :: some (B false) :: some (I a2) :: some (B (decide (a2 < (1 : Int)))) :: some (B (bif false then true else decide (a2 < (1 : Int)))) :: some (B false) :: some (I a2) :: some (I a1) :: some (I (WI (Int.tdiv 16384 a1))) :: some (B (decide (a2 > WI (Int.tdiv 16384 a1)))) :: some (B (bif false then true else decide (a2 > WI (Int.tdiv 16384 a1)))) :: none :: some (I a1) :: some (SV.agg [I a1, L none 0 0]) :: n8 (n4 (none :: [])), bx := [⟨24, .lst [I 0, L none 0 0], 2, true⟩, ⟨24, .lst [I a1, L none 0 0], 2, true⟩], E := E : St })
  delta WI VS n4 n8
  have bad : (a1 < 1 ∨ a1 > 1024 ∨ a2 < 1 ∨ a2 > 16384 / a1) → (newF a1 a2).2 ≠ 0 := fun hb => by unfold newF; rw [if_pos hb]; decide
  refine condC (fun g => herr _ (bad (.inl (by simpa using g)))) (fun g1 => ?_)
  refine condC (fun g => herr _ (bad (.inr (.inl (by simpa using g))))) (fun g2 => ?_)
  refine condC (fun g => herr _ (bad (.inr (.inr (.inl (by simpa using g)))))) (fun g3 => ?_)
  have g1 : 1 ≤ a1 := by simpa using g1
  have g2 : a1 ≤ 1024 := by simpa using g2
  have g3 : 1 ≤ a2 := by simpa using g3
  have hdv : Int.tdiv 16384 a1 = 16384 / a1 := Int.tdiv_eq_ediv_of_nonneg (by omega)
  have hd1 : 16384 / a1 ≤ 16384 := Int.ediv_le_self _ (by omega)
  have hd0 : 0 ≤ 16384 / a1 := Int.ediv_nonneg (by omega) (by omega)
  rw [hdv, wrap_i64 (x := 16384 / a1) (by omega)]
  refine ⟨by omega, condC (fun g => herr _ (bad (.inr (.inr (.inr (by simpa using g)))))) (fun g4 => ?_)⟩
  have g4 : a2 ≤ 16384 / a1 := by simpa using g4
  have h8 : a1 * a2 ≤ 16384 := by
    have := Int.mul_le_mul_of_nonneg_right g4 (show 0 ≤ a1 by omega)
    have h2 := Int.ediv_mul_le 16384 (show a1 ≠ 0 by omega)
    rw [Int.mul_comm a1 a2]; omega
  have h9 : 1 ≤ a1 * a2 := by
    have := Int.mul_le_mul_of_nonneg_right g1 (show 0 ≤ a2 by omega)
    omega
  obtain ⟨n, hn⟩ : ∃ n : Nat, a1 * a2 = n := ⟨(a1 * a2).toNat, by omega⟩
  have eN : newF a1 a2 = ((a1, List.replicate n 255), 0) := by unfold newF; rw [if_neg (by omega), hn, Int.toNat_natCast]
  refine Lp_re [some 0, some 1] (S := _) (T := sh12a a1 a2 0 E) ?_ (wkG (Mem.le_refl _))
  exact Lp_ind (ι := Unit) okF9 (fun _ => sh12a a1 a2 0 E) (fun _ => 0) (fun _ _ => n27a hn (by omega) (by omega) fun cap tot hc => hok n cap tot eN (by omega) hc) ()
noncomputable def tabN : CallT := fun f args bx E K => match f with
  | 26 => d2 args fun x0 x1 => dI x0 fun a => dI x1 fun b => ((Hyp ((newF a b).2 ≠ 0) → K (.tup [.agg [I 0, L none 0 0], I 1]) bx E) ∧ ∀ (n cap tot : Nat) (zs : List Int), Hyp (newF a b = ((a, List.replicate n 255), 0)) → n ≤ 16384 ∧ n ≤ zs.length ∧ zs.take n = List.replicate n 255 ∧ n ≤ cap → K (.tup [.agg [I a, .slc bx.length 0 n cap], I 0]) (bx ++ [⟨5, .vals (vB zs), tot, true⟩]) E)
  | 27 => d2 args fun x0 x1 => dI x0 fun a => dI x1 fun b => ((Hyp ((newF a b).2 ≠ 0) → K (.tup [.agg [I 0, L none 0 0], I 1]) bx E) ∧ ∀ (n cap tot : Nat) (zs : List Int), Hyp (newF a b = ((a, List.replicate n 255), 0)) → n ≤ 16384 ∧ n ≤ zs.length ∧ zs.take n = List.replicate n 255 ∧ n ≤ cap → K (.tup [.agg [I a, .slc bx.length 0 n cap], I 0]) (bx ++ [⟨5, .vals (vB zs), tot, true⟩]) E)
  | _ => False
theorem tabN_ok : ∀ f args bx E K, tabN f args bx E K → CallSem Try.prog f args bx E K := by
  intro f args bx E K h
  unfold tabN at h
  split at h
  · obtain ⟨x0, x1, rfl, h1⟩ := d2_elim h
    obtain ⟨a, rfl, h2⟩ := dI_elim h1
    obtain ⟨c, rfl, h3⟩ := dI_elim h2
    obtain ⟨kerr, kok⟩ := h3
    refine frame0 (K' := fun s' bx' E' => K (s'.ren [] bx.length) (bx ++ bx'.map (Box.ren [] bx.length)) E') (vs := [.int .i64 a, .int .i64 c]) rfl (CallSem.clo (EntB.sem okF8 Try.func26 ⟨by kernel_rfl, by kernel_rfl⟩ (n26 ?_ ?_))) (fun _ _ _ q => q)
    · intro bx1 ne
      refine cloK_intro [] (s' := .tup [.agg [I 0, L none 0 0], I 1]) (bx' := []) (E' := E) ?_ (wkG (Mem.le_refl _))
      have := kerr ne
      simpa [SV.ren, SV.renL] using this
    · intro n tot zs r1 h16 hz ht
      refine cloK_intro [some 2] (s' := .tup [.agg [I a, .slc 0 0 n n], I 0]) (bx' := [⟨5, .vals (vB zs), tot, true⟩]) (E' := E) ?_ (wkG (Mem.le_refl _))
      have := kok n n tot zs r1 ⟨h16, hz, ht, Nat.le_refl _⟩
      simpa [SV.ren, SV.renL, Box.ren, Row.ren, renF] using this
  · obtain ⟨x0, x1, rfl, h1⟩ := d2_elim h
    obtain ⟨a, rfl, h2⟩ := dI_elim h1
    obtain ⟨c, rfl, h3⟩ := dI_elim h2
    obtain ⟨kerr, kok⟩ := h3
    refine frame0 (K' := fun s' bx' E' => K (s'.ren [] bx.length) (bx ++ bx'.map (Box.ren [] bx.length)) E') (vs := [.int .i64 a, .int .i64 c]) rfl (CallSem.clo (EntB.sem okF9 Try.func27 ⟨by kernel_rfl, by kernel_rfl⟩ (n27 ?_ ?_))) (fun _ _ _ q => q)
    · intro bx1 ne
      refine cloK_intro [] (s' := .tup [.agg [I 0, L none 0 0], I 1]) (bx' := []) (E' := E) ?_ (wkG (Mem.le_refl _))
      have := kerr ne
      simpa [SV.ren, SV.renL] using this
    · intro n cap tot r1 h16 hc
      refine cloK_intro [some 2] (s' := .tup [.agg [I a, .slc 0 0 n cap], I 0]) (bx' := [⟨5, .vals (vB (List.replicate n 255)), tot, true⟩]) (E' := E) ?_ (wkG (Mem.le_refl _))
      have := kok n cap tot (List.replicate n 255) r1 ⟨h16, by simp, by simp, hc⟩
      simpa [SV.ren, SV.renL, Box.ren, Row.ren, renF] using this
  · exact h.elim
noncomputable def KL : Cx := { P := Try.prog, inl := fun f => List.contains [] f, tab := fun _ _ _ _ => False, isB := fun f => f == 26, tabB := tabN, opt := { unroll := 0, carry := [] }, muts := mutsD }
theorem okKL : CxOK KL := CxOK.four (fun _ _ _ _ h => h.elim) (by kernel_rfl) (okInl (by kernel_rfl)) tabN_ok
theorem newF_facts {a b : Int} {n : Nat} (h : newF a b = ((a, List.replicate n 255), 0)) : 1 ≤ a ∧ a ≤ 1024 ∧ 1 ≤ b ∧ (n : Int) = a * b ∧ n ≤ 16384 := by
  unfold newF at h
  split at h
  · have := (Prod.mk.inj h).2; omega
  · rename_i q
    have hl := congrArg (fun x => x.1.2.length) h
    simp only [List.length_replicate] at hl
    have h4 : b ≤ 16384 / a := by omega
    have h9 : 1 * b ≤ a * b := Int.mul_le_mul_of_nonneg_right (by omega) (by omega)
    have h8 : a * b ≤ 16384 := by
      have := Int.mul_le_mul_of_nonneg_right h4 (show 0 ≤ a by omega)
      have h2 := Int.ediv_mul_le 16384 (show a ≠ 0 by omega)
      rw [Int.mul_comm a b]; omega
    exact ⟨by omega, by omega, by omega, by omega, by omega⟩
theorem area_new {a b : Int} {n : Nat} (h1 : 1 ≤ a ∧ a ≤ 1024) (h2 : 1 ≤ b) (h3 : (n : Int) = a * b) (h4 : n ≤ 16384) : validF a n ∧ (n : Int) / a = b ∧ (areaF a n = if b % 2 = 0 ∧ 32 ≤ n then n / 2 else 0) := by
  have hd : (n : Int) / a = b := by rw [h3, Int.mul_ediv_cancel_left _ (by omega)]
  have hm : (n : Int) % a = 0 := by rw [h3]; exact Int.mul_emod_right a b
  have h9 : a * 1 ≤ a * b := Int.mul_le_mul_of_nonneg_left h2 (by omega)
  have hv : validF a n := ⟨by omega, by omega, by omega, by omega, hm⟩
  refine ⟨hv, hd, ?_⟩
  unfold areaF
  rw [hd]
  by_cases q : b % 2 = 0 ∧ 32 ≤ n
  · rw [if_pos ⟨hv, q.1, q.2⟩, if_pos q]
  · rw [if_neg (fun z => q ⟨z.2.1, z.2.2⟩), if_neg q]
theorem fmt_win {base : Option Addr} {cs : List Value} {zs : List Int} {n cap : Nat} (hW : WinE E base cs) (hcs : cs = vB ([90, 0, 0, 0, 0] ++ zs.drop 5)) (hz : n ≤ zs.length) (ht : zs.take n = List.replicate n 255) (hn : 32 ≤ n) (hc : n ≤ cap) : Bs E (base.map fun x => x.add 0) n cap ([90, 0, 0, 0, 0] ++ (List.replicate n 255).drop 5) := by
  subst hcs
  have e : ([90, 0, 0, 0, 0] ++ zs.drop 5).take n = [90, 0, 0, 0, 0] ++ (List.replicate n 255).drop 5 := by
    rw [List.take_append, List.take_of_length_le (by simp; omega), ← ht, List.drop_take]; rfl
  have h1 := hW.2 0 n n cap (by simp only [List.length_map, List.length_append, List.length_drop, List.length_cons, List.length_nil]; omega)
  rw [List.drop_zero, ← List.map_take, e] at h1
  refine ⟨.inr h1, by simp only [List.length_append, List.length_drop, List.length_replicate, List.length_cons, List.length_nil]; omega, hc, fun z hz => ?_, fun e2 => ?_⟩
  · rcases List.mem_append.1 hz with q | q
    · simp only [List.mem_cons, List.not_mem_nil, or_false] at q
      omega
    · have := List.eq_of_mem_replicate (List.drop_subset _ _ q); omega
  · cases base with
    | none => have := hW.1 rfl; simp at this
    | some a => cases e2
theorem formatF_bad {a b : Int} (h : (newF a b).2 ≠ 0 ∨ areaF a (newF a b).1.2.length = 0) : formatF a b = ((0, []), 1) := by unfold formatF; rw [if_pos h]
theorem formatF_ok {a b : Int} {n : Nat} (h : newF a b = ((a, List.replicate n 255), 0)) (hA : areaF a n ≠ 0) : formatF a b = ((a, [90, 0, 0, 0, 0] ++ (List.replicate n 255).drop 5), 0) := by
  unfold formatF
  rw [h, if_neg (by simp only [List.length_replicate]; rintro (q | q); exact q rfl; exact hA q)]
theorem j11 {a1 : Int} {a2 : Int} (h : ∀ (s' : Int) (b' : Option Addr) (l' c' : Nat) (ys : List Int) (e : Int) (E' : Mem), Mem.le E E' → Hyp (formatF a1 a2 = ((s', ys), e)) → Bs E' b' l' c' ys → K (.tup [.agg [I s', L b' l' c'], I e]) E') :
    Ent KL 8 Try.f11 [I a1, I a2] E K := by
  refine same (by kernel_rfl) (?_ : (Hyp ((newF a1 a2).snd ≠ (0 : Int)) → Mem.le E E ∧ Mem.le E E ∧ K (SV.tup [SV.agg [SV.raw (Value.int IntKind.i64 0), SV.raw (VS none 0 0)], SV.raw (Value.int IntKind.i64 1)]) E) ∧ ∀ (n cap tot : Nat) (zs : List Int), Hyp (newF a1 a2 = ((a1, List.replicate n 255), (0 : Int))) → n ≤ 16384 ∧ n ≤ List.length zs ∧ List.take n zs = List.replicate n (255 : Int) ∧ n ≤ cap → Mem.le E E ∧ ((2 : Int) = (0 : Int) → False) ∧ bif bif false then true else Int.tmod a2 (2 : Int) != (0 : Int) then Mem.le E E ∧ K (SV.tup [SV.agg [SV.raw (Value.int IntKind.i64 0), SV.raw (VS none 0 0)], SV.raw (Value.int IntKind.i64 1)]) E else bif bif false then true else decide ((NI n) < (32 : Int)) then Mem.le E E ∧ K (SV.tup [SV.agg [SV.raw (Value.int IntKind.i64 0), SV.raw (VS none 0 0)], SV.raw (Value.int IntKind.i64 1)]) E else 0 + n * 1 ≤ List.length (vB zs) ∧ ∀ (base : Option Addr) (E' : Mem), Mem.le E E' → WinE E' base (layV (vB zs) 0 (List.take (min 5 n * 1) [U8 90, U8 0, U8 0, U8 0, U8 0])) → Mem.le E E' ∧ K (SV.tup [SV.agg [SV.raw (Value.int IntKind.i64 a1), SV.raw (VS (Option.map (fun (x : Addr) => Addr.add x 0) base) n cap)], SV.raw (Value.int IntKind.i64 0)]) E')
  delta NI U8 VS
  have ex : ∀ {s' : Int} {ys : List Int} {e : Int}, formatF a1 a2 = ((s', ys), e) → ∀ (b' : Option Addr) (l' c' : Nat) (E' : Mem), Mem.le E E' → Bs E' b' l' c' ys → K (.tup [.agg [I s', L b' l' c'], I e]) E' := fun he b' l' c' E' hE hB => h _ b' l' c' _ _ E' hE he hB
  refine ⟨fun ne => ⟨Mem.le_refl _, Mem.le_refl _, ex (formatF_bad (.inl ne)) none 0 0 E (Mem.le_refl _) (Bs.nil _)⟩, fun n cap tot zs rN hh => ⟨Mem.le_refl _, ?_⟩⟩
  obtain ⟨h16, hz, ht, hcap⟩ := hh
  have rN : newF a1 a2 = ((a1, List.replicate n 255), 0) := rN
  obtain ⟨f1, f2, f3, f4, f5⟩ := newF_facts rN
  obtain ⟨hv, hdv, hA⟩ := area_new ⟨f1, f2⟩ f3 f4 f5
  have bad : ¬ (a2 % 2 = 0 ∧ 32 ≤ n) → Mem.le E E ∧ K (.tup [.agg [I 0, L none 0 0], I 1]) E := fun q => ⟨Mem.le_refl _, ex (formatF_bad (.inr (by rw [rN]; simp only [List.length_replicate]; rw [hA, if_neg q]))) none 0 0 E (Mem.le_refl _) (Bs.nil _)⟩
  rw [Int.tmod_eq_emod_of_nonneg (by omega)]
  refine ⟨by decide, condC (fun q => bad (fun z => ?_)) (fun q => condC (fun r => bad (fun z => ?_)) (fun r => ?_))⟩
  · have q : ¬ a2 % 2 = 0 := by simpa using q
    exact q z.1
  · have r : (n : Int) < 32 := by simpa using r
    omega
  have q : a2 % 2 = 0 := by simpa using q
  have r : 32 ≤ n := by have r : ¬ (n : Int) < 32 := by simpa using r
                        omega
  refine ⟨by simp; omega, fun base E' k w => ⟨k, ex (formatF_ok rN (by rw [hA, if_pos ⟨q, r⟩]; omega)) _ n cap E' k (fmt_win w ?_ hz ht r hcap)⟩⟩
  rw [show min 5 n * 1 = 5 by omega]
  unfold layV
  simp [List.map_drop]
def RBL : RowR (List (List Int)) := fun E x r => ∃ (b : Option Addr) (l c : Nat), r = [.slice b l c] ∧ BL E b l c x
theorem RBL_ok : RowOK 1 RBL := ⟨fun he h => let ⟨b, l, c, h1, h2⟩ := h; ⟨b, l, c, h1, h2.mono RB_ok he⟩, fun h => by obtain ⟨b, l, c, rfl, _⟩ := h; rfl, fun h v hv => by
  obtain ⟨b, l, c, rfl, _⟩ := h
  simp only [List.mem_cons, List.not_mem_nil, or_false] at hv; subst hv; rfl, by decide⟩
def shortL (xs : List (List Int)) : Prop := xs.length ≤ 60 ∧ ∀ x ∈ xs, x.length ≤ 400
def shortP (l : Nat) (xsss : List (List (List Int))) : Prop := (∀ xs ∈ xsss, shortL xs) ∧ l ≤ 400
instance (xs : List (List Int)) : Decidable (shortL xs) := by unfold shortL; infer_instance
instance (l : Nat) (xsss : List (List (List Int))) : Decidable (shortP l xsss) := by unfold shortP; infer_instance
theorem RBL.load {b : Option Addr} {n c : Nat} {x3 : List (List (List Int))} (h : SL RBL E b n c x3) {i : Nat} {xs : List (List Int)} (hx : x3[i]? = some xs) :
    (∃ cs, E (.slice b n c) cs ∧ (cs = [] → False)) ∧ ∃ (b' : Option Addr) (l' c' : Nat), LoadE Try.prog E 25 (.slice b n c) (i * 1) (L b' l' c') ∧ BL E b' l' c' xs := by
  have hi : i < n := by rw [← h.len]; exact (List.getElem?_eq_some_iff.1 hx).1
  refine ⟨h.ne RBL_ok hi, ?_⟩
  obtain ⟨r, v, ⟨b', l', c', rfl, h2⟩, hv, h3⟩ := h.loadC RBL_ok (P := Try.prog) (T := 25) rfl rfl hx (j := 0) (by decide)
  simp only [List.getElem?_cons_zero, Option.some.injEq] at hv
  subst hv
  exact ⟨b', l', c', h3, h2⟩
noncomputable def L1 : Cx := { P := Try.prog, inl := fun f => List.contains [] f, tab := fun _ _ _ _ => False, isB := fun _ => false, tabB := fun _ _ _ _ _ => False, opt := { unroll := 0, carry := [11, 20] }, muts := mutsD }
theorem okL1 : CxOK L1 := CxOK.four (fun _ _ _ _ h => h.elim) (by kernel_rfl) (okInl (by kernel_rfl)) (fun _ _ _ _ _ h => h.elim)
def w14o (s : Int) (b : Option Addr) (l c : Nat) (d : Option Addr) (m e i : Nat) (E : Mem) : St := ⟨[none, none, some (.loc 0 0), none, none, none, none, none, none, some (L d m e), some (I (m : Nat)), some (I (i : Nat)), none, none, none, none, none, none, none, none, none, none, none, none, none, none, none, none, none, none, none, none, none], [⟨24, .lst [I s, L b l c], 2, true⟩], E⟩
def w14i (s : Int) (b : Option Addr) (l c : Nat) (d : Option Addr) (m e i : Nat) (k : Option Addr) (kn kc j : Nat) (E : Mem) : St := ⟨[none, none, some (.loc 0 0), none, none, none, none, none, none, some (L d m e), some (I (m : Nat)), some (I (i : Nat)), none, none, none, none, none, none, some (L k kn kc), some (I (kn : Nat)), some (I (j : Nat)), none, none, none, none, none, none, none, none, none, none, none, none], [⟨24, .lst [I s, L b l c], 2, true⟩], E⟩
theorem r14o {s : Int} {b d : Option Addr} {l c m e i : Nat} {E0 : Mem} {xsss : List (List (List Int))} (hx : SL RBL E d m e xsss) (hm : m ≤ 10) (hi : i ≤ m) (hp : ∀ xs ∈ xsss.take i, shortL xs) (hE : Mem.le E0 E) (h : K (B (decide (shortP l xsss))) E)
    (ih : ∀ (k : Option Addr) (kn kc : Nat) (xs : List (List Int)), i < m → xsss[i]? = some xs → BL E k kn kc xs → kn ≤ 60 → Lp L1 8 Try.f14 [1, 0, 1, 0, 0, 1, 1, 0, 0, 1, 1, 1, 0] 0 (pubK E0 K) (w14i s b l c d m e i k kn kc 0 E)) : Rnd L1 8 Try.f14 [1, 0, 1, 0] 0 (pubK E0 K) (w14o s b l c d m e i E) := by
  refine same (by kernel_rfl) (?_ : bif decide ((NI i) < (NI m)) then req ((0 : Int) ≤ (NI i) ∧ (NI i) < (NI m)) ((∃ (cs : List Value), E (VS d m e) cs ∧ (cs = [] → False)) ∧ ∃ (base : Option Addr), ∃ (len : Nat), ∃ (cap : Nat), LoadE L1.P E 25 (VS d m e) (Int.toNat (NI i) * 1) (SV.raw (VS base len cap)) ∧ bif decide ((NI len) > (60 : Int)) then Mem.le E0 E ∧ K (SV.raw (Value.bool false)) E else Lp L1 8 Try.f14 [1, 0, 1, 0, 0, 1, 1, 0, 0, 1, 1, 1, 0] 0 (pubK E0 K) { fr := none :: none :: some (SV.loc 0 0) :: none :: none :: none :: some (L base len cap) :: none :: none :: some (L d m e) :: some (I (NI m)) :: some (I (NI i)) :: some (B (decide ((NI i) < (NI m)))) :: some (SV.rp (VS d m e) (Int.toNat (NI i) * 1)) :: some (L base len cap) :: some (L base len cap) :: some (I (NI len)) :: some (B (decide ((NI len) > (60 : Int)))) :: some (L base len cap) :: some (I (NI len)) :: some (I 0) :: n8 (n4 []), bx := [⟨24, .lst [I s, L b l c], 2, true⟩], E := E : St }) else Mem.le E0 E ∧ K (SV.raw (Value.bool (decide ((NI l) ≤ (400 : Int))))) E)
  delta NI VS n4 n8
  have hn := hx.len
  refine condC (fun g => ?_) (fun g => ?_)
  · have g : i < m := by simpa using g
    obtain ⟨xs, ex⟩ : ∃ xs, xsss[i]? = some xs := ⟨_, List.getElem?_eq_getElem (by omega)⟩
    obtain ⟨p1, b', l', c', p2, p3⟩ := RBL.load hx ex
    have hl := p3.len
    refine req_intro (by omega) ⟨p1, b', l', c', p2, condC (fun q => ?_) (fun q => ?_)⟩
    · have q : 60 < l' := by simp at q; omega
      rw [decide_eq_false (fun z => by have := (z.1 xs (List.mem_of_getElem? ex)).1; omega)] at h
      exact ⟨hE, h⟩
    · have q : l' ≤ 60 := by simp at q; omega
      exact Lp_re [some 0] (ih b' l' c' xs g ex p3 q) (wkG (Mem.le_refl _))
  · have g : i = m := by simp at g; omega
    subst g
    rw [List.take_of_length_le (by omega)] at hp
    rw [show decide ((l : Int) ≤ 400) = decide (shortP l xsss) from by
      by_cases z : l ≤ 400
      · rw [decide_eq_true (show (l : Int) ≤ 400 by omega), decide_eq_true (show shortP l xsss from ⟨hp, z⟩)]
      · rw [decide_eq_false (show ¬ (l : Int) ≤ 400 by omega), decide_eq_false (fun w => z w.2)]]
    exact ⟨hE, h⟩
theorem r14i {s : Int} {b d k : Option Addr} {l c m e i kn kc j : Nat} {E0 : Mem} {xsss : List (List (List Int))} {xs : List (List Int)} (hB : BL E k kn kc xs) (hxs : xsss[i]? = some xs) (hk : kn ≤ 60) (hi : i ≤ 10) (hj : j ≤ kn) (hq : ∀ x ∈ xs.take j, x.length ≤ 400) (hE : Mem.le E0 E) (h : K (B (decide (shortP l xsss))) E)
    (ih1 : j < kn → (∀ x ∈ xs.take (j + 1), x.length ≤ 400) → Lp L1 8 Try.f14 [1, 0, 1, 0, 0, 1, 1, 0, 0, 1, 1, 1, 0] 0 (pubK E0 K) (w14i s b l c d m e i k kn kc (j + 1) E)) (ih2 : shortL xs → Lp L1 8 Try.f14 [1, 0, 1, 0] 0 (pubK E0 K) (w14o s b l c d m e (i + 1) E)) : Rnd L1 8 Try.f14 [1, 0, 1, 0, 0, 1, 1, 0, 0, 1, 1, 1, 0] 0 (pubK E0 K) (w14i s b l c d m e i k kn kc j E) := by
  refine same (by kernel_rfl) (?_ : bif decide ((NI j) < (NI kn)) then req ((0 : Int) ≤ (NI j) ∧ (NI j) < (NI kn)) ((∃ (cs : List Value), E (VS k kn kc) cs ∧ (cs = [] → False)) ∧ ∃ (base : Option Addr), ∃ (len : Nat), ∃ (cap : Nat), LoadE L1.P E 22 (VS k kn kc) (Int.toNat (NI j) * 1) (SV.raw (VS base len cap)) ∧ bif decide ((NI len) > (400 : Int)) then Mem.le E0 E ∧ K (SV.raw (Value.bool false)) E else Lp L1 8 Try.f14 [1, 0, 1, 0, 0, 1, 1, 0, 0, 1, 1, 1, 0] 0 (pubK E0 K) { fr := none :: none :: some (SV.loc 0 0) :: n4 (n2 (some (L d m e) :: some (I (NI m)) :: some (I (NI i)) :: n4 (n2 (some (L k kn kc) :: some (I (NI kn)) :: some (I (WI ((NI j) + (1 : Int)))) :: n8 (n4 []))))), bx := [⟨24, .lst [I s, L b l c], 2, true⟩], E := E : St }) else Lp L1 8 Try.f14 [1, 0, 1, 0] 0 (pubK E0 K) { fr := none :: none :: some (SV.loc 0 0) :: n4 (n2 (some (L d m e) :: some (I (NI m)) :: some (I (WI ((NI i) + (1 : Int)))) :: n8 (some (I (NI j)) :: n8 (n4 [])))), bx := [⟨24, .lst [I s, L b l c], 2, true⟩], E := E : St })
  delta WI NI VS n2 n4 n8
  have hn := hB.len
  refine condC (fun g => ?_) (fun g => ?_)
  · have g : j < kn := by simpa using g
    obtain ⟨x, ex⟩ := hB.get g
    obtain ⟨p1, b', l', c', p2, p3⟩ := hB.load ex
    have hl := p3.2.1
    refine req_intro (by omega) ⟨p1, b', l', c', p2, condC (fun q => ?_) (fun q => ?_)⟩
    · have q : 400 < l' := by simp at q; omega
      rw [decide_eq_false (fun z => by have := (z.1 xs (List.mem_of_getElem? hxs)).2 x (List.mem_of_getElem? ex); omega)] at h
      exact ⟨hE, h⟩
    · have q : l' ≤ 400 := by simp at q; omega
      rw [wrap_i64 (x := (j : Int) + 1) (by omega), show (j : Int) + 1 = ((j + 1 : Nat) : Int) by simp]
      exact Lp_re [some 0] (ih1 g (fun y hy => by rw [take_get' ex] at hy; rcases List.mem_append.1 hy with z | z; exact hq y z; simp only [List.mem_singleton] at z; subst z; omega)) (wkG (Mem.le_refl _))
  · have g : j = kn := by simp at g; omega
    subst g
    rw [List.take_of_length_le (by omega)] at hq
    rw [wrap_i64 (x := (i : Int) + 1) (by omega), show (i : Int) + 1 = ((i + 1 : Nat) : Int) by simp]
    exact Lp_re [some 0] (ih2 ⟨by omega, hq⟩) (wkG (Mem.le_refl _))
theorem l14i {s : Int} {b d k : Option Addr} {l c m e i kn kc : Nat} {E0 : Mem} {xsss : List (List (List Int))} {xs : List (List Int)} (hB : BL E k kn kc xs) (hxs : xsss[i]? = some xs) (hk : kn ≤ 60) (hi : i ≤ 10) (hE : Mem.le E0 E) (h : K (B (decide (shortP l xsss))) E) (ih2 : shortL xs → Lp L1 8 Try.f14 [1, 0, 1, 0] 0 (pubK E0 K) (w14o s b l c d m e (i + 1) E)) :
    ∀ {r j : Nat}, j + r = kn → (∀ x ∈ xs.take j, x.length ≤ 400) → Lp L1 8 Try.f14 [1, 0, 1, 0, 0, 1, 1, 0, 0, 1, 1, 1, 0] 0 (pubK E0 K) (w14i s b l c d m e i k kn kc j E)
  | 0, j, hr, hq => Lp_ind (ι := Unit) okL1 (fun _ => w14i s b l c d m e i k kn kc j E) (fun _ => 0) (fun _ _ => r14i hB hxs hk hi (by omega) hq hE h (fun g => by omega) ih2) ()
  | r + 1, j, hr, hq => Lp_ind (ι := Unit) okL1 (fun _ => w14i s b l c d m e i k kn kc j E) (fun _ => 0) (fun _ _ => r14i hB hxs hk hi (by omega) hq hE h (fun g q => l14i hB hxs hk hi hE h ih2 (r := r) (by omega) q) ih2) ()
theorem l14o {s : Int} {b d : Option Addr} {l c m e : Nat} {E0 : Mem} {xsss : List (List (List Int))} (hx : SL RBL E d m e xsss) (hm : m ≤ 10) (hE : Mem.le E0 E) (h : K (B (decide (shortP l xsss))) E) :
    ∀ {r i : Nat}, i + r = m → (∀ xs ∈ xsss.take i, shortL xs) → Lp L1 8 Try.f14 [1, 0, 1, 0] 0 (pubK E0 K) (w14o s b l c d m e i E)
  | 0, i, hr, hp => Lp_ind (ι := Unit) okL1 (fun _ => w14o s b l c d m e i E) (fun _ => 0) (fun _ _ => r14o hx hm (by omega) hp hE h (fun _ _ _ _ g => by omega)) ()
  | r + 1, i, hr, hp => Lp_ind (ι := Unit) okL1 (fun _ => w14o s b l c d m e i E) (fun _ => 0) (fun _ _ => r14o hx hm (by omega) hp hE h (fun k kn kc xs g ex hB hk => l14i hB ex hk (by omega) hE h (fun hs => l14o hx hm hE h (r := r) (by omega) (fun ys hy => by rw [take_get' ex] at hy; rcases List.mem_append.1 hy with z | z; exact hp ys z; simp only [List.mem_singleton] at z; subst z; exact hs)) (r := kn) (j := 0) (by omega) (by simp))) ()
theorem j14 {a1 : Int} {b2 : Option Addr} {l3 : Nat} {c4 : Nat} {b5 : Option Addr} {l6 : Nat} {c7 : Nat} {xsss : List (List (List Int))} (h0 : l3 ≤ 9223372036854775807) (h1 : SL RBL E b5 l6 c7 xsss) (h2 : l6 ≤ 10) (h : K (B (decide (shortP l3 xsss))) E) :
    Ent L1 8 Try.f14 [.agg [I a1, L b2 l3 c4], L b5 l6 c7] E K := by
  refine same (by kernel_rfl) (?_ : Lp L1 8 Try.f14 [1, 0, 1, 0] 0 (pubK E K) { fr := some (SV.agg [I a1, L b2 l3 c4]) :: some (L b5 l6 c7) :: some (SV.loc 0 0) :: n4 (n2 (some (L b5 l6 c7) :: some (I (NI l6)) :: some (I 0) :: n16 (n4 (none :: [])))), bx := [⟨24, .lst [I a1, L b2 l3 c4], 2, true⟩], E := E : St })
  delta NI n2 n4 n16
  exact Lp_re [some 0] (l14o h1 h2 (Mem.le_refl _) h (r := l6) (i := 0) (by omega) (by simp)) (wkG (Mem.le_refl _))
noncomputable def tabH1 : FuncId → List SV → Mem → (SV → Mem → Prop) → Prop := fun f args E K => match f with
  | 11 => d2 args fun x0 x1 => dI x0 fun a1 => dI x1 fun a2 => (∀ (s' : Int) (b' : Option Addr) (l' c' : Nat) (ys : List Int) (e : Int) (E' : Mem), Mem.le E E' → Hyp (formatF a1 a2 = ((s', ys), e)) → Bs E' b' l' c' ys → K (.tup [.agg [I s', L b' l' c'], I e]) E')
  | 15 => d1 args fun x0 => dC x0 fun l1 => d2 l1 fun x0_0 x0_1 => dI x0_0 fun a1 => dS x0_1 fun b2 l3 c4 => ∃ (zs : List Int), Bs E b2 l3 c4 zs ∧ (∀ (b' : Option Addr) (l' c' : Nat) (yss : List (List Int)) (e : Int) (E' : Mem), Mem.le E E' → Hyp (readF a1 zs = (yss, e)) → BL E' b' l' c' yss → K (.tup [L b' l' c', I e]) E')
  | 17 => d2 args fun x0 x1 => dC x0 fun l1 => d2 l1 fun x0_0 x0_1 => dI x0_0 fun a1 => dS x0_1 fun b2 l3 c4 => dS x1 fun b5 l6 c7 => ∃ (zs : List Int) (ds : List Int), Bs E b2 l3 c4 zs ∧ Bs E b5 l6 c7 ds ∧ l6 ≤ 60000 ∧ (∀ (b' : Option Addr) (l' c' : Nat) (ms : List (Int × List Int)) (e : Int) (E' : Mem), Mem.le E E' → Hyp (appendF a1 zs ds = (ms, e)) → FL E' b' l' c' ms → K (.tup [L b' l' c', I e]) E')
  | 19 => d2 args fun x0 x1 => dC x0 fun l1 => d2 l1 fun x0_0 x0_1 => dI x0_0 fun a1 => dS x0_1 fun b2 l3 c4 => dS x1 fun b5 l6 c7 => ∃ (zs : List Int) (keep : List (List Int)), Bs E b2 l3 c4 zs ∧ BL E b5 l6 c7 keep ∧ (∀ d ∈ keep, d.length ≤ 60000) ∧ l6 ≤ 1000 ∧ (∀ (b' : Option Addr) (l' c' : Nat) (ms : List (Int × List Int)) (e : Int) (E' : Mem), Mem.le E E' → Hyp (compactF a1 zs keep = (ms, e)) → FL E' b' l' c' ms → K (.tup [L b' l' c', I e]) E')
  | 21 => d2 args fun x0 x1 => dS x0 fun b1 l2 c3 => dS x1 fun b4 l5 c6 => ∃ (xss : List (List Int)) (yss : List (List Int)), BL E b1 l2 c3 xss ∧ BL E b4 l5 c6 yss ∧ (∀ d ∈ xss, d.length ≤ 100000) ∧ l2 ≤ 100000 ∧ (K (B (decide (xss = yss))) E)
  | _ => False
theorem tabH1_ok : TabOK Try.prog tabH1 := by
  intro f args E K h
  unfold tabH1 at h
  split at h
  · replace h := d2_elim h
    obtain ⟨x0, x1, rfl, h⟩ := h
    replace h := dI_elim h
    obtain ⟨a1, rfl, h⟩ := h
    replace h := dI_elim h
    obtain ⟨a2, rfl, h⟩ := h
    exact TabSem.congr (valL_cons rfl (valL_cons rfl rfl)) (Ent.sem okKL Try.func11 ⟨by kernel_rfl, by kernel_rfl⟩ rfl (j11 h))
  · replace h := d1_elim h
    obtain ⟨x0, rfl, h⟩ := h
    replace h := dC_elim h
    obtain ⟨l1, hl1, h⟩ := h
    replace h := d2_elim h
    obtain ⟨x0_0, x0_1, rfl, h⟩ := h
    replace h := dI_elim h
    obtain ⟨a1, rfl, h⟩ := h
    replace h := dS_elim h
    obtain ⟨b2, l3, c4, rfl, h⟩ := h
    obtain ⟨zs, g0, h⟩ := h
    exact TabSem.congr (valL_cons (asCells_val hl1) rfl) (Ent.sem okKI Try.func15 ⟨by kernel_rfl, by kernel_rfl⟩ rfl (j15 g0 h))
  · replace h := d2_elim h
    obtain ⟨x0, x1, rfl, h⟩ := h
    replace h := dC_elim h
    obtain ⟨l1, hl1, h⟩ := h
    replace h := d2_elim h
    obtain ⟨x0_0, x0_1, rfl, h⟩ := h
    replace h := dI_elim h
    obtain ⟨a1, rfl, h⟩ := h
    replace h := dS_elim h
    obtain ⟨b2, l3, c4, rfl, h⟩ := h
    replace h := dS_elim h
    obtain ⟨b5, l6, c7, rfl, h⟩ := h
    obtain ⟨zs, ds, g0, g1, g2, h⟩ := h
    exact TabSem.congr (valL_cons (asCells_val hl1) (valL_cons rfl rfl)) (Ent.sem okKI Try.func17 ⟨by kernel_rfl, by kernel_rfl⟩ rfl (j17 g0 g1 g2 h))
  · replace h := d2_elim h
    obtain ⟨x0, x1, rfl, h⟩ := h
    replace h := dC_elim h
    obtain ⟨l1, hl1, h⟩ := h
    replace h := d2_elim h
    obtain ⟨x0_0, x0_1, rfl, h⟩ := h
    replace h := dI_elim h
    obtain ⟨a1, rfl, h⟩ := h
    replace h := dS_elim h
    obtain ⟨b2, l3, c4, rfl, h⟩ := h
    replace h := dS_elim h
    obtain ⟨b5, l6, c7, rfl, h⟩ := h
    obtain ⟨zs, keep, g0, g1, g2, g3, h⟩ := h
    exact TabSem.congr (valL_cons (asCells_val hl1) (valL_cons rfl rfl)) (Ent.sem okKJ Try.func19 ⟨by kernel_rfl, by kernel_rfl⟩ rfl (j19 g0 g1 g2 g3 h))
  · replace h := d2_elim h
    obtain ⟨x0, x1, rfl, h⟩ := h
    replace h := dS_elim h
    obtain ⟨b1, l2, c3, rfl, h⟩ := h
    replace h := dS_elim h
    obtain ⟨b4, l5, c6, rfl, h⟩ := h
    obtain ⟨xss, yss, g0, g1, g2, g3, h⟩ := h
    exact TabSem.congr (valL_cons rfl (valL_cons rfl rfl)) (Ent.sem okK4 Try.func21 ⟨by kernel_rfl, by kernel_rfl⟩ rfl (j21 g0 g1 g2 g3 h))
  · exact h.elim
noncomputable def L2 : Cx := { P := Try.prog, inl := fun f => List.contains [] f, tab := tabH1, isB := fun _ => false, tabB := fun _ _ _ _ _ => False, opt := { unroll := 0, carry := [] }, muts := (fun o => match o with | .call { callee := .value (.func 17), .. } => true | o => mutsD o) }
theorem okL2 : CxOK L2 := CxOK.four tabH1_ok (by kernel_rfl) (okInl (by kernel_rfl)) (fun _ _ _ _ _ h => h.elim)
def hF0 : List Int := [90, 0, 0, 0, 0] ++ List.replicate 59 255
def hA : List (Int × List Int) := (appendF 32 hF0 [97, 98, 99]).1
def hm (l : List (Int × List Int)) (i : Nat) : Int × List Int := l.getD i (0, [])
theorem hd1 : (appendF 32 hF0 [97, 98, 99]).2 = 0 ∧ hA.length = 15 := by decide +kernel
theorem hd2 : (appendF 32 hF0 (List.replicate 17 0)).2 = 10 ∧ (appendF 32 hF0 (List.replicate 16 0)).2 = 0 := by decide +kernel
theorem hd6 : readF (hm hA 14).1 (hm hA 14).2 = ([[97, 98, 99]], 0) := by decide +kernel
theorem hd7 : readF (hm hA 13).1 (hm hA 13).2 = ([], 0) := by decide +kernel
def hB : List (Int × List Int) := (appendF (hm hA 5).1 (hm hA 5).2 [120, 121, 122]).1
theorem hd4 : (appendF (hm hA 5).1 (hm hA 5).2 [120, 121, 122]).2 = 0 ∧ hB.length = 52 := by decide +kernel
def hC : List (Int × List Int) := (compactF (hm hA 14).1 (hm hA 14).2 [[113], []]).1
theorem hd5 : (compactF (hm hA 14).1 (hm hA 14).2 [[113], []]).2 = 0 ∧ hC.length = 61 := by decide +kernel
theorem hd8 : readF (hm hC 60).1 (hm hC 60).2 = ([[113], []], 0) := by decide +kernel
theorem hd9 : readF (hm hB 51).1 (hm hB 51).2 = ([[120, 121, 122]], 0) := by decide +kernel
theorem hm_get {l : List (Int × List Int)} {i : Nat} (h : i < l.length) : l[i]? = some (hm l i) := by
  unfold hm
  rw [List.getD_eq_getElem?_getD, List.getElem?_eq_getElem h]; rfl
theorem bys (zs : List Int) (h : zs.all (fun z => decide (0 ≤ z) && decide (z ≤ 255)) = true) : ∀ z ∈ zs, 0 ≤ z ∧ z ≤ 255 := fun z hz => by simpa using List.all_eq_true.1 h z hz
theorem eq2 {α β : Type} {p : α × β} {a : α} {b : β} (h : p = (a, b)) : p.1 = a ∧ p.2 = b := by subst h; exact ⟨rfl, rfl⟩
theorem j10  (h : ∀ E' : Mem, Mem.le E E' → K (B true) E') :
    Ent L2 8 Try.f10 [] E K := by
  refine same (by kernel_rfl) (?_ : ∀ (s' : Int) (b' : Option Addr) (l' c' : Nat) (ys : List Int) (e : Int) (E' : Mem), Mem.le E E' → Hyp ((((32 : Int), [(90 : Int), (0 : Int), (0 : Int), (0 : Int), (0 : Int), (255 : Int), (255 : Int), (255 : Int), (255 : Int), (255 : Int), (255 : Int), (255 : Int), (255 : Int), (255 : Int), (255 : Int), (255 : Int), (255 : Int), (255 : Int), (255 : Int), (255 : Int), (255 : Int), (255 : Int), (255 : Int), (255 : Int), (255 : Int), (255 : Int), (255 : Int), (255 : Int), (255 : Int), (255 : Int), (255 : Int), (255 : Int), (255 : Int), (255 : Int), (255 : Int), (255 : Int), (255 : Int), (255 : Int), (255 : Int), (255 : Int), (255 : Int), (255 : Int), (255 : Int), (255 : Int), (255 : Int), (255 : Int), (255 : Int), (255 : Int), (255 : Int), (255 : Int), (255 : Int), (255 : Int), (255 : Int), (255 : Int), (255 : Int), (255 : Int), (255 : Int), (255 : Int), (255 : Int), (255 : Int), (255 : Int), (255 : Int), (255 : Int), (255 : Int)]), (0 : Int)) = ((s', ys), e)) → Bs E' b' l' c' ys → Mem.le E E' ∧ ∀ (s'_1 : Int) (b'_1 : Option Addr) (l'_1 c'_1 : Nat) (ys : List Int) (e_1 : Int) (E'_1 : Mem), Mem.le E' E'_1 → Hyp ((((0 : Int), []), (1 : Int)) = ((s'_1, ys), e_1)) → Bs E'_1 b'_1 l'_1 c'_1 ys → Mem.le E' E'_1 ∧ ∀ (s'_2 : Int) (b'_2 : Option Addr) (l'_2 c'_2 : Nat) (ys : List Int) (e_2 : Int) (E' : Mem), Mem.le E'_1 E' → Hyp ((((0 : Int), []), (1 : Int)) = ((s'_2, ys), e_2)) → Bs E' b'_2 l'_2 c'_2 ys → Mem.le E'_1 E' ∧ ∀ (base : Option Addr) (E'_2 : Mem), Mem.le E' E'_2 → WinE E'_2 base [U8 97, U8 98, U8 99] → ∃ (zs : List Int), ∃ (ds : List Int), Bs E'_2 b' l' c' zs ∧ Bs E'_2 (Option.map (fun (x : Addr) => Addr.add x 0) base) 3 3 ds ∧ 3 ≤ 60000 ∧ ∀ (b'_3 : Option Addr) (l'_3 c'_3 : Nat) (ms : List (Int × List Int)) (e_3 : Int) (E' : Mem), Mem.le E'_2 E' → Hyp (appendF s' zs ds = (ms, e_3)) → FL E' b'_3 l'_3 c'_3 ms → ∀ (base : Option Addr) (E'_3 : Mem), Mem.le E' E'_3 → WinE E'_3 base [U8 0, U8 0, U8 0, U8 0, U8 0, U8 0, U8 0, U8 0, U8 0, U8 0, U8 0, U8 0, U8 0, U8 0, U8 0, U8 0, U8 0] → ∃ (zs : List Int), ∃ (ds : List Int), Bs E'_3 b' l' c' zs ∧ Bs E'_3 (Option.map (fun (x : Addr) => Addr.add x 0) base) 17 17 ds ∧ 17 ≤ 60000 ∧ ∀ (b'_4 : Option Addr) (l'_4 c'_4 : Nat) (ms : List (Int × List Int)) (e_4 : Int) (E' : Mem), Mem.le E'_3 E' → Hyp (appendF s' zs ds = (ms, e_4)) → FL E' b'_4 l'_4 c'_4 ms → Sx.Alike (AlikeT.n (AlikeT.n AlikeT.l AlikeT.l) AlikeT.l) (∀ (base : Option Addr) (E'_4 : Mem), Mem.le E' E'_4 → WinE E'_4 base [U8 0, U8 0, U8 0, U8 0, U8 0, U8 0, U8 0, U8 0, U8 0, U8 0, U8 0, U8 0, U8 0, U8 0, U8 0, U8 0] → ∃ (zs : List Int), ∃ (ds : List Int), Bs E'_4 b' l' c' zs ∧ Bs E'_4 (Option.map (fun (x : Addr) => Addr.add x 0) base) 16 16 ds ∧ 16 ≤ 60000 ∧ ∀ (b' : Option Addr) (l' c' : Nat) (ms : List (Int × List Int)) (e_5 : Int) (E' : Mem), Mem.le E'_4 E' → Hyp (appendF s' zs ds = (ms, e_5)) → FL E' b' l' c' ms → Sx.Alike (AlikeT.n (AlikeT.n AlikeT.l AlikeT.l) AlikeT.l) (bif e != (0 : Int) then Mem.le E E' ∧ K (SV.raw (Value.bool false)) E' else bif bif false then true else e_1 != (1 : Int) then Mem.le E E' ∧ K (SV.raw (Value.bool false)) E' else bif bif false then true else e_2 != (1 : Int) then Mem.le E E' ∧ K (SV.raw (Value.bool false)) E' else bif bif false then true else e_3 != (0 : Int) then Mem.le E E' ∧ K (SV.raw (Value.bool false)) E' else bif bif false then true else e_4 != (10 : Int) then Mem.le E E' ∧ K (SV.raw (Value.bool false)) E' else bif bif false then true else e_5 != (0 : Int) then Mem.le E E' ∧ K (SV.raw (Value.bool false)) E' else bif bif false then true else (NI l'_3) != (15 : Int) then Mem.le E E' ∧ K (SV.raw (Value.bool false)) E' else req ((0 : Int) ≤ (5 : Int) ∧ (5 : Int) < (NI l'_3)) ((∃ (cs : List Value), E' (VS b'_3 l'_3 c'_3) cs ∧ (cs = [] → False)) ∧ ∃ (n : Int), ∃ (base : Option Addr), ∃ (len : Nat), ∃ (cap : Nat), LoadE L2.P E' 24 (VS b'_3 l'_3 c'_3) 10 (SV.agg [SV.raw (Value.int IntKind.i64 n), SV.raw (VS base len cap)]) ∧ ∀ (base_1 : Option Addr) (E'_5 : Mem), Mem.le E' E'_5 → WinE E'_5 base_1 [U8 120, U8 121, U8 122] → ∃ (zs : List Int), ∃ (ds : List Int), Bs E'_5 base len cap zs ∧ Bs E'_5 (Option.map (fun (x : Addr) => Addr.add x 0) base_1) 3 3 ds ∧ (3 : Nat) ≤ (60000 : Nat) ∧ ∀ (b' : Option Addr) (l' c' : Nat) (ms : List (Int × List Int)) (e : Int) (E' : Mem), Mem.le E'_5 E' → Hyp (appendF n zs ds = (ms, e)) → FL E' b' l' c' ms → req ((0 : Int) ≤ (14 : Int) ∧ (14 : Int) < (NI l'_3)) ((∃ (cs : List Value), E' (VS b'_3 l'_3 c'_3) cs ∧ (cs = [] → False)) ∧ ∃ (n : Int), ∃ (base : Option Addr), ∃ (len : Nat), ∃ (cap : Nat), LoadE L2.P E' 24 (VS b'_3 l'_3 c'_3) 28 (SV.agg [SV.raw (Value.int IntKind.i64 n), SV.raw (VS base len cap)]) ∧ ∀ (base_2 : Option Addr) (E'_6 : Mem), Mem.le E' E'_6 → WinE E'_6 base_2 [U8 113] → ∀ (base_3 : Option Addr) (E' : Mem), Mem.le E'_6 E' → WinE E' base_3 [VS (Option.map (fun (x : Addr) => Addr.add x 0) base_2) 1 1, VS none 0 0] → ∃ (zs : List Int), ∃ (keep : List (List Int)), Bs E' base len cap zs ∧ BL E' (Option.map (fun (x : Addr) => Addr.add x 0) base_3) 2 2 keep ∧ (∀ (d : List Int), List.Mem d keep → List.length d ≤ (60000 : Nat)) ∧ (2 : Nat) ≤ (1000 : Nat) ∧ ∀ (b'_5 : Option Addr) (l'_5 c'_5 : Nat) (ms : List (Int × List Int)) (e_6 : Int) (E'_7 : Mem), Mem.le E' E'_7 → Hyp (compactF n zs keep = (ms, e_6)) → FL E'_7 b'_5 l'_5 c'_5 ms → bif e != (0 : Int) then Mem.le E E'_7 ∧ K (SV.raw (Value.bool false)) E'_7 else bif bif false then true else e_6 != (0 : Int) then Mem.le E E'_7 ∧ K (SV.raw (Value.bool false)) E'_7 else bif bif false then true else (NI l') != (52 : Int) then Mem.le E E'_7 ∧ K (SV.raw (Value.bool false)) E'_7 else bif bif false then true else (NI l'_5) == (0 : Int) then Mem.le E E'_7 ∧ K (SV.raw (Value.bool false)) E'_7 else req ((0 : Int) ≤ (14 : Int) ∧ (14 : Int) < (NI l'_3)) ((∃ (cs : List Value), E'_7 (VS b'_3 l'_3 c'_3) cs ∧ (cs = [] → False)) ∧ ∃ (n : Int), ∃ (base : Option Addr), ∃ (len : Nat), ∃ (cap : Nat), LoadE L2.P E'_7 24 (VS b'_3 l'_3 c'_3) 28 (SV.agg [SV.raw (Value.int IntKind.i64 n), SV.raw (VS base len cap)]) ∧ ∃ (zs : List Int), Bs E'_7 base len cap zs ∧ ∀ (b'_6 : Option Addr) (l'_6 c'_6 : Nat) (yss : List (List Int)) (e : Int) (E' : Mem), Mem.le E'_7 E' → Hyp (((openF n zs).fst.fst, (openF n zs).snd) = (yss, e)) → BL E' b'_6 l'_6 c'_6 yss → Mem.le E'_7 E' ∧ req ((0 : Int) ≤ (13 : Int) ∧ (13 : Int) < (NI l'_3)) ((∃ (cs : List Value), E' (VS b'_3 l'_3 c'_3) cs ∧ (cs = [] → False)) ∧ ∃ (n : Int), ∃ (base : Option Addr), ∃ (len : Nat), ∃ (cap : Nat), LoadE L2.P E' 24 (VS b'_3 l'_3 c'_3) 26 (SV.agg [SV.raw (Value.int IntKind.i64 n), SV.raw (VS base len cap)]) ∧ ∃ (zs : List Int), Bs E' base len cap zs ∧ ∀ (b'_7 : Option Addr) (l'_7 c'_7 : Nat) (yss : List (List Int)) (e_7 : Int) (E'_8 : Mem), Mem.le E' E'_8 → Hyp (((openF n zs).fst.fst, (openF n zs).snd) = (yss, e_7)) → BL E'_8 b'_7 l'_7 c'_7 yss → Mem.le E' E'_8 ∧ req ((0 : Int) ≤ WI ((NI l'_5) - (1 : Int)) ∧ WI ((NI l'_5) - (1 : Int)) < (NI l'_5)) ((∃ (cs : List Value), E'_8 (VS b'_5 l'_5 c'_5) cs ∧ (cs = [] → False)) ∧ ∃ (n : Int), ∃ (base : Option Addr), ∃ (len : Nat), ∃ (cap : Nat), LoadE L2.P E'_8 24 (VS b'_5 l'_5 c'_5) (Int.toNat (WI ((NI l'_5) - (1 : Int))) * (2 : Nat)) (SV.agg [SV.raw (Value.int IntKind.i64 n), SV.raw (VS base len cap)]) ∧ ∃ (zs : List Int), Bs E'_8 base len cap zs ∧ ∀ (b'_8 : Option Addr) (l'_8 c'_8 : Nat) (yss : List (List Int)) (e_8 : Int) (E' : Mem), Mem.le E'_8 E' → Hyp (((openF n zs).fst.fst, (openF n zs).snd) = (yss, e_8)) → BL E' b'_8 l'_8 c'_8 yss → Mem.le E'_8 E' ∧ req ((0 : Int) ≤ (51 : Int) ∧ (51 : Int) < (NI l')) ((∃ (cs : List Value), E' (VS b' l' c') cs ∧ (cs = [] → False)) ∧ ∃ (n : Int), ∃ (base : Option Addr), ∃ (len : Nat), ∃ (cap : Nat), LoadE L2.P E' 24 (VS b' l' c') 102 (SV.agg [SV.raw (Value.int IntKind.i64 n), SV.raw (VS base len cap)]) ∧ ∃ (zs : List Int), Bs E' base len cap zs ∧ ∀ (b' : Option Addr) (l' c' : Nat) (yss : List (List Int)) (e_9 : Int) (E'_9 : Mem), Mem.le E' E'_9 → Hyp (((openF n zs).fst.fst, (openF n zs).snd) = (yss, e_9)) → BL E'_9 b' l' c' yss → Mem.le E' E'_9 ∧ bif e == (0 : Int) then bif bif true then e_7 == (0 : Int) else false then bif bif true then e_8 == (0 : Int) else false then bif bif true then e_9 == (0 : Int) else false then ∀ (base : Option Addr) (E' : Mem), Mem.le E'_9 E' → WinE E' base [U8 97, U8 98, U8 99] → ∀ (base_4 : Option Addr) (E'_10 : Mem), Mem.le E' E'_10 → WinE E'_10 base_4 [VS (Option.map (fun (x : Addr) => Addr.add x 0) base) 3 3] → ∃ (xss : List (List Int)), ∃ (yss : List (List Int)), BL E'_10 b'_6 l'_6 c'_6 xss ∧ BL E'_10 (Option.map (fun (x : Addr) => Addr.add x 0) base_4) 1 1 yss ∧ (∀ (d : List Int), List.Mem d xss → List.length d ≤ (100000 : Nat)) ∧ l'_6 ≤ (100000 : Nat) ∧ bif bif true then decide (xss = yss) else false then bif bif true then (NI l'_7) == (0 : Int) else false then ∀ (base : Option Addr) (E' : Mem), Mem.le E'_10 E' → WinE E' base [U8 113] → ∀ (base_5 : Option Addr) (E'_11 : Mem), Mem.le E' E'_11 → WinE E'_11 base_5 [VS (Option.map (fun (x : Addr) => Addr.add x 0) base) 1 1, VS none 0 0] → ∃ (xss : List (List Int)), ∃ (yss : List (List Int)), BL E'_11 b'_8 l'_8 c'_8 xss ∧ BL E'_11 (Option.map (fun (x : Addr) => Addr.add x 0) base_5) 2 2 yss ∧ (∀ (d : List Int), List.Mem d xss → List.length d ≤ (100000 : Nat)) ∧ l'_8 ≤ (100000 : Nat) ∧ bif bif true then decide (xss = yss) else false then ∀ (base : Option Addr) (E' : Mem), Mem.le E'_11 E' → WinE E' base [U8 120, U8 121, U8 122] → ∀ (base_6 : Option Addr) (E'_12 : Mem), Mem.le E' E'_12 → WinE E'_12 base_6 [VS (Option.map (fun (x : Addr) => Addr.add x 0) base) 3 3] → ∃ (xss : List (List Int)), ∃ (yss : List (List Int)), BL E'_12 b' l' c' xss ∧ BL E'_12 (Option.map (fun (x : Addr) => Addr.add x 0) base_6) 1 1 yss ∧ (∀ (d : List Int), List.Mem d xss → List.length d ≤ (100000 : Nat)) ∧ l' ≤ (100000 : Nat) ∧ Mem.le E E'_12 ∧ K (SV.raw (Value.bool (bif true then decide (xss = yss) else false))) E'_12 else Mem.le E E'_11 ∧ K (SV.raw (Value.bool false)) E'_11 else Mem.le E E'_10 ∧ K (SV.raw (Value.bool false)) E'_10 else Mem.le E E'_10 ∧ K (SV.raw (Value.bool false)) E'_10 else Mem.le E E'_9 ∧ K (SV.raw (Value.bool false)) E'_9 else Mem.le E E'_9 ∧ K (SV.raw (Value.bool false)) E'_9 else Mem.le E E'_9 ∧ K (SV.raw (Value.bool false)) E'_9 else Mem.le E E'_9 ∧ K (SV.raw (Value.bool false)) E'_9)))))))))
  delta WI NI U8 VS
  intro s1 b1 l1 c1 y1 e1 E1 k1 r1 B1
  have ra : (((32 : Int), hF0), (0 : Int)) = ((s1, y1), e1) := r1
  clear r1
  obtain ⟨rb, rfl⟩ := Prod.mk.inj ra
  obtain ⟨rfl, rfl⟩ := Prod.mk.inj rb
  refine ⟨k1, fun s2 b2 l2 c2 y2 e2 E2 k2 r2 B2 => ⟨k2, fun s3 b3 l3 c3 y3 e3 E3 k3 r3 B3 => ⟨k3, fun t4 E4 k4 w4 => ?_⟩⟩⟩
  have r2 : (((0 : Int), ([] : List Int)), (1 : Int)) = ((s2, y2), e2) := r2
  have r3 : (((0 : Int), ([] : List Int)), (1 : Int)) = ((s3, y3), e3) := r3
  obtain ⟨_, rfl⟩ := Prod.mk.inj r2
  obtain ⟨_, rfl⟩ := Prod.mk.inj r3
  have q4 : Mem.le E1 E4 := Mem.le_trans k2 (Mem.le_trans k3 k4)
  refine ⟨hF0, [97, 98, 99], B1.mono q4, Bs.win (zs := [97, 98, 99]) w4 rfl rfl (Nat.le_refl _) (bys _ rfl), by decide, fun b5 l5 c5 m5 e5 E5 k5 r5 F5 => ?_⟩
  obtain ⟨x5, y5⟩ := eq2 (show appendF 32 hF0 [97, 98, 99] = (m5, e5) from r5)
  rw [hd1.1] at y5
  have x5 : hA = m5 := x5
  subst x5; subst y5
  have n5 := F5.len
  rw [hd1.2] at n5
  subst n5
  refine fun t6 E6 k6 w6 => ⟨hF0, List.replicate 17 0, B1.mono (Mem.le_trans q4 (Mem.le_trans k5 k6)), Bs.win (zs := List.replicate 17 0) w6 rfl rfl (Nat.le_refl _) (bys _ rfl), by decide, fun b7 l7 c7 m7 e7 E7 k7 r7 F7 => alike (fun t8 E8 k8 w8 => ⟨hF0, List.replicate 16 0, B1.mono (Mem.le_trans q4 (Mem.le_trans k5 (Mem.le_trans k6 (Mem.le_trans k7 k8)))), Bs.win (zs := List.replicate 16 0) w8 rfl rfl (Nat.le_refl _) (bys _ rfl), by decide, fun b9 l9 c9 m9 e9 E9 k9 r9 F9 => alike ?_⟩)⟩
  obtain ⟨_, y7⟩ := eq2 (show appendF 32 hF0 (List.replicate 17 0) = (m7, e7) from r7)
  obtain ⟨_, y9⟩ := eq2 (show appendF 32 hF0 (List.replicate 16 0) = (m9, e9) from r9)
  rw [hd2.1] at y7
  rw [hd2.2] at y9
  subst y7; subst y9
  have k59 : Mem.le E5 E9 := Mem.le_trans k6 (Mem.le_trans k7 (Mem.le_trans k8 k9))
  have k19 : Mem.le E1 E9 := Mem.le_trans q4 (Mem.le_trans k5 k59)
  obtain ⟨p1, bb1, ll1, cc1, p2, p3⟩ := (F5.mono k59).load (hm_get (i := 5) (by rw [hd1.2]; decide))
  refine condC (fun z => by cases z) (fun _ => condC (fun z => by cases z) (fun _ => condC (fun z => by cases z) (fun _ => condC (fun z => by cases z) (fun _ => condC (fun z => by cases z) (fun _ => condC (fun z => by cases z) (fun _ => condC (fun z => by cases z) (fun _ => req_intro (by decide) ⟨p1, _, bb1, ll1, cc1, p2, fun tA EA kA wA => ⟨_, [120, 121, 122], p3.mono kA, Bs.win (zs := [120, 121, 122]) wA rfl rfl (Nat.le_refl _) (bys _ rfl), by decide, fun bB lB cB mB eB EB kB rB FB => ?_⟩⟩)))))))
  obtain ⟨xB, yB⟩ := eq2 (show appendF (hm hA 5).1 (hm hA 5).2 [120, 121, 122] = (mB, eB) from rB)
  rw [hd4.1] at yB
  have xB : hB = mB := xB
  subst xB; subst yB
  have nB := FB.len
  rw [hd4.2] at nB
  subst nB
  have k5B : Mem.le E5 EB := Mem.le_trans k59 (Mem.le_trans kA kB)
  obtain ⟨p4, bb2, ll2, cc2, p5, p6⟩ := (F5.mono k5B).load (hm_get (i := 14) (by rw [hd1.2]; decide))
  refine req_intro (by decide) ⟨p4, _, bb2, ll2, cc2, p5, fun tC EC kC wC tD ED kD wD => ⟨_, [[113], []], p6.mono (Mem.le_trans kC kD), SL.win RB_ok (rs := [[_], [_]]) wD rfl ((SLr.nil.snoc ⟨_, _, _, rfl, (Bs.win (zs := [113]) wC rfl rfl (Nat.le_refl _) (bys _ rfl)).mono kD⟩).snoc ⟨_, _, _, rfl, Bs.nil _⟩) rfl (Nat.le_refl _), by decide, by decide, fun bF lF cF mF eF EF kF rF FF => ?_⟩⟩
  obtain ⟨xF, yF⟩ := eq2 (show compactF (hm hA 14).1 (hm hA 14).2 [[113], []] = (mF, eF) from rF)
  rw [hd5.1] at yF
  have xF : hC = mF := xF
  subst xF; subst yF
  have nF := FF.len
  rw [hd5.2] at nF
  subst nF
  have k5F : Mem.le E5 EF := Mem.le_trans k5B (Mem.le_trans kC (Mem.le_trans kD kF))
  obtain ⟨g1, bb3, ll3, cc3, g2, g3⟩ := (F5.mono k5F).load (hm_get (i := 14) (by rw [hd1.2]; decide))
  refine condC (fun z => by cases z) (fun _ => condC (fun z => by cases z) (fun _ => condC (fun z => by cases z) (fun _ => condC (fun z => by cases z) (fun _ => req_intro (by decide) ⟨g1, _, bb3, ll3, cc3, g2, _, g3, fun bG lG cG yG eG EG kG rG BG => ⟨kG, ?_⟩⟩))))
  obtain ⟨xG, yG'⟩ := eq2 (show readF (hm hA 14).1 (hm hA 14).2 = (yG, eG) from rG)
  rw [hd6] at xG yG'
  subst xG; subst yG'
  obtain ⟨g4, bb4, ll4, cc4, g5, g6⟩ := (F5.mono (Mem.le_trans k5F kG)).load (hm_get (i := 13) (by rw [hd1.2]; decide))
  refine req_intro (by decide) ⟨g4, _, bb4, ll4, cc4, g5, _, g6, fun bH lH cH yH eH EH kH rH BH => ⟨kH, ?_⟩⟩
  obtain ⟨xH, yH'⟩ := eq2 (show readF (hm hA 13).1 (hm hA 13).2 = (yH, eH) from rH)
  rw [hd7] at xH yH'
  subst xH; subst yH'
  obtain ⟨g7, bb5, ll5, cc5, g8, g9⟩ := (FF.mono (Mem.le_trans kG kH)).load (hm_get (i := 60) (by rw [hd5.2]; decide))
  refine req_intro (by decide) ⟨g7, _, bb5, ll5, cc5, g8, _, g9, fun bI lI cI yI eI EI kI rI BI => ⟨kI, ?_⟩⟩
  obtain ⟨xI, yI'⟩ := eq2 (show readF (hm hC 60).1 (hm hC 60).2 = (yI, eI) from rI)
  rw [hd8] at xI yI'
  subst xI; subst yI'
  have kBI : Mem.le EB EI := Mem.le_trans kC (Mem.le_trans kD (Mem.le_trans kF (Mem.le_trans kG (Mem.le_trans kH kI))))
  obtain ⟨h1, bb6, ll6, cc6, h2, h3⟩ := (FB.mono kBI).load (hm_get (i := 51) (by rw [hd4.2]; decide))
  refine req_intro (by decide) ⟨h1, _, bb6, ll6, cc6, h2, _, h3, fun bJ lJ cJ yJ eJ EJ kJ rJ BJ => ⟨kJ, ?_⟩⟩
  obtain ⟨xJ, yJ'⟩ := eq2 (show readF (hm hB 51).1 (hm hB 51).2 = (yJ, eJ) from rJ)
  rw [hd9] at xJ yJ'
  subst xJ; subst yJ'
  have nG := BG.len
  have nH := BH.len
  have nI := BI.len
  have nJ := BJ.len
  refine condC (fun _ => condC (fun _ => condC (fun _ => condC (fun _ => fun tK EK kK wK tL EL kL wL => ⟨_, [[97, 98, 99]], BG.mono RB_ok (Mem.le_trans kH (Mem.le_trans kI (Mem.le_trans kJ (Mem.le_trans kK kL)))), SL.win RB_ok (rs := [[_]]) wL rfl (SLr.nil.snoc ⟨_, _, _, rfl, (Bs.win (zs := [97, 98, 99]) wK rfl rfl (Nat.le_refl _) (bys _ rfl)).mono kL⟩) rfl (Nat.le_refl _), by decide, by rw [← nG]; decide, condC (fun _ => condC (fun _ => fun tM EM kM wM tN EN kN wN => ⟨_, [[113], []], BI.mono RB_ok (Mem.le_trans kJ (Mem.le_trans kK (Mem.le_trans kL (Mem.le_trans kM kN)))), SL.win RB_ok (rs := [[_], [_]]) wN rfl ((SLr.nil.snoc ⟨_, _, _, rfl, (Bs.win (zs := [113]) wM rfl rfl (Nat.le_refl _) (bys _ rfl)).mono kN⟩).snoc ⟨_, _, _, rfl, Bs.nil _⟩) rfl (Nat.le_refl _), by decide, by rw [← nI]; decide, condC (fun _ => fun tO EO kO wO tP EP kP wP => ⟨_, [[120, 121, 122]], BJ.mono RB_ok (Mem.le_trans kK (Mem.le_trans kL (Mem.le_trans kM (Mem.le_trans kN (Mem.le_trans kO kP))))), SL.win RB_ok (rs := [[_]]) wP rfl (SLr.nil.snoc ⟨_, _, _, rfl, (Bs.win (zs := [120, 121, 122]) wO rfl rfl (Nat.le_refl _) (bys _ rfl)).mono kP⟩) rfl (Nat.le_refl _), by decide, by rw [← nJ]; decide, ?_⟩) (fun z => by simp at z)⟩) (fun z => by rw [← nH] at z; cases z)) (fun z => by simp at z)⟩) (fun z => by cases z)) (fun z => by cases z)) (fun z => by cases z)) (fun z => by cases z)
  have kk : Mem.le E EP := Mem.le_trans k1 (Mem.le_trans k19 (Mem.le_trans kA (Mem.le_trans kB (Mem.le_trans kBI (Mem.le_trans kJ (Mem.le_trans kK (Mem.le_trans kL (Mem.le_trans kM (Mem.le_trans kN (Mem.le_trans kO kP))))))))))
  exact ⟨kk, h EP kk⟩
theorem band8_eq (x y : Int) : band8 x y = ((BitVec.ofInt 8 x &&& BitVec.ofInt 8 y).toNat : Int) := by
  have h := (BitVec.ofInt 8 x &&& BitVec.ofInt 8 y).isLt
  exact wu8 ⟨by omega, by show ((BitVec.ofInt 8 x &&& BitVec.ofInt 8 y).toNat : Int) ≤ 255; omega⟩
theorem band8_255 {y : Int} (h : 0 ≤ y ∧ y ≤ 255) : band8 255 y = y := by
  rw [band8_eq]
  obtain ⟨n, rfl⟩ : ∃ n : Nat, y = n := ⟨y.toNat, by omega⟩
  have : n < 256 := by omega
  rw [show BitVec.ofInt 8 255 = BitVec.allOnes 8 from by decide, BitVec.allOnes_and]
  simp; omega
theorem band8_bd (x y : Int) : 0 ≤ band8 x y ∧ band8 x y ≤ 255 := wu8b _
theorem getD_set (zs : List Int) (p : Nat) (x : Int) (j : Nat) : (zs.set p x).getD j 0 = if p = j ∧ j < zs.length then x else zs.getD j 0 := by
  rw [List.getD_eq_getElem?_getD, List.getD_eq_getElem?_getD, List.getElem?_set]
  by_cases h : p = j
  · subst h
    by_cases h2 : p < zs.length
    · simp [h2]
    · simp [h2]
  · simp [h]
theorem stp_get (g : Nat → Int → Int) (a : Nat) (zs : List Int) : ∀ i j, (stp g a zs i).getD j 0 = if a ≤ j ∧ j < a + i ∧ j < zs.length then g (j - a) (zs.getD j 0) else zs.getD j 0
  | 0, j => by rw [if_neg (by omega)]; rfl
  | i + 1, j => by
    show ((stp g a zs i).set (a + i) (g i ((stp g a zs i).getD (a + i) 0))).getD j 0 = _
    rw [getD_set, stp_len, stp_get g a zs i j, stp_get g a zs i (a + i), if_neg (c := a ≤ a + i ∧ a + i < a + i ∧ a + i < zs.length) (by omega)]
    by_cases h : a + i = j ∧ j < zs.length
    · obtain ⟨rfl, h⟩ := h
      rw [if_pos ⟨rfl, h⟩, if_pos ⟨by omega, by omega, h⟩, show a + i - a = i by omega]
    · rw [if_neg h]
      by_cases h2 : a ≤ j ∧ j < a + i ∧ j < zs.length
      · rw [if_pos h2, if_pos (by omega)]
      · rw [if_neg h2, if_neg (by omega)]
theorem ext_getD {xs ys : List Int} (hl : xs.length = ys.length) (h : ∀ j, j < xs.length → xs.getD j 0 = ys.getD j 0) : xs = ys := by
  apply List.ext_getElem hl
  intro i h1 h2
  have := h i h1
  simpa [List.getD_eq_getElem?_getD, h1, h2] using this
def encL (ls : List (List Int)) : List Int := ls.flatMap fun d => 90 :: bodyF d
theorem encL_len (ls : List (List Int)) : (encL ls).length = needF ls := by
  induction ls with
  | nil => rfl
  | cons d ls ih => rw [needF_cons]; simp only [encL, List.flatMap_cons, List.length_append, List.length_cons, bodyF_len] at ih ⊢; omega
theorem encL_app (ls : List (List Int)) (d : List Int) : encL (ls ++ [d]) = encL ls ++ (90 :: bodyF d) := by simp [encL]
theorem needF_snoc (ls : List (List Int)) (d : List Int) : needF (ls ++ [d]) = needF ls + d.length + 11 := by
  rw [← encL_len, encL_app, List.length_append, encL_len, List.length_cons, bodyF_len]; omega
theorem numF_cons (x : Int) (zs : List Int) : numF (x :: zs) = x * 256 ^ zs.length + numF zs := by
  have key : ∀ (zs : List Int) (n : Int), zs.foldl (fun n x => 256 * n + x) n = n * 256 ^ zs.length + zs.foldl (fun n x => 256 * n + x) 0 := by
    intro zs
    induction zs with
    | nil => intro n; simp
    | cons y zs ih =>
      intro n
      simp only [List.foldl_cons, List.length_cons]
      rw [ih (256 * n + y), ih (256 * 0 + y), Int.mul_zero, Int.zero_add, Int.add_mul, Int.pow_succ, Int.mul_comm 256 n, Int.mul_assoc n 256, Int.mul_comm 256 (256 ^ zs.length), Int.add_assoc]
  unfold numF
  simp only [List.foldl_cons]
  rw [key]; simp
theorem numF_stor {n : Int} (hn : 0 ≤ n) : ∀ k, numF (storF n k) = n % 256 ^ k
  | 0 => by simp [storF, numF]
  | k + 1 => by
    rw [storF, numF_cons, storF_len, numF_stor hn k, Int.pow_succ]
    have hp : (0 : Int) < 256 ^ k := Int.pow_pos (by decide)
    generalize (256 : Int) ^ k = m at *
    have e1 := Int.mul_ediv_add_emod n m
    have e2 := Int.mul_ediv_add_emod (n / m) 256
    have e3 : n % (m * 256) = n - m * 256 * (n / (m * 256)) := by have := Int.mul_ediv_add_emod n (m * 256); omega
    have e4 : n / (m * 256) = n / m / 256 := by rw [Int.ediv_ediv_of_nonneg (Int.le_of_lt hp)]
    rw [e3, e4, Int.mul_assoc m 256]
    have e5 : m * (256 * (n / m / 256)) = m * (n / m) - m * (n / m % 256) := by rw [show 256 * (n / m / 256) = n / m - n / m % 256 by omega, Int.mul_sub]
    rw [e5, Int.mul_comm (n / m % 256) m]
    omega
theorem getA (X Y : List Int) (j : Nat) : (X ++ Y).getD j 0 = if j < X.length then X.getD j 0 else Y.getD (j - X.length) 0 := by
  rw [List.getD_eq_getElem?_getD]
  by_cases h : j < X.length
  · rw [if_pos h, List.getElem?_append_left h, List.getD_eq_getElem?_getD]
  · rw [if_neg h, List.getElem?_append_right (by omega), List.getD_eq_getElem?_getD]
theorem getTake (X : List Int) (n j : Nat) (h : j < n) : (X.take n).getD j 0 = X.getD j 0 := by
  rw [List.getD_eq_getElem?_getD, List.getElem?_take, if_pos h, List.getD_eq_getElem?_getD]
theorem getDrop (X : List Int) (n j : Nat) : (X.drop n).getD j 0 = X.getD (n + j) 0 := by
  rw [List.getD_eq_getElem?_getD, List.getElem?_drop, List.getD_eq_getElem?_getD]
theorem part_congr {z w : List Int} {lo n : Nat} (hl : z.length = w.length) (h : ∀ j, lo ≤ j → j < lo + n → z.getD j 0 = w.getD j 0) : (z.drop lo).take n = (w.drop lo).take n := by
  apply ext_getD (by simp [hl])
  intro j hj
  rw [List.length_take] at hj
  rw [getTake _ _ _ (by omega), getTake _ _ _ (by omega), getDrop, getDrop]
  exact h _ (by omega) (by omega)
theorem parse_mk : ∀ {ls : List (List Int)} {t : List Int}, (∀ d ∈ ls, d.length < 65536) → (t = [] ∨ t.getD 0 0 = 255) → parseF (encL ls ++ t) = some (ls, needF ls)
  | [], t, _, ht => by
    rw [parseF_step, if_pos (by simpa [encL] using ht)]; rfl
  | d :: ls, t, hs, ht => by
    have hd := hs d (by simp)
    have ih := parse_mk (ls := ls) (t := t) (fun x hx => hs x (List.mem_cons_of_mem _ hx)) ht
    have er : encL (d :: ls) ++ t = 90 :: (bodyF d ++ (encL ls ++ t)) := by simp [encL]
    rw [er, parseF_step]
    have h1 : ((90 :: (bodyF d ++ (encL ls ++ t)) : List Int).drop 1) = bodyF d ++ (encL ls ++ t) := rfl
    have eb : bodyF d = storF (d.length : Int) 2 ++ (d ++ storF (sumF (storF (d.length : Int) 2 ++ d)) 8) := by unfold bodyF; rw [List.append_assoc]
    have h2 : (numF ((bodyF d ++ (encL ls ++ t)).take 2)).toNat = d.length := by
      rw [eb, List.append_assoc, List.take_left' (storF_len _ _), numF_stor (by omega)]
      omega
    have h3 : ((90 :: (bodyF d ++ (encL ls ++ t)) : List Int).drop 3).take d.length = d := by
      rw [show ((90 :: (bodyF d ++ (encL ls ++ t)) : List Int).drop 3) = (bodyF d ++ (encL ls ++ t)).drop 2 from rfl, eb, List.append_assoc, List.drop_left' (storF_len _ _), List.append_assoc, List.take_left' rfl]
    have h4 : (bodyF d ++ (encL ls ++ t)).take (d.length + 10) = bodyF d := List.take_left' (bodyF_len d)
    have h5 : (90 :: (bodyF d ++ (encL ls ++ t)) : List Int).drop (d.length + 11) = encL ls ++ t := by
      show (bodyF d ++ (encL ls ++ t)).drop (d.length + 10) = _
      rw [List.drop_left' (bodyF_len d)]
    rw [if_neg (by simp), h1, h2, if_neg (by simp [bodyF_len]; omega), if_neg (by simp [bodyF_len]), h3, h4, if_neg (by simp), h5, ih, needF_cons]
    rfl
theorem parseN_inv : ∀ (f : Nat) (r : List Int) (ls : List (List Int)) (n : Nat), r.length ≤ f → (∀ z ∈ r, 0 ≤ z ∧ z ≤ 255) → parseN f r = some (ls, n) → r.take n = encL ls ∧ n = needF ls ∧ n ≤ r.length ∧ (n = r.length ∨ r.getD n 0 = 255) ∧ ∀ d ∈ ls, d.length < 65536 ∧ ∀ z ∈ d, 0 ≤ z ∧ z ≤ 255
  | 0, r, ls, n, hf, hb, h => by
    simp [parseN] at h
    obtain ⟨rfl, rfl⟩ := h
    have : r = [] := List.length_eq_zero_iff.1 (by omega)
    subst this
    exact ⟨rfl, rfl, Nat.le_refl _, .inl rfl, by simp⟩
  | f + 1, r, ls, n, hf, hb, h => by
    unfold parseN at h
    split at h
    · rename_i q
      simp at h; obtain ⟨rfl, rfl⟩ := h
      exact ⟨rfl, rfl, Nat.zero_le _, q.imp (fun e => by rw [e]; rfl) id, by simp⟩
    split at h
    · cases h
    rename_i q2
    split at h
    · cases h
    rename_i q3
    split at h
    · cases h
    rename_i q4
    have hlen : (numF ((r.drop 1).take 2)).toNat < 65536 := (lenF_bd hb 0).1
    generalize hm : (numF ((r.drop 1).take 2)).toNat = m at *
    cases hp : parseN f (r.drop (m + 11)) with
    | none => rw [hp] at h; cases h
    | some x =>
      rw [hp] at h
      simp only [Option.map_some, Option.some.injEq, Prod.mk.injEq] at h
      obtain ⟨rfl, rfl⟩ := h
      obtain ⟨i1, i2, i3, i4, i5⟩ := parseN_inv f (r.drop (m + 11)) x.1 x.2 (by rw [List.length_drop]; omega) (fun z hz => hb z (List.drop_subset _ _ hz)) hp
      rw [List.length_drop] at i3 i4
      simp only [not_or, Decidable.not_not] at q2 q4
      have h0 : r = 90 :: r.drop 1 := by
        cases r with
        | nil => simp at q3
        | cons y r => have := q2.1; simp at this; subst this; rfl
      have ed : ((r.drop 3).take m).length = m := by rw [List.length_take, List.length_drop]; omega
      refine ⟨?_, by rw [needF_cons, ed]; omega, by omega, ?_, ?_⟩
      · rw [show encL ((r.drop 3).take m :: x.1) = 90 :: (bodyF ((r.drop 3).take m) ++ encL x.1) by simp [encL], q4, ← i1]
        conv => lhs; rw [h0]
        rw [show m + 11 + x.2 = (m + 10 + x.2) + 1 by omega, List.take_succ_cons]
        congr 1
        rw [show r.drop (m + 11) = (r.drop 1).drop (m + 10) by rw [List.drop_drop]; congr 1; omega, List.take_add]
      · rw [getDrop] at i4
        exact i4.imp (fun e => by omega) id
      · intro d hd
        rcases List.mem_cons.1 hd with rfl | hd
        · exact ⟨by omega, fun z hz => hb z (List.drop_subset _ _ (List.take_subset _ _ hz))⟩
        · exact i5 d hd
theorem parse_inv {r : List Int} {ls : List (List Int)} {n : Nat} (hb : ∀ z ∈ r, 0 ≤ z ∧ z ≤ 255) (h : parseF r = some (ls, n)) : r.take n = encL ls ∧ n = needF ls ∧ n ≤ r.length ∧ (n = r.length ∨ r.getD n 0 = 255) ∧ ∀ d ∈ ls, d.length < 65536 ∧ ∀ z ∈ d, 0 ≤ z ∧ z ≤ 255 := parseN_inv _ _ _ _ (Nat.le_refl _) hb h
theorem used_mark {h a : Nat} {g : Int} {z : List Int} (hu : usedF h z = ((a : Int), g)) : z.getD a 0 = 90 ∧ g = genF z a := by
  unfold usedF at hu
  by_cases q0 : z.getD 0 0 = 90
  · rw [if_pos q0] at hu
    simp only at hu
    split at hu
    · rename_i q
      obtain ⟨e1, e2⟩ := Prod.mk.inj hu
      have : h = a := by omega
      subst this
      exact ⟨q.1, e2.symm⟩
    · obtain ⟨e1, e2⟩ := Prod.mk.inj hu
      have : a = 0 := by omega
      subst this
      exact ⟨q0, e2.symm⟩
  · rw [if_neg q0] at hu
    simp only at hu
    split at hu
    · rename_i q
      obtain ⟨e1, e2⟩ := Prod.mk.inj hu
      have : h = a := by omega
      subst this
      exact ⟨q.1, e2.symm⟩
    · obtain ⟨e1, e2⟩ := Prod.mk.inj hu
      omega
theorem used_one {h a o : Nat} {z : List Int} (ha : (a = 0 ∧ o = h) ∨ (a = h ∧ o = 0)) (hb : ∀ x ∈ z, 0 ≤ x ∧ x ≤ 255) (h1 : z.getD a 0 = 90) (h2 : z.getD o 0 ≠ 90) : usedF h z = ((a : Int), genF z a) := by
  have g0 := genF_bd hb a
  unfold usedF
  rcases ha with ⟨rfl, rfl⟩ | ⟨rfl, rfl⟩
  · rw [if_pos h1, if_neg (fun q => h2 q.1)]; rfl
  · rw [if_neg h2, if_pos ⟨h1, by show genF z a > -1; omega⟩]
theorem used_new {h a o : Nat} {z : List Int} (ha : (a = 0 ∧ o = h) ∨ (a = h ∧ o = 0)) (h1 : z.getD o 0 = 90) (h2 : genF z o = genF z a + 1) (hb : ∀ x ∈ z, 0 ≤ x ∧ x ≤ 255) : usedF h z = ((o : Int), genF z o) := by
  have g0 := genF_bd hb o
  unfold usedF
  rcases ha with ⟨rfl, rfl⟩ | ⟨rfl, rfl⟩
  · by_cases q : z.getD 0 0 = 90
    · rw [if_pos q, if_pos ⟨h1, by show genF z o > genF z 0; omega⟩]
    · rw [if_neg q, if_pos ⟨h1, by show genF z o > -1; omega⟩]
  · rw [if_pos h1, if_neg (fun q => by have := q.2; simp only at this; omega)]; rfl
theorem used_congr {h : Nat} {z w : List Int} (hl : z.length = w.length) (c : ∀ j, j < 5 ∨ (h ≤ j ∧ j < h + 5) → z.getD j 0 = w.getD j 0) : usedF h z = usedF h w := by
  have e0 : genF z 0 = genF w 0 := by unfold genF; rw [part_congr hl (fun j h1 h2 => c j (.inl (by omega)))]
  have e1 : genF z h = genF w h := by unfold genF; rw [part_congr hl (fun j h1 h2 => c j (.inr (by omega)))]
  unfold usedF
  rw [e0, e1, c 0 (.inl (by omega)), c h (.inr (by omega))]
def AllM (s : Int) (N : Nat) (P R : List Int → Prop) (l : List (Int × List Int)) : Prop :=
  l ≠ [] ∧ (∀ m ∈ l, m.1 = s ∧ m.2.length = N ∧ (∀ x ∈ m.2, 0 ≤ x ∧ x ≤ 255) ∧ R m.2) ∧ P (lastM l).2
def Out (w z : List Int) (lo hi : Nat) : Prop := w.length = z.length ∧ ∀ j, j < lo ∨ hi ≤ j → w.getD j 0 = z.getD j 0
theorem Out.trans {w v z : List Int} {lo hi lo1 hi1 : Nat} (h : Out w v lo1 hi1) (g : Out v z lo hi) (h1 : lo ≤ lo1) (h2 : hi1 ≤ hi) : Out w z lo hi :=
  ⟨h.1.trans g.1, fun j hj => (h.2 j (by omega)).trans (g.2 j hj)⟩
theorem Out.refl (z : List Int) (lo hi : Nat) : Out z z lo hi := ⟨rfl, fun _ _ => rfl⟩
theorem Out.mono {w z : List Int} {lo hi lo1 hi1 : Nat} (h : Out w z lo1 hi1) (h1 : lo ≤ lo1) (h2 : hi1 ≤ hi) : Out w z lo hi := ⟨h.1, fun j hj => h.2 j (by omega)⟩
def Er (z : List Int) (lo hi : Nat) : Prop := ∀ j, lo ≤ j → j < hi → z.getD j 0 = 255
def At (z : List Int) (a : Nat) (ds : List Int) : Prop := ∀ j, j < ds.length → z.getD (a + j) 0 = ds.getD j 0
def Keeps (lo hi : Nat) (P : List Int → Prop) : Prop := ∀ z w : List Int, P z → Out w z lo hi → P w
theorem last_mem {l : List (Int × List Int)} (h : l ≠ []) : lastM l ∈ l := by
  unfold lastM
  rw [List.getLastD_eq_getLast?, List.getLast?_eq_some_getLast h]
  exact List.getLast_mem h
theorem stp_out (g : Nat → Int → Int) (a : Nat) (z : List Int) (i : Nat) : Out (stp g a z i) z a (a + i) :=
  ⟨stp_len _ _ _ _, fun j hj => by rw [stp_get, if_neg (by omega)]⟩
theorem chg_all {s : Int} {a lo hi n N : Nat} {g : Nat → Int → Int} {P R : List Int → Prop} {l : List (Int × List Int)} (hP : Keeps lo hi P) (hR : ∀ z, P z → R z) (hg : ∀ i x, 0 ≤ g i x ∧ g i x ≤ 255)
    (h : AllM s N P R l) (h1 : lo ≤ a) (h2 : a + n ≤ hi) (hn : 1 ≤ n) : AllM s N P R (chgF l (mems s g a (lastM l).2 (n + 1))) := by
  obtain ⟨hl, ha, hp⟩ := h
  obtain ⟨z1, z2, z3, z4⟩ := ha _ (last_mem hl)
  have hst : ∀ i, i ≤ n → P (stp g a (lastM l).2 i) := fun i hi' => hP _ _ hp ((stp_out g a _ i).mono h1 (by omega))
  refine ⟨by simp [chgF, hl], fun m hm => ?_, ?_⟩
  · rcases List.mem_append.1 hm with h | h
    · exact ha m h
    · have h := List.mem_of_mem_drop h
      simp only [mems, List.mem_map, List.mem_range] at h
      obtain ⟨i, hi', rfl⟩ := h
      exact ⟨rfl, by rw [stp_len]; exact z2, stp_byte z3 hg i, hR _ (hst i (by omega))⟩
  · rw [mems_last hn]; exact hst n (Nat.le_refl _)
section
variable {s : Int} {N lo hi : Nat} {P R : List Int → Prop} (hv : validF s N) (hP : Keeps lo hi P) (hR : ∀ z, P z → R z)
include hv hP hR
theorem progL_all {a : Nat} {ds : List Int} {l : List (Int × List Int)} (h1 : lo ≤ a) (h2 : a + ds.length ≤ hi) (hN : a + ds.length ≤ N) (hn : 1 ≤ ds.length) (h : AllM s N P R l) : AllM s N P R (progL l a ds) := by
  obtain ⟨z1, z2, z3, z4⟩ := h.2.1 _ (last_mem h.1)
  unfold progL
  rw [z1, progF_mk (by rw [z2]; exact hv) (by omega) (by omega)]
  exact chg_all hP hR (fun i x => band8_bd _ _) h (by simpa using h1) (by simpa using h2) hn
theorem writeL_all {a : Nat} {ds : List Int} {l : List (Int × List Int)} (h1 : lo ≤ a) (h2 : a + ds.length + 11 ≤ hi) (hN : a + ds.length + 11 ≤ N) (h : AllM s N P R l) : AllM s N P R (writeL l a ds) :=
  progL_all hv hP hR h1 (by simp; omega) (by simp; omega) (by simp) (progL_all hv hP hR (by omega) (by rw [bodyF_len]; omega) (by rw [bodyF_len]; omega) (by rw [bodyF_len]; omega) h)
theorem writesL_all : ∀ {keep : List (List Int)} {k : Nat} {l : List (Int × List Int)}, lo ≤ k → k + needF keep ≤ hi → k + needF keep ≤ N → AllM s N P R l → AllM s N P R (writesL k l keep).1
  | [], _, _, _, _, _, h => h
  | d :: keep, k, l, h1, h2, hN, h => by
    rw [needF_cons] at h2 hN
    rw [writesL_cons]
    exact writesL_all (by omega) (by omega) (by omega) (writeL_all hv hP hR h1 (by omega) (by omega) h)
end
section
variable {st N lo hi : Nat} {P R : List Int → Prop} (hv : validF st N) (hP : Keeps lo hi P) (hR : ∀ z, P z → R z)
include hv
theorem erasL_eq {k : Nat} {l : List (Int × List Int)} (h : AllM st N P R l) (hN : (k + 1) * st ≤ N) : erasL l k = chgF l (mems st gE (k * st) (lastM l).2 (st + 1)) := by
  obtain ⟨z1, z2, z3, z4⟩ := h.2.1 _ (last_mem h.1)
  have h1 : 1 ≤ st := by have := hv.1; omega
  unfold erasL
  rw [z1, erasF_mk (by rw [z2]; exact hv) (by omega) (by
      rw [Int.lt_iff_add_one_le, Int.le_ediv_iff_mul_le (by omega), z2]
      have : (((k + 1) * st : Nat) : Int) ≤ (N : Int) := by omega
      rw [Int.natCast_mul] at this
      simpa using this), ← Int.natCast_mul, Int.toNat_natCast, Int.toNat_natCast]
include hP hR
theorem erasL_all {k : Nat} {l : List (Int × List Int)} (h1 : lo ≤ k * st) (h2 : (k + 1) * st ≤ hi) (hN : (k + 1) * st ≤ N) (h : AllM st N P R l) : AllM st N P R (erasL l k) := by
  rw [erasL_eq hv h hN]
  rw [Nat.add_mul] at h2
  exact chg_all hP hR (fun i x => by simp [gE]) h h1 (by omega) (by have := hv.1; omega)
theorem erases_all {p : Nat} {zs : List Int} (hl : zs.length = N) (hz : ∀ x ∈ zs, 0 ≤ x ∧ x ≤ 255) (hR0 : R zs) (h0 : ∀ w, w.getD (p * st) 0 = 255 → Out w zs (p * st) hi → P w) (h1 : lo ≤ p * st + 1) :
    ∀ {n : Nat}, (p + n + 1) * st ≤ hi → (p + n + 1) * st ≤ N → AllM st N P R (erasesL p (n + 1) [((st : Int), zs)])
  | 0, h2, hN => by
    have hs1 : 1 ≤ st := by have := hv.1; omega
    have h : AllM st N R R [((st : Int), zs)] := ⟨by simp, fun m hm => by
      rw [List.mem_singleton] at hm; subst hm; exact ⟨rfl, hl, hz, hR0⟩, hR0⟩
    show AllM st N P R (erasL [((st : Int), zs)] p)
    rw [erasL_eq hv h hN]
    show AllM st N P R (chgF [((st : Int), zs)] (mems st gE (p * st) zs (st + 1)))
    have hw : ∀ i, 1 ≤ i → i ≤ st → P (stp gE (p * st) zs i) := fun i hi1 hi2 => by
      rw [Nat.add_mul, Nat.add_zero] at h2 hN
      refine h0 _ ?_ ((stp_out gE _ _ i).mono (Nat.le_refl _) (by omega))
      rw [stp_get, if_pos (by omega)]; rfl
    refine ⟨by simp [chgF], fun m hm => ?_, by rw [mems_last hs1]; exact hw _ hs1 (Nat.le_refl _)⟩
    rcases List.mem_append.1 hm with q | q
    · exact h.2.1 m q
    · rw [List.mem_iff_getElem?] at q
      obtain ⟨i, q⟩ := q
      rw [List.getElem?_drop] at q
      have hi' : 1 + i < st + 1 := by
        have := (List.getElem?_eq_some_iff.1 q).1
        rwa [mems_len] at this
      rw [mems_get hi'] at q
      cases q
      exact ⟨rfl, by rw [stp_len]; exact hl, stp_byte hz (fun i x => by simp [gE]) _, hR _ (hw _ (by omega) (by omega))⟩
  | n + 1, h2, hN => by
    have hs1 : 1 ≤ st := by have := hv.1; omega
    have e : (p + (n + 1) + 1) * st = (p + n + 1) * st + st := by rw [show p + (n + 1) + 1 = (p + n + 1) + 1 by omega, Nat.add_mul, Nat.one_mul]
    have ih := erases_all hl hz hR0 h0 h1 (n := n) (by omega) (by omega)
    have e2 : (p + (n + 1)) * st = p * st + (n + 1) * st := Nat.add_mul _ _ _
    have e3 : (n + 1) * st = n * st + st := by rw [Nat.add_mul, Nat.one_mul]
    exact erasL_all hv hP hR (k := p + (n + 1)) (by omega) h2 hN ih
end
theorem prog_last {s : Int} {N a : Nat} {ds z : List Int} {l : List (Int × List Int)} (hv : validF s N) (hl : lastM l = (s, z)) (hN : z.length = N) (ha : a + ds.length ≤ N) (hd : 1 ≤ ds.length) (hds : ∀ x ∈ ds, 0 ≤ x ∧ x ≤ 255) (he : Er z a (a + ds.length)) :
    ∃ w, lastM (progL l a ds) = (s, w) ∧ At w a ds ∧ Out w z a (a + ds.length) := by
  obtain ⟨e1, _⟩ := progL_ok (l := l) (a := a) (ds := ds) (by rw [hl]; simp only; rw [hN]; exact hv) (by rw [hl]; simp only; omega) hd
  rw [hl] at e1
  refine ⟨_, e1, fun j hj => ?_, stp_out _ _ _ _⟩
  show (stp (gP ds) a z ds.length).getD _ _ = _
  rw [stp_get, if_pos (by omega), he _ (by omega) (by omega)]
  show band8 255 (ds.getD (a + j - a) 0) = _
  rw [show a + j - a = j by omega]
  refine band8_255 (hds _ ?_)
  rw [List.getD_eq_getElem?_getD, List.getElem?_eq_getElem hj]
  exact List.getElem_mem hj
theorem At.app {z : List Int} {a : Nat} {xs ys : List Int} (h : At z a xs) (g : At z (a + xs.length) ys) : At z a (xs ++ ys) := fun j hj => by
  rw [getA]
  by_cases q : j < xs.length
  · rw [if_pos q]; exact h j q
  · rw [if_neg q]
    rw [List.length_append] at hj
    have := g (j - xs.length) (by omega)
    rwa [show a + xs.length + (j - xs.length) = a + j by omega] at this
theorem At.out {w z : List Int} {a lo hi : Nat} {xs : List Int} (h : At z a xs) (g : Out w z lo hi) (h1 : a + xs.length ≤ lo ∨ hi ≤ a) : At w a xs := fun j hj => (g.2 _ (by omega)).trans (h j hj)
theorem Er.out {w z : List Int} {a b lo hi : Nat} (h : Er z a b) (g : Out w z lo hi) (h1 : b ≤ lo ∨ hi ≤ a) : Er w a b := fun j q1 q2 => (g.2 _ (by omega)).trans (h j q1 q2)
theorem Er.sub {z : List Int} {a b c d : Nat} (h : Er z a b) (h1 : a ≤ c) (h2 : d ≤ b) : Er z c d := fun j q1 q2 => h j (by omega) (by omega)
theorem write_last {s : Int} {N a : Nat} {ds z : List Int} {l : List (Int × List Int)} (hv : validF s N) (hl : lastM l = (s, z)) (hN : z.length = N) (ha : a + ds.length + 11 ≤ N) (hds : ∀ x ∈ ds, 0 ≤ x ∧ x ≤ 255) (he : Er z a (a + ds.length + 11)) :
    ∃ w, lastM (writeL l a ds) = (s, w) ∧ At w a (90 :: bodyF ds) ∧ Out w z a (a + ds.length + 11) := by
  have hb := bodyF_len ds
  obtain ⟨v, h1, h2, h3⟩ := prog_last (a := a + 1) (ds := bodyF ds) hv hl hN (by omega) (by omega) (bodyF_byte hds) (he.sub (by omega) (by omega))
  have h4 : v.length = N := h3.1.trans hN
  obtain ⟨w, g1, g2, g3⟩ := prog_last (a := a) (ds := [90]) hv h1 h4 (by simp; omega) (by simp) (by simp) ((he.sub (Nat.le_refl a) (show a + [90].length ≤ _ by simp; omega)).out h3 (.inl (by simp)))
  refine ⟨w, g1, At.app (xs := [90]) g2 (h2.out g3 (.inr (by simp))), ?_⟩
  exact (g3.mono (Nat.le_refl _) (by simp; omega)).trans (h3.mono (by omega) (by omega)) (Nat.le_refl a) (Nat.le_refl (a + ds.length + 11))
theorem writes_last {s : Int} {N : Nat} (hv : validF s N) : ∀ {keep : List (List Int)} {k : Nat} {l : List (Int × List Int)} {z : List Int}, lastM l = (s, z) → z.length = N → k + needF keep ≤ N → (∀ d ∈ keep, ∀ x ∈ d, 0 ≤ x ∧ x ≤ 255) → Er z k (k + needF keep) →
    ∃ w, lastM (writesL k l keep).1 = (s, w) ∧ At w k (encL keep) ∧ Out w z k (k + needF keep)
  | [], k, l, z, hl, _, _, _, _ => ⟨z, hl, fun j hj => by simp [encL] at hj, Out.refl _ _ _⟩
  | d :: keep, k, l, z, hl, hN, hk, hd, he => by
    rw [needF_cons] at hk he ⊢
    obtain ⟨v, h1, h2, h3⟩ := write_last (a := k) (ds := d) hv hl hN (by omega) (hd d (by simp)) (he.sub (by omega) (by omega))
    obtain ⟨w, g1, g2, g3⟩ := writes_last (keep := keep) (k := k + d.length + 11) (l := writeL l k d) hv h1 (h3.1.trans hN) (by omega) (fun x hx => hd x (List.mem_cons_of_mem _ hx)) ((he.sub (by omega) (by omega)).out h3 (.inr (Nat.le_refl _)))
    rw [writesL_cons]
    refine ⟨w, g1, ?_, (g3.mono (show k ≤ _ by omega) (by omega)).trans (h3.mono (Nat.le_refl _) (by omega)) (Nat.le_refl _) (Nat.le_refl (k + (d.length + 11 + needF keep)))⟩
    have hb : (90 :: bodyF d).length = d.length + 11 := by rw [List.length_cons, bodyF_len]
    exact At.app (xs := 90 :: bodyF d) (h2.out g3 (.inl (by omega))) (by rw [hb, ← Nat.add_assoc]; exact g2)
theorem erases_last {st N p : Nat} {z : List Int} (hv : validF st N) (hN : z.length = N) : ∀ {n : Nat}, (p + n) * st ≤ N → ∃ w, lastM (erasesL p n [((st : Int), z)]) = ((st : Int), w) ∧ Er w (p * st) ((p + n) * st) ∧ Out w z (p * st) ((p + n) * st)
  | 0, _ => ⟨z, rfl, fun j h1 h2 => by rw [Nat.add_zero] at h2; omega, Out.refl _ _ _⟩
  | n + 1, h => by
    have e : (p + (n + 1)) * st = (p + n) * st + st := by rw [← Nat.add_assoc, Nat.add_mul, Nat.one_mul]
    have e2 : (p + n) * st = p * st + n * st := Nat.add_mul _ _ _
    obtain ⟨v, h1, h2, h3⟩ := erases_last (p := p) hv hN (n := n) (by omega)
    have h4 := h3.1.trans hN
    obtain ⟨g1, _, _⟩ := erasL_ok (k := p + n) h1 (by rw [h4]; exact hv) (by rw [h4]; exact h)
    have g3 := stp_out gE ((p + n) * st) v st
    rw [e]
    refine ⟨_, g1, fun j q1 q2 => ?_, (g3.mono (by omega) (Nat.le_refl _)).trans (h3.mono (Nat.le_refl _) (by omega)) (Nat.le_refl _) (Nat.le_refl _)⟩
    by_cases q : j < (p + n) * st
    · rw [g3.2 j (.inl q)]; exact h2 j q1 q
    · rw [stp_get, if_pos (by rw [h4]; omega)]; rfl
theorem rewL_eq {s : Int} {zs : List Int} {a : Nat} (g : Int) (keep : List (List Int)) (hA : areaF s zs.length ≠ 0) (ha : a = 0 ∨ a = areaF s zs.length) :
    ∃ st p q : Nat, s = (st : Int) ∧ areaF s zs.length = (q + 1) * st ∧ areaF s zs.length - a = p * st ∧ (p + q + 1) * st = areaF s zs.length - a + areaF s zs.length ∧ 1 ≤ st ∧
      rewL s zs (areaF s zs.length) a g keep = progL (progL (writesL (areaF s zs.length - a + 5) (erasesL p (q + 1) [((st : Int), zs)]) keep).1 (areaF s zs.length - a + 1) (storF (g + 1) 4)) (areaF s zs.length - a) [90] := by
  obtain ⟨st, q, rfl, hq, hst1, hst2, hl⟩ := areaF_div hA
  have hq0 : q ≠ 0 := fun e => by subst e; simp at hq; exact hA hq
  obtain ⟨q, rfl⟩ : ∃ k, q = k + 1 := ⟨q - 1, by omega⟩
  obtain ⟨p, hp⟩ : ∃ p, areaF st zs.length - a = st * p := by
    rcases ha with rfl | rfl
    · exact ⟨q + 1, by omega⟩
    · exact ⟨0, by omega⟩
  refine ⟨st, p, q, rfl, by rw [hq, Nat.mul_comm], by rw [hp, Nat.mul_comm], ?_, hst1, ?_⟩
  · rw [hp, hq, ← Nat.mul_add, Nat.mul_comm, Nat.add_assoc]
  · unfold rewL
    rw [hp, hq, Int.toNat_natCast, Nat.mul_div_cancel_left _ hst1, Nat.mul_div_cancel_left _ hst1]
theorem rew_all {s : Int} {zs : List Int} {a o h : Nat} {g : Int} {keep : List (List Int)} {P R : List Int → Prop} (hA : areaF s zs.length ≠ 0) (hh : h = areaF s zs.length) (ha : (a = 0 ∧ o = h) ∨ (a = h ∧ o = 0)) (hroom : 5 + needF keep ≤ h)
    (hz : ∀ x ∈ zs, 0 ≤ x ∧ x ≤ 255) (hk : ∀ d ∈ keep, ∀ x ∈ d, 0 ≤ x ∧ x ≤ 255) (hR : ∀ z, P z → R z) (hR0 : R zs) (h0 : ∀ w, w.getD o 0 = 255 → Out w zs o (o + h) → P w) (hP : Keeps (o + 1) (o + h) P) :
    ∃ X w, rewL s zs h a g keep = X ++ [(s, w)] ∧ AllM s zs.length P R X ∧ AllM s zs.length (fun _ => True) (fun _ => True) (X ++ [(s, w)]) ∧
      w.getD o 0 = 90 ∧ At w (o + 1) (storF (g + 1) 4) ∧ At w (o + 5) (encL keep) ∧ Er w (o + 5 + needF keep) (o + h) ∧ Out w zs o (o + h) := by
  obtain ⟨a1, hv, a3, a4, a5, a6⟩ := areaF_ok hA
  obtain ⟨st, p, q, rfl, hq, hp, hpq, hst1, er⟩ := rewL_eq (a := a) g keep hA (by omega)
  rw [← hh] at hq hp hpq er a5
  have ho : h - a = o := by omega
  rw [ho] at hp hpq er
  have c1 := erases_all hv hP hR (lo := o + 1) (hi := o + h) (p := p) (zs := zs) rfl hz hR0 (by rw [← hp]; exact h0) (by omega) (n := q) (by omega) (by omega)
  have c2 := writesL_all hv hP hR (keep := keep) (k := o + 5) (by omega) (by omega) (by omega) c1
  have c3 := progL_all hv hP hR (a := o + 1) (ds := storF (g + 1) 4) (by omega) (by rw [storF_len]; omega) (by rw [storF_len]; omega) (by rw [storF_len]; omega) c2
  obtain ⟨w1, d1, d2, d3⟩ := erases_last (p := p) (z := zs) hv rfl (n := q + 1) (by rw [← Nat.add_assoc]; omega)
  rw [← Nat.add_assoc, hpq, ← hp] at d2 d3
  obtain ⟨w2, e1, e2, e3⟩ := writes_last hv d1 d3.1 (k := o + 5) (keep := keep) (by omega) hk (d2.sub (by omega) (by omega))
  have l2 := e3.1.trans d3.1
  obtain ⟨w3, f1, f2, f3⟩ := prog_last (a := o + 1) (ds := storF (g + 1) 4) hv e1 l2 (by rw [storF_len]; omega) (by rw [storF_len]; omega) (storF_byte _ _) ((d2.sub (show o ≤ o + 1 by omega) (by rw [storF_len]; omega)).out e3 (.inl (by rw [storF_len]; omega)))
  rw [storF_len] at f3
  have l3 := f3.1.trans l2
  have er3 : Er w3 o (o + 1) := ((d2.sub (Nat.le_refl _) (by omega)).out e3 (.inl (by omega))).out f3 (.inl (by omega))
  obtain ⟨w, g1, g2, g3⟩ := prog_last (a := o) (ds := [90]) hv f1 l3 (by simp; omega) (by simp) (by simp) er3
  have g3 : Out w w3 o (o + 1) := g3
  generalize progL (writesL (o + 5) (erasesL p (q + 1) [((st : Int), zs)]) keep).1 (o + 1) (storF (g + 1) 4) = X at er c3 f1 g1
  have hX : progL X o [90] = X ++ [((st : Int), w)] := by
    have e9 : progL X o [90] = X ++ [((st : Int), stp (gP [90]) o w3 1)] := by
      unfold progL
      rw [f1]
      simp only
      rw [progF_mk (by rw [l3]; exact hv) (by omega) (by rw [l3]; simp; omega), Int.toNat_natCast]
      rfl
    rw [e9] at g1 ⊢
    unfold lastM at g1
    rw [List.getLastD_concat] at g1
    rw [g1]
  have hT : AllM st zs.length (fun _ => True) (fun _ => True) X := ⟨c3.1, fun m hm => by obtain ⟨x1, x2, x3, x4⟩ := c3.2.1 m hm; exact ⟨x1, x2, x3, trivial⟩, trivial⟩
  refine ⟨X, w, by rw [er, hX], c3, by rw [← hX]; exact progL_all (lo := 0) (hi := o + h) hv (fun _ _ _ _ => trivial) (fun _ _ => trivial) (by omega) (by simp; omega) (by simp; omega) (by simp) hT, ?_, f2.out g3 (.inr (by omega)), (e2.out f3 (.inr (by omega))).out g3 (.inr (by omega)), ?_, ?_⟩
  · exact g2 0 (by simp)
  · exact (((d2.sub (show o ≤ o + 5 + needF keep by omega) (Nat.le_refl _)).out e3 (.inr (by omega))).out f3 (.inr (by omega))).out g3 (.inr (by omega))
  · exact (g3.mono (Nat.le_refl _) (show o + 1 ≤ o + h by omega)).trans ((f3.mono (show o ≤ o + 1 by omega) (show _ ≤ o + h by omega)).trans ((e3.mono (show o ≤ o + 5 by omega) (show _ ≤ o + h by omega)).trans d3 (Nat.le_refl _) (Nat.le_refl _)) (Nat.le_refl _) (Nat.le_refl _)) (Nat.le_refl _) (Nat.le_refl _)
theorem recs_at {z : List Int} {a h : Nat} {ls : List (List Int)} (ha : a + h ≤ z.length) (hat : At z (a + 5) (encL ls)) (hr : 5 + needF ls ≤ h) : ∃ t, recsB h a z = encL ls ++ t ∧ t.length + needF ls = h - 5 ∧ t.getD 0 0 = if 5 + needF ls < h then z.getD (a + 5 + needF ls) 0 else 0 := by
  have hn := encL_len ls
  refine ⟨(recsB h a z).drop (needF ls), ?_, ?_, ?_⟩
  · conv => lhs; rw [← List.take_append_drop (needF ls) (recsB h a z)]
    congr 1
    apply ext_getD (by rw [List.length_take]; unfold recsB; rw [List.length_take, List.length_drop]; omega)
    intro j hj
    rw [List.length_take] at hj
    rw [getTake _ _ _ (by omega), recs_get (by omega)]
    exact hat j (by omega)
  · unfold recsB; rw [List.length_drop, List.length_take, List.length_drop]; omega
  · rw [getDrop]
    by_cases q : 5 + needF ls < h
    · rw [if_pos q, recs_get (by omega)]; rfl
    · rw [if_neg q, List.getD_eq_getElem?_getD, List.getElem?_eq_none (by unfold recsB; rw [List.length_take, List.length_drop]; omega)]; rfl
structure Jo (s : Int) (z : List Int) (ls : List (List Int)) (a : Nat) (g : Int) (h : Nat) : Prop where
  op : openF s z = ((ls, a, g, 5 + needF ls), 0)
  ar : areaF s z.length = h
  h0 : h ≠ 0
  us : usedF h z = ((a : Int), g)
  hat : At z (a + 5) (encL ls)
  rm : 5 + needF ls ≤ h
  en : 5 + needF ls = h ∨ z.getD (a + 5 + needF ls) 0 = 255
  sm : ∀ d ∈ ls, d.length < 65536 ∧ ∀ x ∈ d, 0 ≤ x ∧ x ≤ 255
  bz : ∀ x ∈ z, 0 ≤ x ∧ x ≤ 255
  pl : a = 0 ∨ a = h
  sz : 2 * h = z.length
theorem Jo.mk' {s : Int} {z : List Int} {ls : List (List Int)} {a h : Nat} {g : Int} (ar : areaF s z.length = h) (h0 : h ≠ 0) (us : usedF h z = ((a : Int), g)) (hat : At z (a + 5) (encL ls)) (rm : 5 + needF ls ≤ h) (en : 5 + needF ls = h ∨ z.getD (a + 5 + needF ls) 0 = 255)
    (sm : ∀ d ∈ ls, d.length < 65536 ∧ ∀ x ∈ d, 0 ≤ x ∧ x ≤ 255) (bz : ∀ x ∈ z, 0 ≤ x ∧ x ≤ 255) (pl : a = 0 ∨ a = h) : Jo s z ls a g h := by
  obtain ⟨_, _, _, _, sz, _⟩ := areaF_ok (by rw [ar]; exact h0)
  rw [ar] at sz
  refine ⟨?_, ar, h0, us, hat, rm, en, sm, bz, pl, sz⟩
  obtain ⟨t, e1, e2, e3⟩ := recs_at (by omega) hat rm
  subst ar
  refine openF_ok h0 us ?_
  rw [e1]
  refine parse_mk (fun d hd => (sm d hd).1) ?_
  by_cases q : 5 + needF ls = areaF s z.length
  · left; exact List.length_eq_zero_iff.1 (by omega)
  · right
    rw [e3, if_pos (by omega)]
    exact en.resolve_left q
theorem Jo.of {s : Int} {z : List Int} (bz : ∀ x ∈ z, 0 ≤ x ∧ x ≤ 255) (h : (openF s z).2 = 0) : ∃ ls a g h, Jo s z ls a g h := by
  obtain ⟨l, a, n, g, h1, h2, h3, h4⟩ := openF_inv h
  obtain ⟨_, _, _, _, sz, _⟩ := areaF_ok h1
  have hb : ∀ x ∈ recsB (areaF s z.length) a z, 0 ≤ x ∧ x ≤ 255 := fun x hx => bz x (List.drop_subset _ _ (List.take_subset _ _ hx))
  obtain ⟨p1, p2, p3, p4, p5⟩ := parse_inv hb h3
  have pl : a = 0 ∨ a = areaF s z.length := by
    have := usedF_at (zs := z) (h := areaF s z.length)
    rw [h2] at this
    simp only at this
    omega
  have f := open_facts h4
  have rl : (recsB (areaF s z.length) a z).length = areaF s z.length - 5 := by unfold recsB; rw [List.length_take, List.length_drop]; omega
  have rm : 5 + needF l ≤ areaF s z.length := by omega
  refine ⟨l, a, g, areaF s z.length, Jo.mk' rfl h1 h2 (fun j hj => ?_) rm ?_ p5 bz pl⟩
  · rw [← p1] at hj ⊢
    rw [List.length_take] at hj
    rw [getTake _ _ _ (by omega), recs_get (by omega)]
  · rw [rl] at p4
    subst p2
    by_cases q : 5 + needF l = areaF s z.length
    · exact .inl q
    · right
      have p4 := p4.resolve_left (by omega)
      rwa [recs_get (by omega)] at p4
theorem Jo.mark {s : Int} {z : List Int} {ls : List (List Int)} {a h : Nat} {g : Int} (J : Jo s z ls a g h) : z.getD a 0 = 90 ∧ g = genF z a ∧ 0 ≤ g ∧ g < 4294967296 := by
  have := used_mark J.us
  have g0 := genF_bd J.bz a
  rw [← this.2] at g0
  exact ⟨this.1, this.2, g0⟩
theorem Jo.hb {s : Int} {z : List Int} {ls : List (List Int)} {a h : Nat} {g : Int} (J : Jo s z ls a g h) : h ≤ 8192 ∧ z.length ≤ 16384 ∧ validF s z.length ∧ 16 ≤ h ∧ areaF s z.length ≠ 0 := by
  have h1 : areaF s z.length ≠ 0 := by rw [J.ar]; exact J.h0
  obtain ⟨_, h2, _, h3, h4, h5⟩ := areaF_ok h1
  have := J.ar
  exact ⟨by omega, h5, h2, by omega, h1⟩
theorem Jo.keep {s : Int} {z w : List Int} {ls : List (List Int)} {a o h : Nat} {g : Int} (J : Jo s z ls a g h) (ho : (a = 0 ∧ o = h) ∨ (a = h ∧ o = 0)) (hl : w.length = z.length) (bw : ∀ x ∈ w, 0 ≤ x ∧ x ≤ 255) (hs : ∀ j, a ≤ j → j < a + h → w.getD j 0 = z.getD j 0) (hm : w.getD o 0 ≠ 90) : Jo s w ls a g h := by
  obtain ⟨m1, m2, m3⟩ := J.mark
  have hh := J.hb
  have rm := J.rm
  have eg : genF w a = genF z a := by unfold genF; rw [part_congr hl (fun j h1 h2 => hs j (by omega) (by omega))]
  refine Jo.mk' (by rw [hl]; exact J.ar) J.h0 ?_ (fun j hj => ?_) rm ?_ J.sm bw J.pl
  · rw [m2, ← eg]
    exact used_one ho bw (by rw [hs a (Nat.le_refl _) (by omega)]; exact m1) hm
  · rw [encL_len] at hj
    rw [hs _ (by omega) (by omega)]
    exact J.hat j (by rw [encL_len]; exact hj)
  · rcases J.en with q | q
    · exact .inl q
    · by_cases q2 : 5 + needF ls = h
      · exact .inl q2
      · exact .inr (by rw [hs _ (by omega) (by omega)]; exact q)
theorem Jo.pref {s : Int} {z w : List Int} {ls : List (List Int)} {a k h : Nat} {g : Int} (J : Jo s z ls a g h) (bw : ∀ x ∈ w, 0 ≤ x ∧ x ≤ 255) (ho : Out w z k (a + h)) (hk : a + 5 + needF ls < k) : Jo s w ls a g h := by
  have hh := J.hb
  have rm := J.rm
  refine Jo.mk' (by rw [ho.1]; exact J.ar) J.h0 (by rw [used_congr ho.1 (fun j q => ho.2 j (by have := J.pl; omega))]; exact J.us) (J.hat.out ho (.inl (by rw [encL_len]; omega))) rm (J.en.imp_right fun q => by rw [ho.2 _ (.inl (by omega))]; exact q) J.sm bw J.pl
theorem Jo.more {s : Int} {z w : List Int} {ls : List (List Int)} {a h : Nat} {g : Int} {ds : List Int} (J : Jo s z ls a g h) (bw : ∀ x ∈ w, 0 ≤ x ∧ x ≤ 255) (hd : ds.length < 65536 ∧ ∀ x ∈ ds, 0 ≤ x ∧ x ≤ 255) (hr : 5 + needF ls + ds.length + 11 ≤ h)
    (he : Er z (a + 5 + needF ls) (a + h)) (hat : At w (a + 5 + needF ls) (90 :: bodyF ds)) (ho : Out w z (a + 5 + needF ls) (a + 5 + needF ls + ds.length + 11)) : Jo s w (ls ++ [ds]) a g h ∧ Er w (a + 5 + needF (ls ++ [ds])) (a + h) := by
  have hn := needF_snoc ls ds
  have hE : Er w (a + 5 + needF (ls ++ [ds])) (a + h) := (he.sub (by omega) (Nat.le_refl _)).out ho (.inr (by omega))
  have hh := J.hb
  refine ⟨Jo.mk' (by rw [ho.1]; exact J.ar) J.h0 (by rw [used_congr ho.1 (fun j q => ho.2 j (by have := J.pl; omega))]; exact J.us) ?_ (by omega) ?_ (fun d h => ?_) bw J.pl, hE⟩
  · rw [encL_app]
    exact At.app (J.hat.out ho (.inl (by rw [encL_len]; omega))) (by rw [encL_len]; exact hat)
  · by_cases q : 5 + needF (ls ++ [ds]) = h
    · exact .inl q
    · exact .inr (hE _ (Nat.le_refl _) (by omega))
  · rcases List.mem_append.1 h with h | h
    · exact J.sm d h
    · rw [List.mem_singleton] at h; subst h; exact hd
theorem gen_at {w : List Int} {o : Nat} {n : Int} (hw : o + 5 ≤ w.length) (h : At w (o + 1) (storF n 4)) (h0 : 0 ≤ n ∧ n < 4294967296) : genF w o = n := by
  have e : (w.drop (o + 1)).take 4 = storF n 4 := by
    apply ext_getD (by rw [List.length_take, List.length_drop, storF_len]; omega)
    intro j hj
    rw [List.length_take] at hj
    rw [getTake _ _ _ (by omega), getDrop]
    exact h j (by rw [storF_len]; omega)
  unfold genF
  rw [e, numF_stor h0.1]
  exact Int.emod_eq_of_lt h0.1 h0.2
theorem clean_iff {h a e : Nat} {z : List Int} (hl : a + h ≤ z.length) (he : e ≤ h) : cleanF h a e z = true ↔ Er z (a + e) (a + h) := by
  unfold cleanF
  rw [List.all_eq_true]
  constructor
  · intro q j h1 h2
    have hj : j - (a + e) < ((z.drop (a + e)).take (h - e)).length := by rw [List.length_take, List.length_drop]; omega
    have := q _ (List.getElem_mem hj)
    have e1 : ((z.drop (a + e)).take (h - e)).getD (j - (a + e)) 0 = z.getD j 0 := by rw [getTake _ _ _ (by omega), getDrop]; congr 1; omega
    rw [← e1, List.getD_eq_getElem?_getD, List.getElem?_eq_getElem hj]
    simpa using this
  · intro q x hx
    obtain ⟨i, hi, rfl⟩ := List.getElem_of_mem hx
    have hi2 := hi
    rw [List.length_take, List.length_drop] at hi2
    have := q (a + e + i) (by omega) (by omega)
    rw [← getDrop, ← getTake _ (h - e) i (by omega), List.getD_eq_getElem?_getD, List.getElem?_eq_getElem hi] at this
    simpa using this
theorem Jo.other {s : Int} {z : List Int} {ls : List (List Int)} {a h : Nat} {g : Int} (J : Jo s z ls a g h) : ∃ o, (a = 0 ∧ o = h) ∨ (a = h ∧ o = 0) := by
  rcases J.pl with e | e
  · exact ⟨h, .inl ⟨e, rfl⟩⟩
  · exact ⟨0, .inr ⟨e, rfl⟩⟩
theorem Jo.rew {s : Int} {z : List Int} {ls keep : List (List Int)} {a o h : Nat} {g : Int} (J : Jo s z ls a g h) (ho : (a = 0 ∧ o = h) ∨ (a = h ∧ o = 0)) (hr : 5 + needF keep ≤ h) (hk : ∀ d ∈ keep, d.length < 65536 ∧ ∀ x ∈ d, 0 ≤ x ∧ x ≤ 255) (hg : g ≠ 4294967295) :
    ∃ X w, rewL s z h a g keep = X ++ [(s, w)] ∧ (∀ m ∈ X, m.1 = s ∧ m.2.length = z.length ∧ Jo s m.2 ls a g h) ∧ X ≠ [] ∧ w.length = z.length ∧ Jo s w keep o (g + 1) h ∧ Er w (o + 5 + needF keep) (o + h) := by
  obtain ⟨m1, m2, m3, m4⟩ := J.mark
  have hh := J.hb
  have sz := J.sz
  obtain ⟨X, w, x1, x2, x3, x4, x5, x6, x7, x8⟩ := rew_all (s := s) (zs := z) (a := a) (o := o) (h := h) (g := g) (keep := keep) (P := fun w => w.getD o 0 = 255 ∧ Out w z o (o + h)) (R := fun w => w = z ∨ (w.getD o 0 = 255 ∧ Out w z o (o + h)))
    hh.2.2.2.2 J.ar.symm ho hr J.bz (fun d hd => (hk d hd).2) (fun _ q => .inr q) (.inl rfl) (fun w q1 q2 => ⟨q1, q2⟩) (fun w v q1 q2 => ⟨by rw [q2.2 _ (.inl (by omega))]; exact q1.1, (q2.mono (show o ≤ o + 1 by omega) (Nat.le_refl _)).trans q1.2 (Nat.le_refl _) (Nat.le_refl _)⟩)
  obtain ⟨y1, y2, y3, y4⟩ := x3.2.1 (s, w) (by simp)
  refine ⟨X, w, x1, fun m hm => ?_, x2.1, y2, ?_, x7⟩
  · obtain ⟨z1, z2, z3, z4⟩ := x2.2.1 m hm
    refine ⟨z1, z2, ?_⟩
    rcases z4 with z4 | ⟨z4, z5⟩
    · rw [z4]; exact J
    · exact J.keep ho z2 z3 (fun j h1 h2 => z5.2 j (by omega)) (by rw [z4]; decide)
  · have eg := gen_at (w := w) (o := o) (by simp only at y2; omega) x5 (by omega)
    have ga : genF w a = g := by
      rw [m2]; unfold genF; rw [part_congr y2 (fun j h1 h2 => x8.2 j (by omega))]
    refine Jo.mk' (by simp only at y2; rw [y2]; exact J.ar) J.h0 ?_ x6 hr ?_ hk y3 (by omega)
    · rw [← eg]
      exact used_new ho x4 (by rw [eg, ga]) y3
    · by_cases q : 5 + needF keep = h
      · exact .inl q
      · exact .inr (x7 _ (Nat.le_refl _) (by omega))
theorem Jo.write {s : Int} {z ds : List Int} {ls : List (List Int)} {a h : Nat} {g : Int} {Y : List (Int × List Int)} (J : Jo s z ls a g h) (he : Er z (a + 5 + needF ls) (a + h)) (hd : ds.length < 65536 ∧ ∀ x ∈ ds, 0 ≤ x ∧ x ≤ 255) (hr : 5 + needF ls + ds.length + 11 ≤ h) :
    ∃ Z w, writeL (Y ++ [(s, z)]) (a + (5 + needF ls)) ds = Y ++ (s, z) :: Z ++ [(s, w)] ∧ Z.length = ds.length + 10 ∧ (∀ m ∈ Z, m.1 = s ∧ m.2.length = z.length ∧ Jo s m.2 ls a g h) ∧ w.length = z.length ∧ Jo s w (ls ++ [ds]) a g h ∧ Er w (a + 5 + needF (ls ++ [ds])) (a + h) := by
  have hh := J.hb
  have sz := J.sz
  have pl := J.pl
  have hb := bodyF_len ds
  have hv := hh.2.2.1
  rw [← Nat.add_assoc]
  have hl : lastM (Y ++ [(s, z)]) = (s, z) := by unfold lastM; rw [List.getLastD_concat]
  obtain ⟨w, w1, w2, w3⟩ := write_last (a := a + 5 + needF ls) (ds := ds) hv hl rfl (by omega) hd.2 (he.sub (Nat.le_refl _) (by omega))
  have e1 : progL (Y ++ [(s, z)]) (a + 5 + needF ls + 1) (bodyF ds) = Y ++ (s, z) :: (mems s (gP (bodyF ds)) (a + 5 + needF ls + 1) z ((bodyF ds).length + 1)).drop 1 := by
    unfold progL
    rw [hl]
    simp only
    rw [progF_mk hv (by omega) (by omega), Int.toNat_natCast]
    simp [chgF]
  have e2 : writeL (Y ++ [(s, z)]) (a + 5 + needF ls) ds = progL (Y ++ [(s, z)]) (a + 5 + needF ls + 1) (bodyF ds) ++ [(s, stp (gP [90]) (a + 5 + needF ls) (stp (gP (bodyF ds)) (a + 5 + needF ls + 1) z (bodyF ds).length) 1)] := by
    obtain ⟨pl, pn⟩ := progL_ok (l := Y ++ [(s, z)]) (a := a + 5 + needF ls + 1) (ds := bodyF ds) (by rw [hl]; exact hv) (by rw [hl]; simp only; omega) (by omega)
    rw [hl] at pl
    unfold writeL
    generalize progL (Y ++ [(s, z)]) (a + 5 + needF ls + 1) (bodyF ds) = V at pl ⊢
    show chgF V (progF (lastM V).1 (lastM V).2 _ [90]).1 = _
    rw [pl]
    simp only
    rw [progF_mk (by rw [stp_len]; exact hv) (by omega) (by rw [stp_len]; simp; omega), Int.toNat_natCast]
    rfl
  have bw : ∀ x ∈ stp (gP [90]) (a + 5 + needF ls) (stp (gP (bodyF ds)) (a + 5 + needF ls + 1) z (bodyF ds).length) 1, 0 ≤ x ∧ x ≤ 255 := stp_byte (stp_byte J.bz (fun i x => band8_bd _ _) _) (fun i x => band8_bd _ _) _
  have ev : stp (gP [90]) (a + 5 + needF ls) (stp (gP (bodyF ds)) (a + 5 + needF ls + 1) z (bodyF ds).length) 1 = w := by
    rw [e2] at w1
    unfold lastM at w1
    rw [List.getLastD_concat] at w1
    exact (Prod.mk.inj w1).2
  rw [ev] at bw e2
  obtain ⟨j1, j2⟩ := J.more bw hd hr he w2 w3
  refine ⟨_, w, by rw [e2, e1], by rw [List.length_drop, mems_len]; omega, fun m hm => ?_, w3.1, j1, j2⟩
  have h := List.mem_of_mem_drop hm
  simp only [mems, List.mem_map, List.mem_range] at h
  obtain ⟨i, hi', rfl⟩ := h
  have bs : ∀ x ∈ stp (gP (bodyF ds)) (a + 5 + needF ls + 1) z i, 0 ≤ x ∧ x ≤ 255 := stp_byte J.bz (fun i x => band8_bd _ _) i
  exact ⟨rfl, stp_len _ _ _ _, J.pref bs ((stp_out _ _ z i).mono (Nat.le_refl _) (by omega)) (by omega)⟩
theorem Jo.append {s : Int} {z ds : List Int} {ls : List (List Int)} {a h : Nat} {g : Int} (J : Jo s z ls a g h) (hd : ds.length < 65536 ∧ ∀ x ∈ ds, 0 ≤ x ∧ x ≤ 255) :
    (appendF s z ds = ([], 10) ∧ (5 + needF ls + ds.length + 11 > h ∨ ¬ Er z (a + 5 + needF ls) (a + h) ∧ g = 4294967295)) ∨
    (5 + needF ls + ds.length + 11 ≤ h ∧ ∃ X w a' g', appendF s z ds = (X ++ [(s, w)], 0) ∧ X ≠ [] ∧ (∀ m ∈ X, m.1 = s ∧ m.2.length = z.length ∧ ∃ a' g', Jo s m.2 ls a' g' h) ∧ w.length = z.length ∧ Jo s w (ls ++ [ds]) a' g' h ∧
      (Er z (a + 5 + needF ls) (a + h) → X.length = ds.length + 11 ∧ a' = a ∧ g' = g ∧ Er w (a + 5 + needF (ls ++ [ds])) (a + h))) := by
  have hh := J.hb
  have sz := J.sz
  have rm := J.rm
  have ar := J.ar
  obtain ⟨o, ho⟩ := J.other
  have hc := clean_iff (h := h) (a := a) (e := 5 + needF ls) (z := z) (by omega) rm
  rw [← Nat.add_assoc] at hc
  rw [appendF_eq ds J.op, ar]
  by_cases q1 : 5 + needF ls + ds.length + 11 > h
  · left; rw [if_pos (.inl q1)]; exact ⟨rfl, .inl q1⟩
  by_cases q2 : Er z (a + 5 + needF ls) (a + h)
  · right
    have hcl := hc.2 q2
    rw [if_neg (by rw [hcl]; simp; omega), if_pos hcl]
    obtain ⟨Z, w, e1, e2, e3, e4, e5, e6⟩ := J.write (Y := []) q2 hd (by omega)
    refine ⟨by omega, (s, z) :: Z, w, a, g, by rw [List.nil_append] at e1; rw [e1]; rfl, by simp, fun m hm => ?_, e4, e5, fun _ => ⟨by simp [e2], rfl, rfl, e6⟩⟩
    rcases List.mem_cons.1 hm with rfl | hm
    · exact ⟨rfl, rfl, a, g, J⟩
    · obtain ⟨m1, m2, m3⟩ := e3 m hm
      exact ⟨m1, m2, a, g, m3⟩
  · have hcl : cleanF h a (5 + needF ls) z = false := by
      cases q : cleanF h a (5 + needF ls) z with
      | true => exact absurd (hc.1 q) q2
      | false => rfl
    by_cases q3 : g = 4294967295
    · left; rw [if_pos (.inr ⟨hcl, q3⟩)]; exact ⟨rfl, .inr ⟨q2, q3⟩⟩
    · right
      rw [if_neg (by rw [hcl]; simp; omega), if_neg (by rw [hcl]; simp)]
      obtain ⟨X, v, x1, x2, x3, x4, x5, x6⟩ := J.rew (keep := ls) ho rm J.sm q3
      obtain ⟨Z, w, e1, e2, e3, e4, e5, e6⟩ := x5.write (Y := X) x6 hd (by omega)
      rw [x1, show h - a = o by omega, e1]
      refine ⟨by omega, X ++ (s, v) :: Z, w, o, g + 1, rfl, by simp, fun m hm => ?_, e4.trans x4, e5, fun q => absurd q q2⟩
      rcases List.mem_append.1 hm with hm | hm
      · obtain ⟨m1, m2, m3⟩ := x2 m hm
        exact ⟨m1, m2, a, g, m3⟩
      · rcases List.mem_cons.1 hm with rfl | hm
        · exact ⟨rfl, x4, o, g + 1, x5⟩
        · obtain ⟨m1, m2, m3⟩ := e3 m hm
          exact ⟨m1, m2.trans x4, o, g + 1, m3⟩
theorem Jo.compact {s : Int} {z : List Int} {ls keep : List (List Int)} {a h : Nat} {g : Int} (J : Jo s z ls a g h) (hk : ∀ d ∈ keep, d.length < 65536 ∧ ∀ x ∈ d, 0 ≤ x ∧ x ≤ 255) :
    (compactF s z keep = ([], 10) ∧ (5 + needF keep > h ∨ g = 4294967295)) ∨
    (5 + needF keep ≤ h ∧ g ≠ 4294967295 ∧ ∃ X w o, compactF s z keep = (X ++ [(s, w)], 0) ∧ X ≠ [] ∧ (∀ m ∈ X, m.1 = s ∧ m.2.length = z.length ∧ Jo s m.2 ls a g h) ∧ w.length = z.length ∧ Jo s w keep o (g + 1) h ∧ Er w (o + 5 + needF keep) (o + h)) := by
  obtain ⟨o, ho⟩ := J.other
  rw [compactF_eq keep J.op, J.ar]
  by_cases q : 5 + needF keep > h ∨ g = 4294967295
  · left; rw [if_pos q]; exact ⟨rfl, q⟩
  · right
    rw [if_neg q]
    obtain ⟨X, w, x1, x2, x3, x4, x5, x6⟩ := J.rew ho (by omega) hk (fun e => q (.inr e))
    exact ⟨by omega, fun e => q (.inr e), X, w, o, by rw [x1], x3, x2, x4, x5, x6⟩
theorem no_jo {s : Int} {z : List Int} (h : (openF s z).2 ≠ 0) (ds : List Int) (keep : List (List Int)) : appendF s z ds = ([], (openF s z).2) ∧ compactF s z keep = ([], (openF s z).2) := by
  unfold appendF compactF
  rw [if_pos h, if_pos h]; exact ⟨rfl, rfl⟩
theorem append_num (s : Int) (z ds : List Int) : (appendF s z ds).1.length ≤ 40000 := by
  by_cases h : (openF s z).2 = 0
  · obtain ⟨l, a, n, g, h1, h2, h3, h4⟩ := openF_inv h
    have f := open_facts h4
    rw [appendF_eq ds h4]
    have hv := f.2.2.2.2.2.2.2.2.2
    split
    · simp
    · split
      · have := (writeL_ok (l := [(s, z)]) (a := a + (5 + n)) (ds := ds) hv (by show a + (5 + n) + ds.length + 11 ≤ z.length; omega)).2.2
        rw [this]; simp only [List.length_singleton]; omega
      · obtain ⟨r1, r2, r3⟩ := rewL_ok (s := s) (zs := z) (a := a) (g := g) (keep := l) f.1 f.2.2.1 (by omega)
        have := (writeL_ok (l := rewL s z (areaF s z.length) a g l) (a := areaF s z.length - a + (5 + n)) (ds := ds) (by rw [r1, r2]; exact hv) (by rw [r2]; omega)).2.2
        rw [this, r3]; omega
  · rw [(no_jo h ds []).1]; simp
theorem compact_num (s : Int) (z : List Int) (keep : List (List Int)) : (compactF s z keep).1.length ≤ 40000 := by
  by_cases h : (openF s z).2 = 0
  · obtain ⟨l, a, n, g, h1, h2, h3, h4⟩ := openF_inv h
    have f := open_facts h4
    rw [compactF_eq keep h4]
    split
    · simp
    · obtain ⟨r1, r2, r3⟩ := rewL_ok (s := s) (zs := z) (a := a) (g := g) (keep := keep) f.1 f.2.2.1 (by omega)
      rw [r3]; omega
  · rw [(no_jo h [] keep).2]; simp
theorem read_size {s : Int} {z : List Int} (bz : ∀ x ∈ z, 0 ≤ x ∧ x ≤ 255) : (openF s z).1.1.length ≤ 8192 ∧ ∀ d ∈ (openF s z).1.1, d.length < 65536 ∧ ∀ x ∈ d, 0 ≤ x ∧ x ≤ 255 := by
  by_cases h : (openF s z).2 = 0
  · obtain ⟨ls, a, g, h, J⟩ := Jo.of bz h
    have := needF_ge ls
    have := J.rm
    have := J.hb
    rw [J.op]
    exact ⟨by simp only; omega, J.sm⟩
  · unfold openF at h ⊢
    split
    · simp
    · split
      · simp
      · split
        · simp
        · rename_i q1 q2 _ _ _ q3; rw [if_neg q1, if_neg q2, q3] at h; exact absurd rfl h
noncomputable def tab23 : FuncId → List SV → Mem → (SV → Mem → Prop) → Prop := fun f args E K => match f with
  | 15 => d1 args fun x0 => dC x0 fun l1 => d2 l1 fun x0_0 x0_1 => dI x0_0 fun a1 => dS x0_1 fun b2 l3 c4 => ∃ (zs : List Int), Bs E b2 l3 c4 zs ∧ (∀ (b' : Option Addr) (l' c' : Nat) (yss : List (List Int)) (e : Int) (E' : Mem), Mem.le E E' → Hyp (readF a1 zs = (yss, e)) → BL E' b' l' c' yss → K (.tup [L b' l' c', I e]) E')
  | 21 => d2 args fun x0 x1 => dS x0 fun b1 l2 c3 => dS x1 fun b4 l5 c6 => ∃ (xss : List (List Int)) (yss : List (List Int)), BL E b1 l2 c3 xss ∧ BL E b4 l5 c6 yss ∧ (∀ d ∈ xss, d.length ≤ 100000) ∧ l2 ≤ 100000 ∧ (K (B (decide (xss = yss))) E)
  | _ => False
theorem tab23_ok : TabOK Try.prog tab23 := by
  intro f args E K h
  unfold tab23 at h
  split at h
  · replace h := d1_elim h
    obtain ⟨x0, rfl, h⟩ := h
    replace h := dC_elim h
    obtain ⟨l1, hl1, h⟩ := h
    replace h := d2_elim h
    obtain ⟨x0_0, x0_1, rfl, h⟩ := h
    replace h := dI_elim h
    obtain ⟨a1, rfl, h⟩ := h
    replace h := dS_elim h
    obtain ⟨b2, l3, c4, rfl, h⟩ := h
    obtain ⟨zs, g0, h⟩ := h
    exact TabSem.congr (valL_cons (asCells_val hl1) rfl) (Ent.sem okKI Try.func15 ⟨by kernel_rfl, by kernel_rfl⟩ rfl (j15 g0 h))
  · replace h := d2_elim h
    obtain ⟨x0, x1, rfl, h⟩ := h
    replace h := dS_elim h
    obtain ⟨b1, l2, c3, rfl, h⟩ := h
    replace h := dS_elim h
    obtain ⟨b4, l5, c6, rfl, h⟩ := h
    obtain ⟨xss, yss, g0, g1, g2, g3, h⟩ := h
    exact TabSem.congr (valL_cons rfl (valL_cons rfl rfl)) (Ent.sem okK4 Try.func21 ⟨by kernel_rfl, by kernel_rfl⟩ rfl (j21 g0 g1 g2 g3 h))
  · exact h.elim
noncomputable def K23 : Cx := { P := Try.prog, inl := fun f => List.contains [] f, tab := tab23, isB := fun _ => false, tabB := fun _ _ _ _ _ => False, opt := { unroll := 0, carry := [] }, muts := mutsD }
theorem okK23 : CxOK K23 := CxOK.four tab23_ok (by kernel_rfl) (okInl (by kernel_rfl)) (fun _ _ _ _ _ h => h.elim)
theorem BL_bytes {E : Mem} {b : Option Addr} {l c : Nat} {xs : List (List Int)} (h : BL E b l c xs) : ∀ d ∈ xs, ∀ x ∈ d, 0 ≤ x ∧ x ≤ 255 := by
  obtain ⟨rs, h1, _⟩ := h
  intro d hd
  obtain ⟨i, hi, rfl⟩ := List.getElem_of_mem hd
  obtain ⟨r, hr⟩ : ∃ r, rs[i]? = some r := ⟨_, List.getElem?_eq_getElem (by rw [h1.1]; exact hi)⟩
  obtain ⟨b', l', c', _, hB⟩ := h1.2 i r _ hr (List.getElem?_eq_getElem hi)
  exact hB.2.2.2.1
theorem j23 {a1 : Int} {b2 : Option Addr} {l3 : Nat} {c4 : Nat} {b5 : Option Addr} {l6 : Nat} {c7 : Nat} {zs : List Int} {want : List (List Int)} (h0 : Bs E b2 l3 c4 zs) (h1 : BL E b5 l6 c7 want) (h : ∀ E' : Mem, Mem.le E E' → K (B (decide (readF a1 zs = (want, 0)))) E') :
    Ent K23 8 Try.f23 [.agg [I a1, L b2 l3 c4], L b5 l6 c7] E K := by
  refine same (by kernel_rfl) (?_ : ∃ (zs : List Int), Bs E b2 l3 c4 zs ∧ ∀ (b' : Option Addr) (l' c' : Nat) (yss : List (List Int)) (e : Int) (E' : Mem), Mem.le E E' → Hyp (((openF a1 zs).fst.fst, (openF a1 zs).snd) = (yss, e)) → BL E' b' l' c' yss → Mem.le E E' ∧ bif e == (0 : Int) then ∃ (xss : List (List Int)), ∃ (yss : List (List Int)), BL E' b' l' c' xss ∧ BL E' b5 l6 c7 yss ∧ (∀ (d : List Int), List.Mem d xss → List.length d ≤ 100000) ∧ l' ≤ 100000 ∧ Mem.le E' E' ∧ Mem.le E E' ∧ K (SV.raw (Value.bool (bif true then decide (xss = yss) else false))) E' else Mem.le E E' ∧ K (SV.raw (Value.bool false)) E')
  refine ⟨zs, h0, fun b1 l1 c1 yss e E1 k1 r1 B1 => ⟨k1, ?_⟩⟩
  have r1 : ((openF a1 zs).fst.fst, (openF a1 zs).snd) = (yss, e) := r1
  have hE := h E1 k1
  unfold readF at hE
  have rs := read_size (s := a1) h0.2.2.2.1
  rw [(eq2 r1).1] at rs
  rw [r1] at hE
  have nl := B1.len
  have rs1 := rs.1
  refine condC (fun g => ?_) (fun g => ?_)
  · have g : e = 0 := by simpa using g
    subst g
    exact ⟨yss, want, B1, h1.mono RB_ok k1, fun d hd => by have := (rs.2 d hd).1; omega, by omega, Mem.le_refl _, k1, by simpa using hE⟩
  · have g : e ≠ 0 := by simpa using g
    exact ⟨k1, by simpa [g] using hE⟩
theorem mulP_inj {a b : Nat} (ha : a < 18446744073709551616) (hb : b < 18446744073709551616) (h : ((a : Int) * 1099511628211) % 18446744073709551616 = ((b : Int) * 1099511628211) % 18446744073709551616) : a = b := by
  have e : ∀ x : Int, (x * 1099511628211 % 18446744073709551616) * 14886173955864302971 % 18446744073709551616 = x % 18446744073709551616 := fun x => by
    rw [Int.mul_emod, Int.emod_emod_of_dvd _ (Int.dvd_refl _), ← Int.mul_emod, Int.mul_assoc, show (1099511628211 : Int) * 14886173955864302971 = 1 + 18446744073709551616 * 887285111055 from rfl, Int.mul_add, Int.mul_one, Int.mul_left_comm, Int.add_mul_emod_self_left]
  have e1 := e a
  have e2 := e b
  rw [h, e2] at e1
  clear e h e2
  omega
theorem step_inj {s t x y : Int} (h : stepF s x = stepF t y) : (BitVec.ofInt (IntKind.bits .u64) s ^^^ BitVec.ofInt (IntKind.bits .u64) x) = (BitVec.ofInt (IntKind.bits .u64) t ^^^ BitVec.ofInt (IntKind.bits .u64) y) := by
  unfold stepF at h
  generalize hu : (BitVec.ofInt (IntKind.bits .u64) s ^^^ BitVec.ofInt (IntKind.bits .u64) x) = u at h ⊢
  generalize hv : (BitVec.ofInt (IntKind.bits .u64) t ^^^ BitVec.ofInt (IntKind.bits .u64) y) = v at h ⊢
  have e : (2 ^ IntKind.bits .u64 : Nat) = 18446744073709551616 := by decide
  have h1 := u.isLt
  have h2 := v.isLt
  rw [e] at h1 h2
  rw [wu64' (x := (u.toNat : Int)) (by omega), wu64' (x := (v.toNat : Int)) (by omega), show IntKind.wrap .u64 ((u.toNat : Int) * 1099511628211) = ((u.toNat : Int) * 1099511628211) % 18446744073709551616 from rfl, show IntKind.wrap .u64 ((v.toNat : Int) * 1099511628211) = ((v.toNat : Int) * 1099511628211) % 18446744073709551616 from rfl] at h
  exact BitVec.eq_of_toNat_eq (mulP_inj h1 h2 h)
theorem of64 {s t : Int} (hs : 0 ≤ s ∧ s < 18446744073709551616) (ht : 0 ≤ t ∧ t < 18446744073709551616) (h : BitVec.ofInt (IntKind.bits .u64) s = BitVec.ofInt (IntKind.bits .u64) t) : s = t := by
  have := congrArg BitVec.toNat h
  rw [BitVec.toNat_ofInt, BitVec.toNat_ofInt] at this
  have e : (2 ^ IntKind.bits .u64 : Nat) = 18446744073709551616 := by decide
  rw [e] at this
  omega
theorem step_inj1 {s t x : Int} (hs : 0 ≤ s ∧ s < 18446744073709551616) (ht : 0 ≤ t ∧ t < 18446744073709551616) (h : stepF s x = stepF t x) : s = t := by
  have := congrArg (· ^^^ BitVec.ofInt (IntKind.bits .u64) x) (step_inj h)
  simp only [BitVec.xor_assoc, BitVec.xor_self, BitVec.xor_zero] at this
  exact of64 hs ht this
theorem step_inj2 {s x y : Int} (hs : 0 ≤ x ∧ x < 18446744073709551616) (ht : 0 ≤ y ∧ y < 18446744073709551616) (h : stepF s x = stepF s y) : x = y := by
  have := congrArg (BitVec.ofInt (IntKind.bits .u64) s ^^^ ·) (step_inj h)
  simp only [← BitVec.xor_assoc, BitVec.xor_self, BitVec.zero_xor] at this
  exact of64 hs ht this
theorem fnv_inj : ∀ {zs : List Int} {s t : Int}, 0 ≤ s ∧ s < 18446744073709551616 → 0 ≤ t ∧ t < 18446744073709551616 → fnvF s zs = fnvF t zs → s = t
  | [], _, _, _, _, h => h
  | x :: zs, s, t, hs, ht, h => step_inj1 hs ht (fnv_inj (zs := zs) (stepF_bd s x) (stepF_bd t x) h)
theorem fnv_rng : ∀ {zs : List Int} {s : Int}, 0 ≤ s ∧ s < 18446744073709551616 → 0 ≤ fnvF s zs ∧ fnvF s zs < 18446744073709551616
  | [], _, h => h
  | x :: zs, s, _ => fnv_rng (zs := zs) (stepF_bd s x)
theorem xor8 {x y : Int} (hx : 0 ≤ x ∧ x ≤ 255) (hy : 0 ≤ y ∧ y ≤ 255) (h0 : y ≠ 0) : 
   (((BitVec.ofInt (IntKind.bits .u8) x ^^^ BitVec.ofInt (IntKind.bits .u8) y).toNat : Nat) : Int) ≠ x ∧ ((BitVec.ofInt (IntKind.bits .u8) x ^^^ BitVec.ofInt (IntKind.bits .u8) y).toNat : Int) ≤ 255 := by
  constructor
  · intro h
    have h1 : (BitVec.ofInt (IntKind.bits .u8) x ^^^ BitVec.ofInt (IntKind.bits .u8) y) = BitVec.ofInt (IntKind.bits .u8) x := by
      apply BitVec.eq_of_toNat_eq
      have e : (2 ^ IntKind.bits .u8 : Nat) = 256 := by decide
      rw [BitVec.toNat_ofInt x, e]
      omega
    have := congrArg (BitVec.ofInt (IntKind.bits .u8) x ^^^ ·) h1
    simp only [← BitVec.xor_assoc, BitVec.xor_self, BitVec.zero_xor] at this
    have := congrArg BitVec.toNat this
    have e : (2 ^ IntKind.bits .u8 : Nat) = 256 := by decide
    rw [BitVec.toNat_ofInt, e] at this
    simp at this
    omega
  · have := (BitVec.ofInt (IntKind.bits .u8) x ^^^ BitVec.ofInt (IntKind.bits .u8) y).isLt
    have e : (2 ^ IntKind.bits .u8 : Nat) = 256 := by decide
    omega
theorem sum_inj {X P Q : List Int} {x y : Int} (hx : 0 ≤ x ∧ x ≤ 255) (hy : 0 ≤ y ∧ y ≤ 255) (h : sumF (X ++ (P ++ x :: Q)) = sumF (X ++ (P ++ y :: Q))) : x = y := by
  unfold sumF fnvF at h
  simp only [List.foldl_append, List.foldl_cons] at h
  exact step_inj2 (by omega) (by omega) (fnv_inj (zs := Q) (stepF_bd _ _) (stepF_bd _ _) h)
theorem sum_rng (zs : List Int) : 0 ≤ sumF zs ∧ sumF zs < 18446744073709551616 := fnv_rng (by decide)
theorem At.sub {z : List Int} {a : Nat} {X Y Z : List Int} (h : At z a (X ++ (Y ++ Z))) : At z (a + X.length) Y := fun j hj => by
  have := h (X.length + j) (by simp; omega)
  rw [getA, if_neg (by omega), getA, Nat.add_sub_cancel_left, if_pos hj] at this
  rw [Nat.add_assoc]; exact this
theorem at_part {r : List Int} {k : Nat} {xs : List Int} (h : At r k xs) (hl : k + xs.length ≤ r.length) : (r.drop k).take xs.length = xs := by
  apply ext_getD (by rw [List.length_take, List.length_drop]; omega)
  intro j hj
  rw [List.length_take, List.length_drop] at hj
  rw [getTake _ _ _ (by omega), getDrop]
  exact h j (by omega)
theorem bodyF_parts (d : List Int) : bodyF d = storF (d.length : Int) 2 ++ (d ++ storF (sumF (storF (d.length : Int) 2 ++ d)) 8) := by unfold bodyF; rw [List.append_assoc]
theorem at_len {r d : List Int} {k : Nat} (h : At r (k + 1) (storF (d.length : Int) 2)) (hl : k + 3 ≤ r.length) (hd : d.length < 65536) : lenF r k = d.length := by
  unfold lenF
  have := at_part h (by rw [storF_len]; omega)
  rw [storF_len] at this
  rw [this, numF_stor (by omega)]
  omega
theorem from_recs {r : List Int} : ∀ (ys ls : List (List Int)) (k : Nat), (∀ d ∈ ls, d.length < 65536) → At r k (encL ls) → k + needF ls ≤ r.length → fromF ys k r = fromF (ys ++ ls) (k + needF ls) r
  | ys, [], k, _, _, _ => by simp [needF]
  | ys, d :: ls, k, hs, h, hl => by
    rw [needF_cons] at hl ⊢
    have hd := hs d (by simp)
    have e : encL (d :: ls) = [] ++ ((90 :: bodyF d) ++ encL ls) := by simp [encL]
    have e2 : encL (d :: ls) = (90 :: bodyF d) ++ (encL ls ++ []) := by simp [encL]
    have h1 : At r k (90 :: bodyF d) := by rw [e] at h; exact h.sub
    have h2 : At r (k + (90 :: bodyF d).length) (encL ls) := by rw [e2] at h; exact h.sub
    rw [List.length_cons, bodyF_len] at h2
    have h0 : r.getD k 0 = 90 := h1 0 (by simp)
    have h3 : At r (k + 1) (bodyF d) := by
      have : At r k ([90] ++ (bodyF d ++ [])) := by simpa using h1
      exact this.sub
    have h3' := h3
    rw [bodyF_parts] at h3'
    have h4 : At r (k + 1) (storF (d.length : Int) 2) := by
      have : At r (k + 1) ([] ++ (storF (d.length : Int) 2 ++ (d ++ storF (sumF (storF (d.length : Int) 2 ++ d)) 8))) := h3'
      exact this.sub
    have h5 : At r (k + 3) d := by
      have := h3'.sub
      rw [storF_len] at this
      exact this
    have eL := at_len h4 (by omega) hd
    have p1 := at_part h5 (by omega)
    have p2 := at_part h3 (by rw [bodyF_len]; omega)
    rw [bodyF_len] at p2
    rw [fromF_next (by omega) (by rw [h0]; decide) h0 (by rw [eL]; omega) (by rw [eL, p1, p2]), eL, p1]
    rw [from_recs (ys ++ [d]) ls (k + d.length + 11) (fun x hx => hs x (List.mem_cons_of_mem _ hx)) h2 (by omega)]
    simp [Nat.add_assoc]
theorem body_dam {d B : List Int} {q : Nat} (hd : ∀ x ∈ d, 0 ≤ x ∧ x ≤ 255) (hB : ∀ x ∈ B, 0 ≤ x ∧ x ≤ 255) (hl : B.length = d.length + 10) (h2 : 2 ≤ q) (hq : q < d.length + 10) (he : ∀ j, j ≠ q → B.getD j 0 = (bodyF d).getD j 0) (hn : B.getD q 0 ≠ (bodyF d).getD q 0) : bodyF ((B.drop 2).take d.length) ≠ B := by
  intro h
  have hbl := bodyF_len d
  have ln : ((B.drop 2).take d.length).length = d.length := by rw [List.length_take, List.length_drop]; omega
  by_cases c : q < d.length + 2
  · have eB := bodyF_parts ((B.drop 2).take d.length)
    rw [h, ln] at eB
    have ed := bodyF_parts d
    have t1 : B.drop (d.length + 2) = storF (sumF (storF (d.length : Int) 2 ++ (B.drop 2).take d.length)) 8 := by
      conv => lhs; rw [eB]
      rw [← List.append_assoc, List.drop_left' (by rw [List.length_append, storF_len, ln]; omega)]
    have t2 : (bodyF d).drop (d.length + 2) = storF (sumF (storF (d.length : Int) 2 ++ d)) 8 := by
      rw [ed, ← List.append_assoc, List.drop_left' (by rw [List.length_append, storF_len]; omega)]
    have t3 : B.drop (d.length + 2) = (bodyF d).drop (d.length + 2) := by
      apply ext_getD (by rw [List.length_drop, List.length_drop]; omega)
      intro j _
      rw [getDrop, getDrop]
      exact he _ (by omega)
    rw [t1, t2] at t3
    have t4 := congrArg numF t3
    rw [numF_stor (sum_rng _).1, numF_stor (sum_rng _).1] at t4
    have r1 := sum_rng (storF (d.length : Int) 2 ++ (B.drop 2).take d.length)
    have r2 := sum_rng (storF (d.length : Int) 2 ++ d)
    have e64 : (256 : Int) ^ 8 = 18446744073709551616 := by decide
    rw [e64, Int.emod_eq_of_lt r1.1 r1.2, Int.emod_eq_of_lt r2.1 r2.2] at t4
    -- the two differ at one place
    have gd : ∀ j, (bodyF d).getD (2 + j) 0 = if j < d.length then d.getD j 0 else (storF (sumF (storF (d.length : Int) 2 ++ d)) 8).getD (j - d.length) 0 := fun j => by
      rw [ed, getA, if_neg (by rw [storF_len]; omega), storF_len, getA, show 2 + j - 2 = j by omega]
    have hi : q - 2 < d.length := by omega
    have hi' : q - 2 < ((B.drop 2).take d.length).length := by omega
    have u1 : d = d.take (q - 2) ++ d.getD (q - 2) 0 :: d.drop (q - 2 + 1) := by
      conv => lhs; rw [← List.take_append_drop (q - 2) d]
      rw [List.drop_eq_getElem_cons hi, List.getD_eq_getElem?_getD, List.getElem?_eq_getElem hi]; rfl
    have u2 : (B.drop 2).take d.length = d.take (q - 2) ++ B.getD q 0 :: d.drop (q - 2 + 1) := by
      apply ext_getD (by rw [ln]; simp only [List.length_append, List.length_take, List.length_cons, List.length_drop]; omega)
      intro j hj
      rw [ln] at hj
      rw [getTake _ _ _ hj, getDrop, getA, List.length_take, Nat.min_eq_left (by omega)]
      by_cases c1 : j < q - 2
      · rw [if_pos c1, getTake _ _ _ c1, he _ (by omega), gd, if_pos hj]
      · rw [if_neg c1]
        by_cases c2 : j = q - 2
        · subst c2
          rw [Nat.sub_self, show 2 + (q - 2) = q by omega]; rfl
        · obtain ⟨m, rfl⟩ : ∃ m, j = q - 2 + 1 + m := ⟨j - (q - 2 + 1), by omega⟩
          rw [show q - 2 + 1 + m - (q - 2) = m + 1 by omega, List.getD_cons_succ, getDrop, he _ (by omega), gd, if_pos hj]
    rw [u2] at t4
    have t5 := t4.trans (congrArg (fun v => sumF (storF (d.length : Int) 2 ++ v)) u1)
    have gq := gd (q - 2)
    rw [if_pos hi, show 2 + (q - 2) = q by omega] at gq
    have b1 : 0 ≤ B.getD q 0 ∧ B.getD q 0 ≤ 255 := by
      rw [List.getD_eq_getElem?_getD, List.getElem?_eq_getElem (by omega : q < B.length)]; exact hB _ (List.getElem_mem _)
    have b2 : 0 ≤ d.getD (q - 2) 0 ∧ d.getD (q - 2) 0 ≤ 255 := by
      rw [List.getD_eq_getElem?_getD, List.getElem?_eq_getElem hi]; exact hd _ (List.getElem_mem _)
    exact hn (by rw [gq]; exact sum_inj (X := storF (d.length : Int) 2) (P := d.take (q - 2)) (Q := d.drop (q - 2 + 1)) b1 b2 t5)
  · have ed : (B.drop 2).take d.length = d := by
      apply ext_getD ln
      intro j hj
      rw [ln] at hj
      have hj2 : 2 + j ≠ q := by omega
      rw [getTake _ _ _ hj, getDrop, he _ hj2, bodyF_parts, getA, if_neg (by rw [storF_len]; omega), storF_len, getA, show 2 + j - 2 = j by omega, if_pos hj]
    rw [ed] at h
    exact hn (by rw [h])
theorem encL_split {ls : List (List Int)} {n : Nat} {d : List Int} (h : ls[n]? = some d) : encL ls = encL (ls.take n) ++ ((90 :: bodyF d) ++ encL (ls.drop (n + 1))) := by
  obtain ⟨hn, rfl⟩ := List.getElem?_eq_some_iff.1 h
  have e : ls = ls.take n ++ ([ls[n]] ++ ls.drop (n + 1)) := by
    rw [List.singleton_append, ← List.drop_eq_getElem_cons hn, List.take_append_drop]
  have e2 : encL ls = encL (ls.take n ++ ([ls[n]] ++ ls.drop (n + 1))) := congrArg encL e
  rw [e2]
  unfold encL
  rw [List.flatMap_append, List.flatMap_append]
  simp
theorem Jo.damage {s : Int} {z w : List Int} {ls : List (List Int)} {a h n i p : Nat} {g : Int} {d : List Int} (J : Jo s z ls a g h) (hd : ls[n]? = some d) (hi : i < d.length + 8) (hp : p = a + 5 + needF (ls.take n) + 3 + i) (hl : w.length = z.length) (bw : ∀ x ∈ w, 0 ≤ x ∧ x ≤ 255)
    (hw : ∀ j, j ≠ p → w.getD j 0 = z.getD j 0) (hne : w.getD p 0 ≠ z.getD p 0) : p < a + h ∧ (openF s w).2 = 12 := by
  have hh := J.hb
  have sz := J.sz
  have rm := J.rm
  have pl := J.pl
  have dm := J.sm d (List.mem_of_getElem? hd)
  have es := encL_split hd
  have en := congrArg List.length es
  rw [encL_len] at en
  simp only [List.length_append, List.length_cons, encL_len, bodyF_len] at en
  have c1 : p < a + h := by omega
  refine ⟨c1, ?_⟩
  have hat := J.hat
  rw [es] at hat
  generalize hK : needF (ls.take n) = K at *
  have eu : usedF h w = ((a : Int), g) := by
    rw [used_congr hl (fun j q => hw j (by omega))]; exact J.us
  -- the bytes of the records
  have hr : ∀ j, j < h - 5 → (recsB h a w).getD j 0 = w.getD (a + 5 + j) 0 := fun j hj => recs_get hj
  have rl : (recsB h a w).length = h - 5 := by unfold recsB; rw [List.length_take, List.length_drop]; omega
  have br : ∀ x ∈ recsB h a w, 0 ≤ x ∧ x ≤ 255 := fun x hx => bw x (List.drop_subset _ _ (List.take_subset _ _ hx))
  generalize hrr : recsB h a w = r at hr rl br
  have a1 : At r 0 (encL (ls.take n)) := fun j hj => by
    rw [encL_len] at hj
    rw [Nat.zero_add, hr j (by omega), hw _ (by omega)]
    have := hat j (by rw [List.length_append, encL_len]; omega)
    rw [this, getA, encL_len, if_pos (by omega)]
  have aK : ∀ j, j < d.length + 11 → K + j ≠ p - (a + 5) → r.getD (K + j) 0 = (90 :: bodyF d).getD j 0 := fun j hj hp' => by
    rw [hr _ (by omega), hw _ (by omega)]
    have := hat (K + j) (by simp [encL_len, bodyF_len, hK]; omega)
    rw [this, getA, encL_len, hK, if_neg (by omega), Nat.add_sub_cancel_left, getA, List.length_cons, bodyF_len, if_pos (by omega)]
  have f1 := from_recs (r := r) [] (ls.take n) 0 (fun x hx => (J.sm x (List.take_subset _ _ hx)).1) a1 (by omega)
  rw [fromF_0, List.nil_append, Nat.zero_add, hK] at f1
  have h0 : r.getD K 0 = 90 := by
    have := aK 0 (by omega) (by omega)
    simpa using this
  have h4 : At r (K + 1) (storF (d.length : Int) 2) := fun j hj => by
    rw [storF_len] at hj
    have := aK (1 + j) (by omega) (by omega)
    rw [← Nat.add_assoc] at this
    rw [this, show 1 + j = j + 1 by omega, List.getD_cons_succ, bodyF_parts, getA, if_pos (by rw [storF_len]; omega)]
  have eL := at_len h4 (by omega) dm.1
  have nb : bodyF ((r.drop (K + 3)).take d.length) ≠ (r.drop (K + 1)).take (d.length + 10) := by
    have bB : ∀ x ∈ (r.drop (K + 1)).take (d.length + 10), 0 ≤ x ∧ x ≤ 255 := fun x hx => br x (List.drop_subset _ _ (List.take_subset _ _ hx))
    have lB : ((r.drop (K + 1)).take (d.length + 10)).length = d.length + 10 := by rw [List.length_take, List.length_drop]; omega
    have gB : ∀ j, j < d.length + 10 → ((r.drop (K + 1)).take (d.length + 10)).getD j 0 = r.getD (K + 1 + j) 0 := fun j hj => by rw [getTake _ _ _ hj, getDrop]
    have := body_dam (q := 2 + i) dm.2 bB lB (by omega) (by omega) (fun j hj => by
      by_cases c : j < d.length + 10
      · rw [gB j c]
        have := aK (1 + j) (by omega) (by omega)
        rw [← Nat.add_assoc] at this
        rw [this, show 1 + j = j + 1 by omega, List.getD_cons_succ]
      · rw [List.getD_eq_getElem?_getD, List.getD_eq_getElem?_getD, List.getElem?_eq_none (by omega), List.getElem?_eq_none (by rw [bodyF_len]; omega)]) (by
      rw [gB _ (by omega), hr _ (by omega), show a + 5 + (K + 1 + (2 + i)) = p by omega]
      have := hat (K + (3 + i)) (by simp [encL_len, bodyF_len, hK]; omega)
      rw [getA, encL_len, hK, if_neg (by omega), Nat.add_sub_cancel_left, getA, List.length_cons, bodyF_len, if_pos (by omega), show 3 + i = (2 + i) + 1 by omega, List.getD_cons_succ, show a + 5 + (K + (2 + i + 1)) = p by omega] at this
      rw [← this]; exact hne)
    have ee : (((r.drop (K + 1)).take (d.length + 10)).drop 2).take d.length = (r.drop (K + 3)).take d.length := by
      rw [List.drop_take, List.drop_drop, List.take_take, show K + 1 + 2 = K + 3 by omega, Nat.min_eq_left (by omega)]
    rw [ee] at this
    exact this
  have f2 : parseF r = none := by
    rw [f1]
    exact fromF_bad3 (by omega) (by rw [h0]; decide) h0 (by rw [eL]; omega) (by rw [eL]; exact nb)
  have hA : areaF s w.length = h := by rw [hl]; exact J.ar
  unfold openF
  rw [hA, if_neg J.h0, eu, if_neg (by simp)]
  simp only [Int.toNat_natCast]
  rw [hrr, f2]
theorem Jo_format {s n a : Int} {z : List Int} (hf : formatF s n = ((a, z), 0)) : a = s ∧ ∃ h, Jo s z [] 0 0 h ∧ Er z 5 h := by
  by_cases hb : (newF s n).2 ≠ 0 ∨ areaF s (newF s n).1.2.length = 0
  · rw [formatF_bad hb] at hf
    exact absurd (Prod.mk.inj hf).2 (by decide)
  · have hb1 : (newF s n).2 = 0 := Decidable.byContradiction fun q => hb (.inl q)
    have hb2 : areaF s (newF s n).1.2.length ≠ 0 := fun q => hb (.inr q)
    obtain ⟨m, hm⟩ : ∃ m, newF s n = ((s, List.replicate m 255), 0) := by
      unfold newF at hb1 ⊢
      split
      · rename_i q; rw [if_pos q] at hb1; exact absurd hb1 (by decide)
      · exact ⟨_, rfl⟩
    rw [hm] at hb2
    simp only [List.length_replicate] at hb2
    rw [formatF_ok hm hb2] at hf
    obtain ⟨h1, _⟩ := Prod.mk.inj hf
    obtain ⟨rfl, h2⟩ := Prod.mk.inj h1
    refine ⟨rfl, areaF s m, ?_⟩
    obtain ⟨a1, a2, a3, a4, a5, a6⟩ := areaF_ok hb2
    have hl : z.length = m := by rw [← h2]; simp; omega
    have g5 : ∀ j, 5 ≤ j → j < m → z.getD j 0 = 255 := fun j h3 h4 => by
      rw [← h2, getA, if_neg (by simp; omega), getDrop, List.getD_eq_getElem?_getD, List.getElem?_replicate, if_pos (by simp; omega)]; rfl
    have bz : ∀ x ∈ z, 0 ≤ x ∧ x ≤ 255 := fun x hx => by
      rw [← h2] at hx
      rcases List.mem_append.1 hx with h | h
      · simp at h; omega
      · have := List.eq_of_mem_replicate (List.mem_of_mem_drop h); omega
    have gz : genF z 0 = 0 := by
      unfold genF
      rw [← h2]; rfl
    refine ⟨Jo.mk' (by rw [hl]) hb2 ?_ (fun j hj => by simp [encL] at hj) (by show 5 + 0 ≤ _; omega) (.inr (g5 _ (by omega) (by show 0 + 5 + 0 < m; omega))) (fun d hd => by cases hd) bz (.inl rfl), fun j h3 h4 => g5 j h3 (by omega)⟩
    rw [← gz]
    exact used_one (.inl ⟨rfl, rfl⟩) bz (by rw [← h2]; rfl) (by rw [g5 _ (by omega) (by omega)]; decide)
theorem Jo.clean_append {s : Int} {z ds : List Int} {ls : List (List Int)} {a h : Nat} {g : Int} (J : Jo s z ls a g h) (he : Er z (a + 5 + needF ls) (a + h)) (hd : ds.length < 65536 ∧ ∀ x ∈ ds, 0 ≤ x ∧ x ≤ 255) :
    (appendF s z ds = ([], 10) ∧ h < 5 + needF ls + ds.length + 11) ∨
    (5 + needF ls + ds.length + 11 ≤ h ∧ ∃ X w, appendF s z ds = (X ++ [(s, w)], 0) ∧ X.length = ds.length + 11 ∧ w.length = z.length ∧ Jo s w (ls ++ [ds]) a g h ∧ Er w (a + 5 + needF (ls ++ [ds])) (a + h)) := by
  rcases J.append hd with ⟨e, h1⟩ | ⟨h1, X, w, a', g', e, _, _, h2, h3, h4⟩
  · refine .inl ⟨e, ?_⟩
    rcases h1 with h1 | h1
    · exact h1
    · exact absurd he h1.1
  · obtain ⟨h5, rfl, rfl, h6⟩ := h4 he
    exact .inr ⟨h1, X, w, e, h5, h2, h3, h6⟩
theorem Jo.read {s : Int} {z : List Int} {ls : List (List Int)} {a h : Nat} {g : Int} (J : Jo s z ls a g h) : readF s z = (ls, 0) := by unfold readF; rw [J.op]
theorem needF_split {ls : List (List Int)} {n : Nat} {d : List Int} (h : ls[n]? = some d) : needF ls = needF (ls.take n) + d.length + 11 + needF (ls.drop (n + 1)) := by
  have := congrArg List.length (encL_split h)
  rw [encL_len] at this
  simp only [List.length_append, List.length_cons, encL_len, bodyF_len] at this
  omega
theorem u8w {x : Int} (h : (Lit.int .u8 x).wf = true) : 0 ≤ x ∧ x ≤ 255 := by
  simp only [Lit.wf, Bool.and_eq_true, decide_eq_true_eq, show IntKind.u8.min = 0 from rfl, show IntKind.u8.max = 255 from rfl] at h
  exact h
theorem u16w {x : Int} (h : (Lit.int .u16 x).wf = true) : 0 ≤ x ∧ x ≤ 65535 := by
  simp only [Lit.wf, Bool.and_eq_true, decide_eq_true_eq, show IntKind.u16.min = 0 from rfl, show IntKind.u16.max = 65535 from rfl] at h
  exact h
theorem SL.full {α : Type} {k : Nat} {R : RowR α} {E E' : Mem} {b b' : Option Addr} {n c : Nat} {xs : List α} (ok : RowOK k R) (h : SL R E b n c xs) (he : Mem.le E E')
    (hF : ∀ cs, E (.slice b n c) cs → E' (.slice b' n n) (List.take (n * k) (List.drop 0 cs))) (hN : b'.isNone = b.isNone) : SL R E' b' n n xs := by
  obtain ⟨rs, g1, g2, g3, g4, g5⟩ := h
  refine ⟨rs, g1.mono ok he, g2, Nat.le_refl _, g4.imp_right (fun w => ?_), fun e => g5 ?_⟩
  · have := hF _ w
    rwa [List.drop_zero, List.take_of_length_le (by rw [g1.flat ok, g2]; exact Nat.le_refl _)] at this
  · cases b with
    | none => rfl
    | some x => rw [e] at hN; cases hN
theorem app_full {α : Type} {k : Nat} {R : RowR α} {E : Mem} {b : Option Addr} {n : Nat} {xs : List α} (ok : RowOK k R) (h : SL R E b n n xs) {A L : Prop} [Decidable L] {B : List Value → Prop} (hL : L) (hA : n = 0 → A) (hB : ∀ rs, SLr R E rs xs → rs.flatten.take (n * k) = rs.flatten → B rs.flatten) :
    bif b.isNone then req (n = 0 ∧ n = 0) A else ∃ cs : List Value, (cs = [] ∨ E (.slice b n n) cs) ∧ n * k ≤ cs.length ∧ (∀ x : Value, List.Mem x cs → x.oneCell' = true) ∧ req (n < n + 1) (req L (B cs)) := by
  obtain ⟨rs, h1, h2, h3, h4, h5⟩ := h.src ok
  have hn := h.len
  refine condC (fun g => ?_) (fun g => ?_)
  · have : n = 0 := by
      obtain rfl : b = none := by cases b with | none => rfl | some x => cases g
      have := h.none
      rw [this] at hn
      exact hn.symm
    exact req_intro ⟨this, this⟩ (hA this)
  · refine ⟨rs.flatten, h2, h3, h4, req_intro (by omega) (req_intro hL (hB rs h1 (List.take_of_length_le ?_)))⟩
    rw [h1.flat ok, hn]; exact Nat.le_refl _
theorem Jo.append_any {s : Int} {z ds : List Int} {ls : List (List Int)} {a h : Nat} {g : Int} (J : Jo s z ls a g h) (hd : ds.length < 65536 ∧ ∀ x ∈ ds, 0 ≤ x ∧ x ≤ 255) {ms : List (Int × List Int)} (e : appendF s z ds = (ms, 0)) :
    ms ≠ [] ∧ ∀ m ∈ ms, m.1 = s ∧ m.2.length = z.length ∧ ∃ ls' a' g', Jo s m.2 ls' a' g' h := by
  rcases J.append hd with ⟨e1, _⟩ | ⟨_, X, w, a', g', e1, h1, h2, h3, h4, _⟩
  · rw [e1] at e; exact absurd (Prod.mk.inj e).2 (by decide)
  · rw [e1] at e
    obtain ⟨rfl, _⟩ := Prod.mk.inj e
    refine ⟨by simp, fun m hm => ?_⟩
    rcases List.mem_append.1 hm with hm | hm
    · obtain ⟨q1, q2, a1, g1, q3⟩ := h2 m hm
      exact ⟨q1, q2, _, _, _, q3⟩
    · rw [List.mem_singleton] at hm
      subst hm
      exact ⟨rfl, h3, _, _, _, h4⟩
theorem last_facts {α : Type} {X : List α} {y : α} {P : α → Prop} (hX : ∀ m ∈ X, P m) {i : Nat} {m : α} (h : (X ++ [y])[i]? = some m) : (i + 1 = (X ++ [y]).length → m = y) ∧ (i + 1 ≠ (X ++ [y]).length → P m) := by
  have hi := (List.getElem?_eq_some_iff.1 h).1
  rw [List.length_append, List.length_singleton] at hi ⊢
  by_cases q : i < X.length
  · rw [List.getElem?_append_left q] at h
    exact ⟨fun e => by omega, fun _ => hX m (List.mem_of_getElem? h)⟩
  · rw [List.getElem?_append_right (by omega), show i - X.length = 0 by omega] at h
    simp at h
    exact ⟨fun _ => h.symm, fun e => by omega⟩
theorem Jo.append_reads {s : Int} {z ds : List Int} {ls : List (List Int)} {a h : Nat} {g : Int} (J : Jo s z ls a g h) (hd : ds.length < 65536 ∧ ∀ x ∈ ds, 0 ≤ x ∧ x ≤ 255) {ms : List (Int × List Int)} {e : Int} (q : appendF s z ds = (ms, e)) :
    (e = 0 ↔ 0 < ms.length) ∧ ∀ i m, ms[i]? = some m → readF m.1 m.2 = (if i + 1 = ms.length then ls ++ [ds] else ls, 0) := by
  rcases J.append hd with ⟨e1, _⟩ | ⟨_, X, w, a', g', e1, h1, h2, h3, h4, _⟩
  · rw [e1] at q; cases q; simp
  · rw [e1] at q
    cases q
    refine ⟨by simp, fun i m hm => ?_⟩
    have lf := last_facts (P := fun m => readF m.1 m.2 = (ls, 0)) (fun m hm => by
      obtain ⟨q1, _, a1, g1, q3⟩ := h2 m hm
      rw [q1]; exact q3.read) hm
    by_cases c : i + 1 = (X ++ [(s, w)]).length
    · rw [if_pos c, lf.1 c]; exact h4.read
    · rw [if_neg c]; exact lf.2 c
theorem Jo.compact_reads {s : Int} {z : List Int} {ls keep : List (List Int)} {a h : Nat} {g : Int} (J : Jo s z ls a g h) (hk : ∀ d ∈ keep, d.length < 65536 ∧ ∀ x ∈ d, 0 ≤ x ∧ x ≤ 255) {ms : List (Int × List Int)} {e : Int} (q : compactF s z keep = (ms, e)) :
    (e = 0 ↔ 0 < ms.length) ∧ ∀ i m, ms[i]? = some m → readF m.1 m.2 = (if i + 1 = ms.length then keep else ls, 0) := by
  rcases J.compact hk with ⟨e1, _⟩ | ⟨_, _, X, w, o, e1, h1, h2, h3, h4, _⟩
  · rw [e1] at q; cases q; simp
  · rw [e1] at q
    cases q
    refine ⟨by simp, fun i m hm => ?_⟩
    have lf := last_facts (P := fun m => readF m.1 m.2 = (ls, 0)) (fun m hm => by
      obtain ⟨q1, _, q3⟩ := h2 m hm
      rw [q1]; exact q3.read) hm
    by_cases c : i + 1 = (X ++ [(s, w)]).length
    · rw [if_pos c, lf.1 c]; exact h4.read
    · rw [if_neg c]; exact lf.2 c
end Go.Proofs.Ytiineecihncpfaa.JournalOwn
