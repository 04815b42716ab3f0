/- The symbolic evaluator, part X: rows handed out at a loop's head or a cut, and what a callee hands back. Conditions: none; generic over programs. -/
import Derived.Test.YtjibgfihfbdcaaaSyW
namespace Go.Sx
open Go

/-- A row handed out. -/
theorem Rel.pub {w0 : World} {mu : Fm} {bx : List Box} {E : Mem} {ρ : Env} {w : World} (hR : Rel w0 mu bx E ρ w) {b : Nat} {y : Box} (hy : bx[b]? = some y) {cs : List Value} (hcs : y.row.val = some cs) :
    ∃ base E', ρ[b]? = some base ∧ Mem.le E E' ∧ WinE E' base cs ∧ Rel w0 mu ((bx.set b { y with own := false }).map (Box.subst b base)) E' ρ w := by
  have hi : b < bx.length := get_lt hy
  have hρ : ∃ base, ρ[b]? = some base := ⟨_, List.getElem?_eq_getElem (by rw [hR.len]; exact hi)⟩
  obtain ⟨base, hρ⟩ := hρ
  have hbox := hR.box b y base hy hρ
  have hshare := hR.share hy
  have hval := Row.val_den hcs
  have hnil : base = none → cs = [] := by
    rintro rfl
    have h1 := hbox.1
    have h2 := hval []
    rw [show y.row.cells = [] from h1] at h2
    simp only [SV.denL, Option.some.injEq] at h2
    exact h2.symm
  let E' : Mem := fun v c => E v c ∨ ∃ off m len cap, off + m ≤ cs.length ∧ v = slcAs base off len cap ∧ c = (cs.drop off).take m
  have hrow : ∀ off m len cap, off + m ≤ cs.length → RowAt w (slcAs base off len cap) ((cs.drop off).take m) ∧
      ((cs.drop off).take m ≠ [] → ∃ a, base = some a ∧ a.spot = none ∧ y.live = true) := by
    intro off m len cap hle
    cases base with
    | none =>
      have h0 : cs = [] := hnil rfl
      subst h0
      exact ⟨.inl (by simp), fun h => by simp at h⟩
    | some a =>
      obtain ⟨h1, vs', h2, h3⟩ := hbox.share
      have : vs' = cs := by
        have := hval ρ
        rw [show ({ y with own := false } : Box).cells = y.row.cells from rfl, this] at h2
        cases h2; rfl
      subst this
      simp only [Bool.false_eq_true, if_false] at h3
      constructor
      · right
        refine ⟨a.add off, len, cap, rfl, by rw [add_eq h1], fun i x hx => ?_⟩
        rw [add_eq h1]
        simp only
        have hi : i < m := by
          rcases Nat.lt_or_ge i m with q | q
          · exact q
          · rw [List.getElem?_eq_none (by simp; omega)] at hx; cases hx
        rw [List.getElem?_take_of_lt hi, List.getElem?_drop] at hx
        rw [Nat.add_assoc]
        exact h3 _ _ hx
      · intro hne
        refine ⟨a, rfl, h1, ?_⟩
        simp only [Box.live, Bool.or_eq_true]
        right
        cases hc : y.cells with
        | nil =>
          have h2 := hval []
          rw [show y.row.cells = [] from hc] at h2
          simp only [SV.denL, Option.some.injEq] at h2
          subst h2; simp at hne
        | cons => rfl
  have hR' : Rel w0 mu (bx.set b { y with own := false }) E' ρ w := hshare.addE (fun v c g => by
      rcases g with g | ⟨off, m, len, cap, hle, rfl, rfl⟩
      · exact hR.hold v c g
      · exact (hrow off m len cap hle).1) (fun v c g hne => by
      rcases g with g | ⟨off, m, len, cap, hle, rfl, rfl⟩
      · exact .inl g
      · right
        obtain ⟨a, rfl, h1, hl⟩ := (hrow off m len cap hle).2 hne
        intro j b' c' g1 g2 g3
        have hj : b ≠ j := by
          rintro rfl
          rw [List.getElem?_set_self hi] at g1
          simp only [Option.some.injEq] at g1; subst g1
          simp at g2
        rw [List.getElem?_set_ne hj] at g1
        have := (hR.sep j b' c' g1 g2 g3).2.1 b y a hj hy hl hρ
        simp only [slcAs, Option.map_some, blk, add_eq h1]
        intro e; simp only [Option.some.injEq] at e; exact this e) (fun v c g hne => by
      rcases g with g | ⟨off, m, len, cap, hle, rfl, rfl⟩
      · exact hR.src _ _ g hne
      · obtain ⟨a, rfl, h1, hl⟩ := (hrow off m len cap hle).2 hne
        exact .inl ⟨a.block, by simp only [slcAs, Option.map_some, blk, add_eq h1], hR.bsrc b y a hy hl hρ⟩)
  exact ⟨base, E', hρ, fun _ _ g => .inl g, ⟨hnil, fun off m len cap hle => .inr ⟨off, m, len, cap, hle, rfl, rfl⟩⟩, hR'.subst hρ⟩

/-- The state in which a row has been handed out. -/
def St.pub (S : St) (b : Nat) (y : Box) (base : Option Addr) (E' : Mem) : St :=
  { fr := S.fr.map (Option.map (SV.subst b base)), bx := (S.bx.set b { y with own := false }).map (Box.subst b base), E := E' }

theorem AtP_pub {n0 : Nat} {Φ : World → Fm → Env → Act → World → Prop} {S : St} (b : Nat) (y : Box) (cs : List Value) (hy : S.bx[b]? = some y) (hcs : y.row.val = some cs)
    (h : ∀ base E', Mem.le S.E E' → WinE E' base cs → AtP n0 Φ (S.pub b y base E')) : AtP n0 Φ S := by
  refine ⟨fun w0 mu ρ0 a w hn hl => ?_⟩
  obtain ⟨hd, S', ρ, hp, hR, hF, rfl⟩ := hl
  obtain ⟨base, E', hρ, hle, hw, hR'⟩ := hR.pub hy hcs
  refine (h base E' hle hw).out w0 mu ρ0 a w hn ⟨hd, _, ρ, hp, hR', ⟨by rw [← hF.1]; simp [St.pub], fun i s hs => ?_⟩, rfl⟩
  simp only [St.pub, List.getElem?_map] at hs
  cases hx : S'.fr[i]? with
  | none => rw [hx] at hs; cases hs
  | some o =>
    rw [hx] at hs
    simp only [Option.map_some, Option.some.injEq] at hs
    cases o with
    | none => cases hs
    | some s0 =>
      simp only [Option.map_some, Option.some.injEq] at hs
      subst hs
      obtain ⟨v, h1, h2⟩ := hF.2 i s0 hx
      exact ⟨v, h1, subst_den hρ s0 h2⟩

theorem Lp_pub {C : Cx} {n : Nat} {fn : Func} {p : List Nat} {n0 : Nat} {K : KT} {S : St} (b : Nat) (y : Box) (cs : List Value) (hy : S.bx[b]? = some y) (hcs : y.row.val = some cs)
    (h : ∀ base E', Mem.le S.E E' → WinE E' base cs → Lp C n fn p n0 K (S.pub b y base E')) : Lp C n fn p n0 K S := by
  unfold Lp at *
  exact ⟨(AtP_pub (Φ := fun w0 mu ρ0 a w => mu.om = C.opt.om ∧ okE C.opt.om ρ0 → LoopLfp C.P _ (LiftQ w0 mu ρ0 _) a w) b y cs hy hcs fun base E' h1 h2 => ⟨(h base E' h1 h2).out⟩).out⟩

theorem Ct_pub {C : Cx} {n : Nat} {fn : Func} {p : List Nat} {n0 : Nat} {K : KT} {S : St} (b : Nat) (y : Box) (cs : List Value) (hy : S.bx[b]? = some y) (hcs : y.row.val = some cs)
    (h : ∀ base E', Mem.le S.E E' → WinE E' base cs → Ct C n fn p n0 K (S.pub b y base E')) : Ct C n fn p n0 K S := by
  unfold Ct at *
  exact ⟨(AtP_pub (Φ := fun w0 mu ρ0 a w => mu.om = C.opt.om ∧ okE C.opt.om ρ0 → Code.wpIn Fence.wide 0 C.P _ (LiftQ w0 mu ρ0 _) a w) b y cs hy hcs fun base E' h1 h2 => ⟨(h base E' h1 h2).out⟩).out⟩

/-- What a callee hands back, handed out. -/
def pubB (K : KT) : KT := fun s bx E => pubW 16 [s] bx E fun ss bx2 E2 => match ss with
  | [s'] => K s' bx2 E2
  | _ => False

theorem CallSem.pubB {P : Program} {f : FuncId} {args : List SV} {bx : List Box} {E : Mem} {K : KT} (h : CallSem P f args bx E (pubB K)) : CallSem P f args bx E K := by
  refine fun w0 mu ρ w vs hR hv => ?_
  refine (h w0 mu ρ w vs hR hv).mono fun e w' hp => ?_
  obtain ⟨v, s, bx', E', ρ', rfl, hpre, hs, hR', hK⟩ := hp
  obtain ⟨ss, bx2, E2, h5, h6, h7⟩ := pubW_sound 16 [s] bx' E' [v] hK hR' (by simp only [SV.denL, hs])
  split at h7
  case h_2 => exact h7.elim
  rename_i s'
  refine ⟨v, s', bx2, E2, ρ', rfl, hpre, ?_, h6, h7⟩
  simp only [SV.denL] at h5
  split at h5
  · rename_i x ys e1 e2
    simp only [Option.some.injEq, List.cons.injEq] at e2 h5
    rw [e1, h5.1]
  · cases h5
end Go.Sx
