/- What functions of the program compute; plain lemmas on it. Conditions: none. -/
import Derived.Test.YtnjmojacdkjfoaaBb38
namespace Go.Proofs.Ytnjmojacdkjfoaa.BeaconOwn
open Go Go.Sx
set_option maxRecDepth 100000
set_option maxHeartbeats 4000000
set_option linter.unusedVariables false
set_option linter.unusedSimpArgs false
variable {E:Mem} {K:SV→Mem→Prop}
section
variable {xs ys:List (Int×Bc)} {x a b:Bc} {y:Int×Bc} {fr later:Int}
theorem noteF_nil:noteF [] x fr=([(fr,x)],0):=rfl
theorem posN_lt (h:y.2.from_<x.from_):posN (y::ys) x.from_=posN ys x.from_+1:=by
 unfold posN;rw [List.takeWhile_cons_of_pos (by simpa using h),List.length_cons]
theorem posN_ge (h:¬ y.2.from_<x.from_):posN (y::ys) x.from_=0:=by
 unfold posN;rw [List.takeWhile_cons_of_neg (by simpa using h)];rfl
theorem noteF_lt (h:y.2.from_<x.from_):noteF (y::ys) x fr=if (noteF ys x fr).2=0 then (y::(noteF ys x fr).1,0) else ([],14):=by
 unfold noteF
 rw [posN_lt h,List.getElem?_cons_succ]
 cases ys[posN ys x.from_]? with
 | none=>rw [if_pos rfl];rfl
 | some z=>
  dsimp only
  by_cases h1:z.2.from_=x.from_
  ·simp only [if_pos h1]
   by_cases h2:z.1>fr
   ·simp only [if_pos h2];rfl
   ·simp only [if_neg h2];rfl
  ·simp only [if_neg h1];rfl
theorem noteF_eq (h:y.2.from_=x.from_):noteF (y::ys) x fr=if y.1>fr then ([],14) else ((fr,x)::ys,0):=by
 unfold noteF
 rw [posN_ge (by omega),List.getElem?_cons_zero]
 dsimp only
 rw [if_pos h];rfl
theorem noteF_gt (h:x.from_<y.2.from_):noteF (y::ys) x fr=((fr,x)::y::ys,0):=by
 unfold noteF
 rw [posN_ge (by omega),List.getElem?_cons_zero]
 dsimp only
 rw [if_neg (by omega)];rfl
theorem noteF_two:∀ {xs:List (Int×Bc)},(noteF xs x fr).2=0∨noteF xs x fr=([],14)
 | []=>.inl rfl
 | y::ys=>by
  rcases Int.lt_trichotomy y.2.from_ x.from_ with h|h|h
  ·rw [noteF_lt h];split
   ·exact .inl rfl
   ·exact .inr rfl
  ·rw [noteF_eq h];split
   ·exact .inr rfl
   ·exact .inl rfl
  ·rw [noteF_gt h];exact .inl rfl
theorem note_same (hf:a.from_=b.from_):∀ {xs X:List (Int×Bc)},noteF xs a fr=(X,0)→(later<fr→(noteF X b later).2=14)∧(¬ later<fr→noteF X b later=noteF xs b later)
 | [],X,h=>by
  rw [noteF_nil] at h;cases h
  rw [noteF_eq (y:=(fr,a)) hf,noteF_nil]
  constructor
  ·intro g;rw [if_pos (by show fr>later;omega)]
  ·intro g;rw [if_neg (by show ¬ fr>later;omega)]
 | y::ys,X,h=>by
  rcases Int.lt_trichotomy y.2.from_ a.from_ with g|g|g
  ·rw [noteF_lt g] at h
   split at h
   case isFalse=>cases h
   rename_i g0
   cases h
   have e:noteF ys a fr=((noteF ys a fr).1,0):=by rw [← g0]
   have ih:=note_same hf e
   rw [noteF_lt (x:=b) (by omega),noteF_lt (x:=b) (by omega)]
   refine ⟨fun q=>?_,fun q=>?_⟩
   ·rw [ih.1 q,if_neg (by decide)]
   ·rw [ih.2 q]
  ·rw [noteF_eq g] at h
   split at h
   ·cases h
   rename_i g0
   cases h
   rw [noteF_eq (y:=(fr,a)) hf,noteF_eq (x:=b) (by omega)]
   refine ⟨fun q=>?_,fun q=>?_⟩
   ·rw [if_pos (by show fr>later;omega)]
   ·rw [if_neg (by show ¬ fr>later;omega),if_neg (by omega)]
  ·rw [noteF_gt g] at h
   cases h
   rw [noteF_eq (y:=(fr,a)) hf,noteF_gt (x:=b) (by omega)]
   refine ⟨fun q=>?_,fun q=>?_⟩
   ·rw [if_pos (by show fr>later;omega)]
   ·rw [if_neg (by show ¬ fr>later;omega)]
theorem note_comm (hf:a.from_≠b.from_):∀ {xs X:List (Int×Bc)},noteF xs a fr=(X,0)→(noteF X b later).2=(noteF xs b later).2∧((noteF xs b later).2=0→noteF (noteF xs b later).1 a fr=noteF X b later)
 | [],X,h=>by
  rw [noteF_nil] at h;cases h
  rw [noteF_nil]
  rcases Int.lt_or_gt_of_ne hf with g|g
  ·rw [noteF_lt (y:=(fr,a)) g,noteF_nil,if_pos rfl]
   exact ⟨rfl,fun _=>noteF_gt (y:=(later,b)) g⟩
  ·rw [noteF_gt (y:=(fr,a)) g]
   refine ⟨rfl,fun _=>?_⟩
   rw [noteF_lt (y:=(later,b)) g,noteF_nil,if_pos rfl]
 | y::ys,X,h=>by
  rcases Int.lt_trichotomy y.2.from_ a.from_ with g|g|g
  ·rw [noteF_lt g] at h
   split at h
   case isFalse=>cases h
   rename_i g0
   cases h
   have e:noteF ys a fr=((noteF ys a fr).1,0):=by rw [← g0]
   have ih:=note_comm hf e
   rcases Int.lt_trichotomy y.2.from_ b.from_ with k|k|k
   ·rw [noteF_lt k,noteF_lt k,ih.1]
    by_cases q:(noteF ys b later).2=0
    ·rw [if_pos q,if_pos q]
     refine ⟨rfl,fun _=>?_⟩
     rw [noteF_lt g,ih.2 q,ih.1,if_pos q]
    ·rw [if_neg q,if_neg q]
     exact ⟨rfl,fun q=>by cases q⟩
   ·rw [noteF_eq k,noteF_eq k]
    by_cases q:y.1>later
    ·rw [if_pos q,if_pos q];exact ⟨rfl,fun q=>by cases q⟩
    ·rw [if_neg q,if_neg q]
     refine ⟨rfl,fun _=>?_⟩
     rw [noteF_lt (y:=(later,b)) (by show b.from_<a.from_;omega),if_pos g0]
   ·rw [noteF_gt k,noteF_gt k]
    refine ⟨rfl,fun _=>?_⟩
    rw [noteF_lt (y:=(later,b)) (by show b.from_<a.from_;omega),noteF_lt g,if_pos g0,if_pos rfl]
  ·rw [noteF_eq g] at h
   split at h
   ·cases h
   rename_i g0
   cases h
   rcases Int.lt_or_gt_of_ne hf with k|k
   ·rw [noteF_lt (y:=(fr,a)) k,noteF_lt (x:=b) (by omega)]
    by_cases q:(noteF ys b later).2=0
    ·rw [if_pos q,if_pos q]
     refine ⟨rfl,fun _=>?_⟩
     rw [noteF_eq g,if_neg g0]
    ·rw [if_neg q,if_neg q];exact ⟨rfl,fun q=>by cases q⟩
   ·rw [noteF_gt (y:=(fr,a)) k,noteF_gt (x:=b) (by omega)]
    refine ⟨rfl,fun _=>?_⟩
    rw [noteF_lt (y:=(later,b)) k,noteF_eq g,if_neg g0,if_pos rfl]
  ·rw [noteF_gt g] at h
   cases h
   rcases Int.lt_or_gt_of_ne hf with k|k
   ·rw [noteF_lt (y:=(fr,a)) k]
    by_cases q:(noteF (y::ys) b later).2=0
    ·rw [if_pos q,q]
     refine ⟨rfl,fun _=>?_⟩
     rcases Int.lt_trichotomy y.2.from_ b.from_ with j|j|j
     ·rw [noteF_lt j] at q ⊢
      split at q
      case isFalse=>cases q
      rename_i j0
      rw [if_pos j0,noteF_gt g]
     ·rw [noteF_eq j] at q ⊢
      split at q
      ·cases q
      rename_i j0
      rw [if_neg j0,noteF_gt (y:=(later,b)) k]
     ·rw [noteF_gt j,noteF_gt (y:=(later,b)) k]
    ·rw [if_neg q]
     rcases noteF_two (xs:=y::ys) (x:=b) (fr:=later) with j|j
     ·exact absurd j q
     ·rw [j];exact ⟨rfl,fun q=>by cases q⟩
   ·rw [noteF_gt (y:=(fr,a)) k,noteF_gt (x:=b) (y:=y) (by omega)]
    refine ⟨rfl,fun _=>?_⟩
    rw [noteF_lt (y:=(later,b)) k,noteF_gt g,if_pos rfl]
def nbR (y:Int×Bc):Prop:=(0≤y.2.from_∧y.2.from_≤59)∧(0≤y.1∧y.1≤1000000000)
theorem nbOK_cons:nbOK (y::ys)↔nbR y∧(∀ z,ys[0]? =some z→y.2.from_<z.2.from_)∧nbOK ys:=by
 constructor
 ·intro h
  refine ⟨⟨(h 0 y rfl).1,(h 0 y rfl).2.1⟩,fun z hz=>(h 1 z hz).2.2 y (by decide) rfl,fun i z hz=>?_⟩
  have:=h (i+1) z hz
  refine ⟨this.1,this.2.1,fun w hi hw=>this.2.2 w (Nat.succ_pos _) ?_⟩
  rw [Nat.add_sub_cancel]
  cases i with
  | zero=>cases hi
  | succ i=>exact hw
 ·rintro ⟨h1,h2,h3⟩ i z hz
  cases i with
  | zero=>cases hz;exact ⟨h1.1,h1.2,fun w hi=>absurd hi (by decide)⟩
  | succ i=>
   have:=h3 i z hz
   refine ⟨this.1,this.2.1,fun w _ hw=>?_⟩
   rw [Nat.add_sub_cancel] at hw
   cases i with
   | zero=>cases hw;exact h2 z hz
   | succ i=>exact this.2.2 w (Nat.succ_pos _) hw
theorem noteF_head:∀ {xs X:List (Int×Bc)},noteF xs x fr=(X,0)→∀ z,X[0]? =some z→z.2.from_=x.from_∨xs[0]? =some z
 | [],X,h,z,hz=>by rw [noteF_nil] at h;cases h;cases hz;exact .inl rfl
 | y::ys,X,h,z,hz=>by
  rcases Int.lt_trichotomy y.2.from_ x.from_ with g|g|g
  ·rw [noteF_lt g] at h
   split at h
   ·cases h;exact .inr hz
   ·cases h
  ·rw [noteF_eq g] at h
   split at h
   ·cases h
   ·cases h;cases hz;exact .inl rfl
  ·rw [noteF_gt g] at h;cases h;cases hz;exact .inl rfl
theorem noteF_ok (hx:0≤x.from_∧x.from_≤59) (hfr:0≤fr∧fr≤1000000000):∀ {xs X:List (Int×Bc)},nbOK xs→noteF xs x fr=(X,0)→nbOK X
 | [],X,_,h=>by
  rw [noteF_nil] at h;cases h
  exact nbOK_cons.2 ⟨⟨hx,hfr⟩,fun z hz=>(by cases hz),fun i z hz=>by simp at hz⟩
 | y::ys,X,ho,h=>by
  obtain ⟨o1,o2,o3⟩:=nbOK_cons.1 ho
  rcases Int.lt_trichotomy y.2.from_ x.from_ with g|g|g
  ·rw [noteF_lt g] at h
   split at h
   case isFalse=>cases h
   rename_i g0
   cases h
   have e:noteF ys x fr=((noteF ys x fr).1,0):=by rw [← g0]
   refine nbOK_cons.2 ⟨o1,fun z hz=>?_,noteF_ok hx hfr o3 e⟩
   rcases noteF_head e z hz with k|k
   ·omega
   ·exact o2 z k
  ·rw [noteF_eq g] at h
   split at h
   ·cases h
   cases h
   exact nbOK_cons.2 ⟨⟨hx,hfr⟩,fun z hz=>(by have:=o2 z hz;show x.from_<_;omega),o3⟩
  ·rw [noteF_gt g] at h;cases h
   exact nbOK_cons.2 ⟨⟨hx,hfr⟩,fun z hz=>(by cases hz;exact g),ho⟩
theorem noteF_mem:∀ {xs X:List (Int×Bc)} {z:Int×Bc},noteF xs x fr=(X,0)→z∈X→z=(fr,x)∨z∈xs
 | [],X,z,h,hz=>by rw [noteF_nil] at h;cases h;exact .inl (List.mem_singleton.1 hz)
 | y::ys,X,z,h,hz=>by
  rcases Int.lt_trichotomy y.2.from_ x.from_ with g|g|g
  ·rw [noteF_lt g] at h
   split at h
   case isFalse=>cases h
   rename_i g0
   cases h
   have e:noteF ys x fr=((noteF ys x fr).1,0):=by rw [← g0]
   rcases List.mem_cons.1 hz with rfl|hz
   ·exact .inr (by simp)
   ·exact (noteF_mem e hz).imp_right (List.mem_cons_of_mem _)
  ·rw [noteF_eq g] at h
   split at h
   ·cases h
   cases h
   rcases List.mem_cons.1 hz with rfl|hz
   ·exact .inl rfl
   ·exact .inr (List.mem_cons_of_mem _ hz)
  ·rw [noteF_gt g] at h;cases h
   rcases List.mem_cons.1 hz with rfl|hz
   ·exact .inl rfl
   ·exact .inr hz
theorem noteF_len:∀ {xs X:List (Int×Bc)},noteF xs x fr=(X,0)→X.length≤xs.length+1
 | [],X,h=>by rw [noteF_nil] at h;cases h;simp
 | y::ys,X,h=>by
  rcases Int.lt_trichotomy y.2.from_ x.from_ with g|g|g
  ·rw [noteF_lt g] at h
   split at h
   case isFalse=>cases h
   rename_i g0
   cases h
   have e:noteF ys x fr=((noteF ys x fr).1,0):=by rw [← g0]
   have:=noteF_len e
   simp;omega
  ·rw [noteF_eq g] at h
   split at h
   ·cases h
   cases h;simp
  ·rw [noteF_gt g] at h;cases h;simp
end
def NoteOK (xs:List (Int×Bc)) (x:Bc) (fr:Int):Prop:=(enc x).2=false∧nbOK xs∧0≤fr∧fr≤1000000000
theorem NoteS.yes {xs:List (Int×Bc)} {x:Bc} {fr e:Int} {ys:List (Int×Bc)} (h:NoteS xs x fr ys e) (g:e=0):NoteOK xs x fr∧noteF xs x fr=(ys,0):=by
 by_cases k:NoteOK xs x fr
 ·exact ⟨k,by rw [← g];exact h.eq.1 k⟩
 ·have:=(h.eq.2 k).2;omega
theorem NoteS.no {xs:List (Int×Bc)} {x:Bc} {fr e:Int} {ys:List (Int×Bc)} (h:NoteS xs x fr ys e) (g:¬ e=0):ys=[]:=by
 by_cases k:NoteOK xs x fr
 ·have k2:=h.eq.1 k
  rcases noteF_two (xs:=xs) (x:=x) (fr:=fr) with j|j
  ·rw [k2] at j;exact absurd j g
  ·rw [k2] at j;cases j;rfl
 ·exact (h.eq.2 k).1
theorem NoteS.sm {xs:List (Int×Bc)} {x:Bc} {fr e:Int} {ys:List (Int×Bc)} (h:NoteS xs x fr ys e) (hs:∀ y∈xs,BcSm y.2) (hx:BcSm x):(∀ y∈ys,BcSm y.2)∧ys.length≤xs.length+1:=by
 by_cases g:e=0
 ·have k:=(h.yes g).2
  refine ⟨fun y hy=>?_,noteF_len k⟩
  rcases noteF_mem k hy with rfl|q
  ·exact hx
  ·exact hs y q
 ·have k:=h.no g
  subst k
  exact ⟨fun y hy=>(by cases hy),by simp⟩
theorem last_law {xs X Y Z:List (Int×Bc)} {a b:Bc} {fr la f g:Int} (n1:NoteS xs a fr X 0) (n2:NoteS X b la Y f) (n3:NoteS xs b la Z g):
  (a.from_=b.from_→(la<fr→f≠0)∧(¬ la<fr→f=g∧Y=Z))∧(a.from_≠b.from_→f=g∧(g=0→∀ W h,NoteS Z a fr W h→h=0∧W=Y)):=by
 obtain ⟨k1,q1⟩:=n1.yes rfl
 have okX:=noteF_ok (enc_from k1.1) k1.2.2 k1.2.1 q1
 by_cases k:NoteOK xs b la
 ·have p2:=n2.eq.1 ⟨k.1,okX,k.2.2⟩
  have p3:=n3.eq.1 k
  refine ⟨fun hf=>?_,fun hf=>?_⟩
  ·have:=note_same (later:=la) hf q1
   refine ⟨fun q=>?_,fun q=>?_⟩
   ·have:=this.1 q
    rw [p2] at this
    have this:f=14:=this
    omega
   ·have:=this.2 q
    rw [p2,p3] at this
    cases this;exact ⟨rfl,rfl⟩
  ·have:=note_comm (later:=la) hf q1
   rw [p2,p3] at this
   refine ⟨this.1,fun q W h nw=>?_⟩
   have g0:g=0:=q
   have okZ:=noteF_ok (enc_from k.1) k.2.2 k.2.1 (by rw [p3,g0])
   have e1:=nw.eq.1 ⟨k1.1,okZ,k1.2.2⟩
   have e2:=this.2 q
   rw [e2] at e1
   have e3:f=g:=this.1
   cases e1
   exact ⟨by omega,rfl⟩
 ·have p2:=n2.eq.2 (fun q=>k ⟨q.1,k1.2.1,q.2.2⟩)
  have p3:=n3.eq.2 k
  obtain ⟨rfl,rfl⟩:=p2
  obtain ⟨rfl,rfl⟩:=p3
  exact ⟨fun _=>⟨fun _=>by decide,fun _=>⟨rfl,rfl⟩⟩,fun _=>⟨rfl,fun q=>by cases q⟩⟩
noncomputable def R0:Cx:={ P:=Try.prog,inl:=fun f=>List.contains [] f,tab:=fun _ _ _ _=>False,isB:=fun _=>false,tabB:=fun _ _ _ _ _=>False,opt:={ unroll:=0,carry:=[] },muts:=mutsD }
theorem okR0:CxOK R0:=CxOK.four (fun _ _ _ _ h=>h.elim) (by kernel_rfl) (okInl (by kernel_rfl)) (fun _ _ _ _ _ h=>h.elim)
def inB (n lo hi:Int):Bool:=decide (lo≤n)&&decide (n≤hi)
theorem inB_iff {n lo hi:Int}:inB n lo hi=true↔lo≤n∧n≤hi:=by simp [inB]
theorem ss52 {n lo hi:Int} (h:K (B (inB n lo hi)) E):Ent R0 8 Try.f52 [I n,I lo,I hi] E K:=by
  refine same (by kernel_rfl) (?_:bif decide (n≥lo) then Mem.le E E∧K (B (bif true then decide (n≤hi) else false)) E else Mem.le E E∧K (B false) E)
  refine condC (fun g=>?_) (fun g=>?_)
  · have e : inB n lo hi = decide (n ≤ hi) := by have :lo≤n:=by simpa using g
                                                 simp [inB,this]
    rw [e] at h;exact ⟨Mem.le_refl _,h⟩
  · have e : inB n lo hi = false := by have :¬ lo≤n:=by simpa using g
                                       simp only [inB,this,decide_false,Bool.false_and]
    rw [e] at h;exact ⟨Mem.le_refl _,h⟩
theorem ss51 {n:Int} (h:K (B (inB n 0 1000000000)) E):Ent R0 8 Try.f51 [I n] E K:=by
  refine same (by kernel_rfl) (?_:bif decide (n≥(0:Int)) then Mem.le E E∧K (B (bif true then decide (n≤(1000000000:Int)) else false)) E else Mem.le E E∧K (B false) E)
  refine condC (fun g=>?_) (fun g=>?_)
  · have e : inB n 0 1000000000 = decide (n ≤ 1000000000) := by have :0≤n:=by simpa using g
                                                                simp [inB,this]
    rw [e] at h;exact ⟨Mem.le_refl _,h⟩
  · have e : inB n 0 1000000000 = false := by have :¬ 0≤n:=by simpa using g
                                              simp only [inB,this,decide_false,Bool.false_and]
    rw [e] at h;exact ⟨Mem.le_refl _,h⟩
noncomputable def tab52:FuncId→List SV→Mem→(SV→Mem→Prop)→Prop:=fun f args E K=>match f with
 | 52=>d3 args fun x0 x1 x2=>dI x0 fun n=>dI x1 fun lo=>dI x2 fun hi=>K (B (inB n lo hi)) E
 | 51=>d1 args fun x0=>dI x0 fun n=>K (B (inB n 0 1000000000)) E
 | _=>False
theorem tab52_ok:TabOK Try.prog tab52:=by
 intro f args E K h
 unfold tab52 at h
 split at h
 ·obtain ⟨x0,x1,x2,rfl,h1⟩:=d3_elim h
  obtain ⟨n,rfl,h2⟩:=dI_elim h1
  obtain ⟨lo,rfl,h3⟩:=dI_elim h2
  obtain ⟨hi,rfl,h4⟩:=dI_elim h3
  exact Ent.sem okR0 Try.func52 ⟨by kernel_rfl,by kernel_rfl⟩ rfl (ss52 h4)
 ·obtain ⟨x0,rfl,h1⟩:=d1_elim h
  obtain ⟨n,rfl,h2⟩:=dI_elim h1
  exact Ent.sem okR0 Try.func51 ⟨by kernel_rfl,by kernel_rfl⟩ rfl (ss51 h2)
 ·exact h.elim
noncomputable def R1:Cx:={ P:=Try.prog,inl:=fun f=>List.contains [] f,tab:=tab52,isB:=fun _=>false,tabB:=fun _ _ _ _ _=>False,opt:={ unroll:=0,carry:=[3] },muts:=mutsD }
theorem okR1:CxOK R1:=CxOK.four tab52_ok (by kernel_rfl) (okInl (by kernel_rfl)) (fun _ _ _ _ _ h=>h.elim)
def sh27 (b:Option Addr) (n c i:Nat) (E:Mem):St:=⟨[some (L b n c),none,none,some (I (i:Nat))]++List.replicate 47 none,[],E⟩
theorem rn27 {b:Option Addr} {n c i:Nat} {xs:List (Int×Bc)} (h0:SL NearR E b n c xs) (hn:n≤9223372036854775807) (hi:i≤n∧∀ (j:Nat) x,j<i→xs[j]? =some x→nbAt xs j x) (h:∀ v:Bool,(v=true↔nbOK xs)→K (B v) E)
  (ih:i<n→(∀ x,xs[i]? =some x→nbAt xs i x)→Lp R1 8 Try.f27 [1,0,1,0] 0 (pubK E K) (sh27 b n c (i+1) E)):Rnd R1 8 Try.f27 [1,0,1,0] 0 (pubK E K) (sh27 b n c i E):=by
 refine same (by kernel_rfl) (?_:bif decide ((NI i)<(NI n)) then req ((0:Int)≤(NI i)∧(NI i)<(NI n)) ((∃ (cs:List Value),E (VS b n c) cs∧(cs=[]→False))∧∃ (n_1:Int),LoadE R1.P E 3 (VS b n c) (Int.toNat (NI i)*31+1+0) (I n_1)∧Mem.le E E∧req ((0:Int)≤(NI i)∧(NI i)<(NI n)) ((∃ (cs:List Value),E (VS b n c) cs∧(cs=[]→False))∧∃ (n_2:Int),LoadE R1.P E 3 (VS b n c) (Int.toNat (NI i)*31+0) (I n_2)∧Mem.le E E∧bif !inB n_1 0 59 then Mem.le E E∧K (B false) E else bif bif false then true else !inB n_2 0 1000000000 then Mem.le E E∧K (B false) E else bif decide ((NI i)>(0:Int)) then req ((0:Int)≤WI ((NI i)-(1:Int))∧WI ((NI i)-(1:Int))<(NI n)) ((∃ (cs:List Value),E (VS b n c) cs∧(cs=[]→False))∧∃ (n_3:Int),LoadE R1.P E 3 (VS b n c) (Int.toNat (WI ((NI i)-(1:Int)))*31+1+0) (I n_3)∧req ((0:Int)≤(NI i)∧(NI i)<(NI n)) ((∃ (cs:List Value),E (VS b n c) cs∧(cs=[]→False))∧∃ (n_4:Int),LoadE R1.P E 3 (VS b n c) (Int.toNat (NI i)*31+1+0) (I n_4)∧bif bif false then true else bif true then decide (n_3≥n_4) else false then Mem.le E E∧K (B false) E else Lp R1 8 Try.f27 [1,0,1,0] 0 (pubK E K) { fr:=some (L b n c)::none::none::some (I (WI ((NI i)+(1:Int))))::no32 (no8 (no4 (no2 (none::[])))),bx:=[],E:=E:St })) else Lp R1 8 Try.f27 [1,0,1,0] 0 (pubK E K) { fr:=some (L b n c)::none::none::some (I (WI ((NI i)+(1:Int))))::no32 (no8 (no4 (no2 (none::[])))),bx:=[],E:=E:St })) else Mem.le E E∧K (B true) E)
 delta WI NI VS no2 no4 no8 no32
 have hl:=h0.len
 refine condC (fun g=>?_) (fun g=>⟨Mem.le_refl _,h true ⟨fun _ j x hx=>hi.2 j x (by have:=(List.getElem?_eq_some_iff.1 hx).1;simp at g;omega) hx,fun _=>rfl⟩⟩)
 have g:i<n:=by simpa using g
 have w:IntKind.wrap .i64 ((i:Int)+1)=((i+1:Nat):Int):=by rw [wrap_i64 (by omega)];omega
 obtain ⟨x,hx⟩:∃ x,xs[i]? =some x:=⟨_,List.getElem?_eq_getElem (by omega)⟩
 have no:¬ nbAt xs i x→Mem.le E E∧K (B false) E:=fun q=>⟨Mem.le_refl _,h false ⟨fun e=>(by cases e),fun e=>absurd (e i x hx) q⟩⟩
 have nx:nbAt xs i x→_:=fun q=>ih g (fun y hy=>by rw [hx] at hy;cases hy;exact q)
 refine req_intro (by omega) ⟨SL.ne NearR_ok h0 g,x.2.from_,near_from h0 hx,Mem.le_refl _,req_intro (by omega) ⟨SL.ne NearR_ok h0 g,x.1,near_frame h0 hx,Mem.le_refl _,?_⟩⟩
 rw [w]
 refine condC (fun g1=>no (fun q=>by have e:=inB_iff.2 q.1;simp [e] at g1)) (fun g1=>condC (fun g2=>no (fun q=>by have e:=inB_iff.2 q.2.1;simp [e] at g2)) (fun g2=>?_))
 have g1:=inB_iff.1 (by simpa using g1)
 have g2:=inB_iff.1 (by simpa using g2)
 refine condC (fun g5=>?_) (fun g5=>Lp_re [] (nx ⟨g1,g2,fun y hy=>by simp at g5;omega⟩) (wkH (Mem.le_refl _)))
 have g5:0<i:=by simpa using g5
 have w2:IntKind.wrap .i64 ((i:Int)-1)=((i-1:Nat):Int):=by rw [wrap_i64 (by omega)];omega
 obtain ⟨y,hy⟩:∃ y,xs[i-1]? =some y:=⟨_,List.getElem?_eq_getElem (by omega)⟩
 rw [w2]
 refine req_intro (by omega) ⟨SL.ne NearR_ok h0 g,y.2.from_,near_from h0 hy,req_intro (by omega) ⟨SL.ne NearR_ok h0 g,x.2.from_,near_from h0 hx,?_⟩⟩
 refine condC (fun g6=>no (fun q=>by have:=q.2.2 y g5 hy;simp at g6;omega)) (fun g6=>Lp_re [] (nx ⟨g1,g2,fun z _ hz=>by rw [hy] at hz;cases hz;simp at g6;omega⟩) (wkH (Mem.le_refl _)))
theorem ss27 {b:Option Addr} {n c:Nat} {xs:List (Int×Bc)} (h0:SL NearR E b n c xs) (hn:n≤9223372036854775807) (h:∀ v:Bool,(v=true↔nbOK xs)→K (B v) E):Ent R1 8 Try.f27 [L b n c] E K:=by
 refine same (by kernel_rfl) (?_:Lp R1 8 Try.f27 [1,0,1,0] 0 (pubK E K) { fr:=some (L b n c)::none::none::some (I 0)::no32 (no8 (no4 (no2 (none::[])))),bx:=[],E:=E:St })
 delta no2 no4 no8 no32
 exact Lp_re [] (Lp_ind okR1 (fun z:{i:Nat//i≤n∧∀ (j:Nat) x,j<i→xs[j]? =some x→nbAt xs j x}=>sh27 b n c z.1 E) (fun z=>n-z.1) (fun z ih=>rn27 h0 hn z.2 h fun g hf=>ih ⟨z.1+1,g,fun j x hj hx=>by
  rcases Nat.lt_succ_iff_lt_or_eq.1 hj with h1|h1
  ·exact z.2.2 j x h1 hx
  ·subst h1;exact hf x hx⟩ (by show n-(_+1)<n-_;omega)) ⟨0,Nat.zero_le _,fun j x hj=>absurd hj (Nat.not_lt_zero _)⟩) (wkH (Mem.le_refl _))
theorem ofN_find {xs:List (Int×Bc)} {p:Int}:ofN xs p=match xs.find? (fun x=>x.2.from_==p) with |some x=>(x.2,true)|none=>(zeroBc,false):=rfl
theorem note_find {x:Bc} {fr:Int}:∀ {xs X:List (Int×Bc)},noteF xs x fr=(X,0)→(X.find? (fun y=>y.2.from_==x.from_)=some (fr,x))∧∀ p,¬ p=x.from_→X.find? (fun y=>y.2.from_==p)=xs.find? (fun y=>y.2.from_==p)
 | [],X,h=>by
  rw [noteF_nil] at h;cases h
  exact ⟨by simp,fun p hp=>by simp [Ne.symm hp]⟩
 | y::ys,X,h=>by
  rcases Int.lt_trichotomy y.2.from_ x.from_ with g|g|g
  ·rw [noteF_lt g] at h
   split at h
   case isFalse=>cases h
   rename_i g0
   cases h
   have e:noteF ys x fr=((noteF ys x fr).1,0):=by rw [← g0]
   obtain ⟨i1,i2⟩:=note_find e
   refine ⟨?_,fun p hp=>?_⟩
   ·rw [List.find?_cons_of_neg (by simp;omega)];exact i1
   ·rw [List.find?_cons,List.find?_cons,i2 p hp]
  ·rw [noteF_eq g] at h
   split at h
   ·cases h
   cases h
   refine ⟨by simp,fun p hp=>?_⟩
   rw [List.find?_cons_of_neg (by simp;omega),List.find?_cons_of_neg (by simp;omega)]
  ·rw [noteF_gt g] at h;cases h
   refine ⟨by simp,fun p hp=>?_⟩
   rw [List.find?_cons_of_neg (by simp;omega)]
theorem note_of {x:Bc} {fr:Int} {xs X:List (Int×Bc)} (h:noteF xs x fr=(X,0)):ofN X x.from_=(x,true)∧∀ p,¬ p=x.from_→ofN X p=ofN xs p:=by
 obtain ⟨h1,h2⟩:=note_find h
 refine ⟨by rw [ofN_find,h1],fun p hp=>by rw [ofN_find,ofN_find,h2 p hp]⟩
theorem ofN_sm {xs:List (Int×Bc)} {p:Int} {y:Bc} {f:Bool} (h:ofN xs p=(y,f)) (hs:∀ x∈xs,BcSm x.2):BcSm y:=by
 rw [ofN_find] at h
 split at h
 ·rename_i x hx
  cases h;exact hs x (List.mem_of_find?_eq_some hx)
 ·cases h;exact sm_F 0
noncomputable def tabHe:FuncId→List SV→Mem→(SV→Mem→Prop)→Prop:=fun f args E K=>match f with
 | 27=>d1 args fun x0=>dS x0 fun b n c=>∃ xs,(SL NearR E b n c xs∧n≤9223372036854775807)∧∀ v:Bool,(v=true↔nbOK xs)→K (B v) E
 | f=>tabHd f args E K
theorem tabHe_ok:TabOK Try.prog tabHe:=by
 intro f args E K h
 unfold tabHe at h
 split at h
 ·obtain ⟨x0,rfl,h1⟩:=d1_elim h
  obtain ⟨b,n,c,rfl,xs,⟨hx,hn⟩,hk⟩:=dS_elim h1
  exact Ent.sem okR1 Try.func27 ⟨by kernel_rfl,by kernel_rfl⟩ rfl (ss27 hx hn hk)
 ·exact tabHd_ok _ _ _ _ h
def rowOK (its:List Item) (x:List Int):Bool:=its.all fun it=>match it.2 with
 | some r=>decide (r.1≤x.getD it.1 0∧x.getD it.1 0≤r.2)
 | none=>decide (x.getD it.1 0=0)
theorem wnum_iff {o:List Int×Bool} {v lo hi:Int}:(wnum o v lo hi).2=false↔o.2=false∧lo≤v∧v≤hi:=by
 refine ⟨good_num,fun h=>?_⟩
 rw [wnum_ok (by rw [h.1];rintro (q|q|q);omega;omega;cases q)]
theorem wuns_iff {o:List Int×Bool} {v:Int}:(wuns o v).2=false↔o.2=false∧v=0:=by simp [wuns]
theorem wdat_iff {o:List Int×Bool} {zs:List Int} {m:Int}:(wdat o zs m).2=false↔o.2=false∧(zs.length:Int)=m:=by simp [wdat]
theorem wdig_iff {o:List Int×Bool} {d:Int}:(wdig o d).2=false↔o.2=false:=Iff.rfl
theorem wflag_iff {o:List Int×Bool} {b:Bool}:(wnum o (if b then 1 else 0) 0 1).2=false↔o.2=false:=by
 rw [wnum_iff]
 cases b<;>simp
theorem weI_iff (x:List Int):∀ (its:List Item) {o:List Int×Bool},(its.foldl (wItem x) o).2=false↔o.2=false∧rowOK its x=true
 | [],o=>by simp [rowOK]
 | it::its,o=>by
  rw [List.foldl_cons,weI_iff x its]
  unfold wItem rowOK
  rw [List.all_cons,Bool.and_eq_true]
  obtain ⟨j,r⟩:=it
  cases r with
  | none=>simp only [wuns_iff,decide_eq_true_eq];exact and_assoc
  | some r=>simp only [wnum_iff,decide_eq_true_eq];exact and_assoc
theorem weF_iff {its:List Item}:∀ (xs:List (List Int)) {o:List Int×Bool},(xs.foldl (weI its) o).2=false↔o.2=false∧∀ r∈xs,rowOK its r=true
 | [],o=>by simp
 | x::xs,o=>by
  rw [List.foldl_cons,weF_iff xs,List.forall_mem_cons]
  unfold weI
  rw [weI_iff x its];exact and_assoc
theorem wLI_iff {its:List Item} {hi:Int} {o:List Int×Bool} {xs:List (List Int)}:(wList (weI its) hi o xs).2=false↔o.2=false∧(xs.length:Int)≤hi∧∀ r∈xs,rowOK its r=true:=by
 unfold wList
 split
 ·rw [wnum_iff]
  constructor
  ·intro h;omega
  ·intro h;omega
 ·rw [weF_iff,wnum_iff]
  constructor
  ·intro h;exact ⟨h.1.1,h.1.2.2,h.2⟩
  ·intro h;exact ⟨⟨h.1,by omega,h.2.1⟩,h.2.2⟩
theorem weDF:∀ (xs:List (List Int)) (o:List Int×Bool),(xs.foldl weD o).2=o.2
 | [],o=>rfl
 | x::xs,o=>by rw [List.foldl_cons,weDF xs];rfl
theorem wLD_iff {hi:Int} {o:List Int×Bool} {xs:List (List Int)}:(wList weD hi o xs).2=false↔o.2=false∧(xs.length:Int)≤hi:=by
 unfold wList
 split
 ·rw [wnum_iff]
  constructor<;>intro h<;>omega
 ·rw [weDF,wnum_iff]
  constructor
  ·intro h;exact ⟨h.1,h.2.2⟩
  ·intro h;exact ⟨h.1,by omega,h.2⟩
structure GoodA (x:Bc):Prop where
 from_:0≤x.from_∧x.from_≤59
 asn:0≤x.asn∧x.asn≤1000000000
 boot:0≤x.boot∧x.boot≤1000000000
 hops:0≤x.hops∧x.hops≤60
 bound:0≤x.bound∧x.bound≤2000
 fresh:0≤x.fresh∧x.fresh≤1000000000
 seq:0≤x.seq∧x.seq≤1000000000
 rank:0≤x.rank∧x.rank≤1000000
 parent: -1≤x.parent∧x.parent≤59
 first:0≤x.first∧x.first≤500002
 next:0≤x.next∧x.next≤500002
 uses:(x.uses.length:Int)≤24∧∀ r∈x.uses,rowOK [(0,some (0,59)),(1,some (0,15)),(2,some (0,59)),(3,some (0,1000000000))] r=true
 grants:(x.grants.length:Int)≤24∧∀ r∈x.grants,rowOK [(0,some (0,59)),(1,some (0,15)),(2,some (0,59)),(3,some (0,1000000000)),(4,some (0,1000000000))] r=true
 asks:(x.asks.length:Int)≤24∧∀ r∈x.asks,rowOK [(0,some (0,59)),(1,some (0,15)),(2,some (0,59))] r=true
 below:(x.below.length:Int)≤60∧∀ r∈x.below,rowOK [(0,some (0,59)),(2,some (0,1000000000)),(1,none),(3,none)] r=true
 words:(x.words.length:Int)≤4∧∀ r∈x.words,rowOK [(0,some (1,4)),(1,some (0,59)),(2,some (-1,59)),(3,some (0,10000000000000)),(4,some (0,10000000000000)),(5,some (0,2000000)),(6,some (0,500002)),(7,some (0,500002))] r=true
 mail:(x.mail.length:Int)≤1∧∀ r∈x.mail,rowOK [(0,some (1,4)),(1,some (0,59)),(2,some (-1,59)),(3,some (0,10000000000000)),(4,some (0,10000000000000)),(5,some (0,2000000)),(6,some (0,500002)),(7,some (0,500002))] r=true
 got:(x.got.length:Int)≤60∧∀ r∈x.got,rowOK [(0,some (0,59))] r=true
 nver:0≤x.nver∧x.nver≤1000000000
 size:0≤x.size∧x.size≤4096
 start:0≤x.start∧x.start≤1000000000
 pages:0≤x.pages∧x.pages≤16
 version:0≤x.version∧x.version≤1000000000
structure GoodB (x:Bc):Prop where
 page:0≤x.page∧x.page≤15
 seed:0≤x.seed∧x.seed≤1000000000
 data:(x.data.length:Int)=16
 proof:(x.proof.length:Int)≤5
theorem encA_iff {x:Bc}:(encA x).2=false↔GoodA x:=by
 unfold encA
 rw [wflag_iff,wnum_iff,wnum_iff,wnum_iff,wdig_iff,wnum_iff,wnum_iff,wLI_iff,wLI_iff,wLI_iff,wflag_iff,wLI_iff,wLI_iff,wLI_iff,wLI_iff,wnum_iff,wnum_iff,wnum_iff,wnum_iff,wnum_iff,wnum_iff,wnum_iff,wnum_iff,wnum_iff,wnum_iff,wnum_iff]
 constructor
 ·rintro ⟨⟨⟨⟨⟨⟨⟨⟨⟨⟨⟨⟨⟨⟨⟨⟨⟨⟨⟨⟨⟨⟨⟨_,h_from_⟩,h_asn⟩,h_boot⟩,h_hops⟩,h_bound⟩,h_fresh⟩,h_seq⟩,h_rank⟩,h_parent⟩,h_first⟩,h_next⟩,h_uses⟩,h_grants⟩,h_asks⟩,h_below⟩,h_words⟩,h_mail⟩,h_got⟩,h_nver⟩,h_size⟩,h_start⟩,h_pages⟩,h_version⟩
  exact ⟨h_from_,h_asn,h_boot,h_hops,h_bound,h_fresh,h_seq,h_rank,h_parent,h_first,h_next,h_uses,h_grants,h_asks,h_below,h_words,h_mail,h_got,h_nver,h_size,h_start,h_pages,h_version⟩
 ·rintro ⟨h_from_,h_asn,h_boot,h_hops,h_bound,h_fresh,h_seq,h_rank,h_parent,h_first,h_next,h_uses,h_grants,h_asks,h_below,h_words,h_mail,h_got,h_nver,h_size,h_start,h_pages,h_version⟩
  exact ⟨⟨⟨⟨⟨⟨⟨⟨⟨⟨⟨⟨⟨⟨⟨⟨⟨⟨⟨⟨⟨⟨⟨rfl,h_from_⟩,h_asn⟩,h_boot⟩,h_hops⟩,h_bound⟩,h_fresh⟩,h_seq⟩,h_rank⟩,h_parent⟩,h_first⟩,h_next⟩,h_uses⟩,h_grants⟩,h_asks⟩,h_below⟩,h_words⟩,h_mail⟩,h_got⟩,h_nver⟩,h_size⟩,h_start⟩,h_pages⟩,h_version⟩
theorem enc_iff {x:Bc}:(enc x).2=false↔GoodA x∧(if x.has=true then GoodB x else x.page=0∧x.seed=0∧x.data.length=0∧x.proof.length=0):=by
 unfold enc
 split
 ·rw [wLD_iff,wdat_iff,wnum_iff,wnum_iff,encA_iff]
  constructor
  ·rintro ⟨⟨⟨⟨h,h_page⟩,h_seed⟩,h_data⟩,h_proof⟩
   exact ⟨h,h_page,h_seed,h_data,h_proof⟩
  ·rintro ⟨h,h_page,h_seed,h_data,h_proof⟩
   exact ⟨⟨⟨⟨h,h_page⟩,h_seed⟩,h_data⟩,h_proof⟩
 ·rw [wuns_iff,wuns_iff,wuns_iff,encA_iff]
  constructor
  ·rintro ⟨⟨⟨h,h1⟩,h2⟩,h3⟩
   exact ⟨h,h1,h2,by omega,by omega⟩
  ·rintro ⟨h,h1,h2,h3,h4⟩
   exact ⟨⟨⟨h,h1⟩,h2⟩,by omega⟩
theorem len_num {o:List Int×Bool} {v lo hi:Int} (hb: -10000000000000≤lo∧hi≤10000000000000):(wnum o v lo hi).1.length≤o.1.length+7:=by
 unfold wnum
 split
 ·simp
 ·rename_i q
  have k:okN v:=by unfold okN;omega
  have:=(dig_len8 (zig_b k).1 (zig_lt k)).1
  rw [List.length_append];omega
theorem len_I (x:List Int):∀ (its:List Item) {o:List Int×Bool},itsOK its=true→(its.foldl (wItem x) o).1.length≤o.1.length+(its.filter fun it=>it.2.isSome).length*7
 | [],o,_=>by simp
 | it::its,o,h=>by
  unfold itsOK at h
  rw [List.all_cons,Bool.and_eq_true] at h
  rw [List.foldl_cons]
  have ih:=len_I x its (o:=wItem x o it) h.2
  obtain ⟨j,r⟩:=it
  cases r with
  | none=>
   rw [List.filter_cons_of_neg (by simp)]
   exact ih
  | some r=>
   rw [List.filter_cons_of_pos rfl,List.length_cons]
   have :(wItem x o (j,some r)).1.length≤o.1.length+7:=len_num (by simpa using h.1)
   omega
theorem len_F {F:List Int×Bool→List Int→List Int×Bool} {k:Nat} (hF:∀ o x,(F o x).1.length≤o.1.length+k):∀ (xs:List (List Int)) {o:List Int×Bool},(xs.foldl F o).1.length≤o.1.length+xs.length*k
 | [],o=>by simp
 | x::xs,o=>by
  have h1:=len_F hF xs (o:=F o x)
  have h2:=hF o x
  rw [List.foldl_cons,List.length_cons,Nat.add_mul];omega
theorem len_L {F:List Int×Bool→List Int→List Int×Bool} {k m:Nat} (hF:∀ o x,(F o x).1.length≤o.1.length+k) {hi:Int} {o:List Int×Bool} {xs:List (List Int)} (hm:hi≤(m:Int)) (hb:(m:Int)≤10000000000000):(wList F hi o xs).1.length≤o.1.length+(7+m*k):=by
 unfold wList
 have h0:=len_num (o:=o) (v:=(xs.length:Int)) (lo:=0) (hi:=hi) ⟨by decide,by omega⟩
 split
 ·omega
 ·have h1:=len_F hF xs (o:=wnum o xs.length 0 hi)
  have :xs.length*k≤m*k:=Nat.mul_le_mul_right k (by omega)
  omega
theorem len_dig {o:List Int×Bool} {d:Int}:(wdig o d).1.length≤o.1.length+8:=by unfold wdig;simp [digB]
theorem len_weD (o:List Int×Bool) (x:List Int):(weD o x).1.length≤o.1.length+8:=len_dig
theorem gen_num {o:List Int×Bool} {v lo hi:Int} {k:Nat} (hb: -10000000000000≤lo∧hi≤10000000000000) (h:o.1.length≤k):(wnum o v lo hi).1.length≤k+7:=Nat.le_trans (len_num hb) (by omega)
theorem gen_dig {o:List Int×Bool} {d:Int} {k:Nat} (h:o.1.length≤k):(wdig o d).1.length≤k+8:=Nat.le_trans len_dig (by omega)
theorem gen_L {F:List Int×Bool→List Int→List Int×Bool} {j m:Nat} (hF:∀ o x,(F o x).1.length≤o.1.length+j) {hi:Int} {o:List Int×Bool} {xs:List (List Int)} (hm:hi≤(m:Int)) (hb:(m:Int)≤10000000000000) {k:Nat} (h:o.1.length≤k):(wList F hi o xs).1.length≤k+(7+m*j):=Nat.le_trans (len_L hF hm hb) (by omega)
theorem gen_dat {o:List Int×Bool} {zs:List Int} {m:Int} {k:Nat} (h:o.1.length≤k) (hz:zs.length=16):(wdat o zs m).1.length≤k+16:=by unfold wdat;rw [List.length_append];omega
theorem encA_len (x:Bc):(encA x).1.length≤3739:=(gen_num (by decide) (gen_num (by decide) (gen_num (by decide) (gen_num (by decide) (gen_dig (gen_num (by decide) (gen_num (by decide) (gen_L (j:=7) (m:=60) (fun o x=>len_I x [(0,some (0,59))] (by decide)) (by decide) (by decide) (gen_L (j:=56) (m:=1) (fun o x=>len_I x [(0,some (1,4)),(1,some (0,59)),(2,some (-1,59)),(3,some (0,10000000000000)),(4,some (0,10000000000000)),(5,some (0,2000000)),(6,some (0,500002)),(7,some (0,500002))] (by decide)) (by decide) (by decide) (gen_L (j:=56) (m:=4) (fun o x=>len_I x [(0,some (1,4)),(1,some (0,59)),(2,some (-1,59)),(3,some (0,10000000000000)),(4,some (0,10000000000000)),(5,some (0,2000000)),(6,some (0,500002)),(7,some (0,500002))] (by decide)) (by decide) (by decide) (gen_num (by decide) (gen_L (j:=14) (m:=60) (fun o x=>len_I x [(0,some (0,59)),(2,some (0,1000000000)),(1,none),(3,none)] (by decide)) (by decide) (by decide) (gen_L (j:=21) (m:=24) (fun o x=>len_I x [(0,some (0,59)),(1,some (0,15)),(2,some (0,59))] (by decide)) (by decide) (by decide) (gen_L (j:=35) (m:=24) (fun o x=>len_I x [(0,some (0,59)),(1,some (0,15)),(2,some (0,59)),(3,some (0,1000000000)),(4,some (0,1000000000))] (by decide)) (by decide) (by decide) (gen_L (j:=28) (m:=24) (fun o x=>len_I x [(0,some (0,59)),(1,some (0,15)),(2,some (0,59)),(3,some (0,1000000000))] (by decide)) (by decide) (by decide) (gen_num (by decide) (gen_num (by decide) (gen_num (by decide) (gen_num (by decide) (gen_num (by decide) (gen_num (by decide) (gen_num (by decide) (gen_num (by decide) (gen_num (by decide) (gen_num (by decide) (gen_num (by decide) (Nat.le_refl 0)))))))))))))))))))))))))))
theorem enc_len {x:Bc} (h:(enc x).2=false):(enc x).1.length≤3816:=by
 have hg:=(enc_iff.1 h).2
 unfold enc
 split
 ·rename_i q
  rw [if_pos q] at hg
  have hz:x.data.length=16:=by have:=hg.data;omega
  exact (gen_L (j:=8) (m:=5) len_weD (by decide) (by decide) (gen_dat (gen_num (by decide) (gen_num (by decide) (encA_len x))) hz))
 ·exact Nat.le_trans (encA_len x) (by decide)
theorem dec_range {y:Bc} {F:List Int} {s':Int×Int} (hb:∀ z∈F,0≤z∧z≤255) (d:DecR F y s') (h0:s'.2=0):0≤s'.1∧s'.1≤F.length:=by
 obtain ⟨s1,s2,s3,s4,s5,s6,s7,s8,s9,s10,s11,s12,s13,s14,s15,s16,s17,s18,s19,s20,s21,s22,s23,s24,s25,s26,vf,vh,dA,dB⟩:=d
 have gA:=rA_of dA
 have wA:∀ a,s26=(a,0)→0≤a∧a≤F.length:=fun a e=>by
  rw [e] at gA
  obtain ⟨p1,p2,p3⟩:=stpA_.inv F 0 _ a hb gA (Int.le_refl _) (by omega)
  exact ⟨p1,p2⟩
 by_cases hy:y.has=true
 ·rw [if_pos hy] at dB
  obtain ⟨s27,s28,s29,dB⟩:=dB
  have gB:=rB_of dB
  obtain ⟨a,e⟩:=s26
  obtain ⟨a',e'⟩:=s'
  simp only at h0
  subst h0
  have e0:e=0:=by
   by_cases q:e=0
   ·exact q
   ·have:=stpB_.sticky F a e q
    rw [gB] at this
    simp only [Prod.mk.injEq] at this
    exact this.2.symm
  subst e0
  obtain ⟨a0,a1⟩:=wA a rfl
  obtain ⟨p1,p2,p3⟩:=stpB_.inv F a _ a' hb gB a0 a1
  exact ⟨Int.le_trans a0 p1,p2⟩
 ·rw [if_neg hy] at dB
  obtain ⟨h_page,h_seed,h_data,h_proof,hs2⟩:=dB
  subst hs2
  obtain ⟨a',e'⟩:=s'
  simp only at h0
  subst h0
  exact wA a' rfl
theorem good_sm {x:Bc} (h:(enc x).2=false):BcSm x:=by
 obtain ⟨hA,hB⟩:=enc_iff.1 h
 have h27:x.data.length≤100000∧x.proof.length≤100000:=by
  split at hB
  ·have:=hB.data;have:=hB.proof;omega
  ·omega
 exact ⟨by have:=hA.uses.1;omega,by have:=hA.grants.1;omega,by have:=hA.asks.1;omega,by have:=hA.below.1;omega,by have:=hA.words.1;omega,by have:=hA.mail.1;omega,by have:=hA.got.1;omega,h27.1,h27.2⟩
end Go.Proofs.Ytnjmojacdkjfoaa.BeaconOwn
