/- The law's proof: for every input the law answers true. Conditions: none. -/
import Derived.Test.YtdaakdbkmjgloaaGreatDz5
import Derived.OpenShut
import Derived.Test.YtdaakdbkmjgloaaGreatRows
namespace Go.Proofs.YtdaakdbkmjgloaaGreat.CustodyOwn
open Go Go.Sx Go.Proofs.YtdaakdbkmjgloaaGreat
set_option maxRecDepth 100000
set_option maxHeartbeats 4000000
set_option linter.all false
variable {E:Mem} {K:SV->Mem->Prop}
variable {zs:List Int} {s me:Int}
noncomputable def tabLz:FuncId->List SV->Mem->(SV->Mem->Prop)->Prop:=fun f args E K=>match f with
 | 4=>d0 args ((∀ E':Mem,Mem.le E E'->K (B true) E'))
 | 5=>d2 args fun x0 x1=>dC x0 fun l1=>d2 l1 fun x0_0 x0_1=>dI x0_0 fun a1=>dS x0_1 fun b2 l3 c4=>dI x1 fun a5=>∃ (zs:List Int),Bs E b2 l3 c4 zs/\(∀ (b':Option Addr) (l' c':Nat) (xs:List (List Int)) (cnt e:Int) (E':Mem),Mem.le E E'->Hyp (heldF a5 a1 zs=((xs,cnt),e))->SL (RK .i64 5) E' b' l' c' xs->l'<=16->K (.tup [L b' l' c',I cnt,I e]) E')
 | 7=>d2 args fun x0 x1=>dS x0 fun b1 l2 c3=>dS x1 fun b4 l5 c6=>∃ (xs:List (List Int)) (ys:List (List Int)),SL (RK .i64 5) E b1 l2 c3 xs/\SL (RK .i64 5) E b4 l5 c6 ys/\l2<=1000000/\(K (B (decide (xs=ys))) E)
 | 8=>d3 args fun x0 x1 x2=>dC x0 fun l1=>d2 l1 fun x0_0 x0_1=>dI x0_0 fun a1=>dS x0_1 fun b2 l3 c4=>dI x1 fun a5=>dC x2 fun l2=>d5 l2 fun x2_0 x2_1 x2_2 x2_3 x2_4=>dI x2_0 fun a6=>dI x2_1 fun a7=>dI x2_2 fun a8=>dI x2_3 fun a9=>dI x2_4 fun a10=>∃ (zs:List Int),Bs E b2 l3 c4 zs/\(∀ (b':Option Addr) (l' c':Nat) (ms:List (Int×List Int)) (e:Int) (E':Mem),Mem.le E E'->Hyp (takeF a5 a1 zs a6 a7 a8 a9 a10=(ms,e))->FL E' b' l' c' ms->K (.tup [L b' l' c',I e]) E')
 | 9=>d3 args fun x0 x1 x2=>dC x0 fun l1=>d2 l1 fun x0_0 x0_1=>dI x0_0 fun a1=>dS x0_1 fun b2 l3 c4=>dI x1 fun a5=>dC x2 fun l2=>d5 l2 fun x2_0 x2_1 x2_2 x2_3 x2_4=>dI x2_0 fun a6=>dI x2_1 fun a7=>dI x2_2 fun a8=>dI x2_3 fun a9=>dI x2_4 fun a10=>∃ (zs:List Int),Bs E b2 l3 c4 zs/\(∀ (b':Option Addr) (l' c':Nat) (ms:List (Int×List Int)) (e:Int) (E':Mem),Mem.le E E'->Hyp (takeF a5 a1 zs a6 a7 a8 a9 a10=(ms,e))->FL E' b' l' c' ms->K (.tup [L b' l' c',I e]) E')
 | 10=>d2 args fun x0 x1=>dS x0 fun b1 l2 c3=>dS x1 fun b4 l5 c6=>∃ (ms:List (Int×List Int)) (ns:List (Int×List Int)),FL E b1 l2 c3 ms/\FL E b4 l5 c6 ns/\(∀ m∈ms,m.2.length<=100000)/\l2<=100000/\(K (B (decide (ms=ns))) E)
 | 11=>d4 args fun x0 x1 x2 x3=>dC x0 fun l1=>d2 l1 fun x0_0 x0_1=>dI x0_0 fun a1=>dS x0_1 fun b2 l3 c4=>dI x1 fun a5=>dI x2 fun a6=>dI x3 fun a7=>∃ (zs:List Int),Bs E b2 l3 c4 zs/\(∀ (b':Option Addr) (l' c':Nat) (ms:List (Int×List Int)) (e:Int) (E':Mem),Mem.le E E'->Hyp (giveF a5 a1 zs a6 a7=(ms,e))->FL E' b' l' c' ms->K (.tup [L b' l' c',I e]) E')
 | 12=>d4 args fun x0 x1 x2 x3=>dC x0 fun l1=>d2 l1 fun x0_0 x0_1=>dI x0_0 fun a1=>dS x0_1 fun b2 l3 c4=>dI x1 fun a5=>dI x2 fun a6=>dI x3 fun a7=>∃ (zs:List Int),Bs E b2 l3 c4 zs/\(∀ (b':Option Addr) (l' c':Nat) (ms:List (Int×List Int)) (e:Int) (E':Mem),Mem.le E E'->Hyp (giveF a5 a1 zs a6 a7=(ms,e))->FL E' b' l' c' ms->K (.tup [L b' l' c',I e]) E')
 | _=>False
theorem tabLz_ok:TabOK Tryz.prog tabLz:=by
 intro f args E K h
 unfold tabLz at h
 split at h
 ·obtain ⟨rfl,h⟩:=d0_elim h
  exact TabSem.congr rfl (Ent.sem okQM Tryz.func4 ⟨by kernel_rfl,by kernel_rfl⟩ rfl (c7 h))
 ·replace h:=d2_elim h
  obtain ⟨x0,x1,rfl,h⟩:=h
  replace h:=dC_elim h
  obtain ⟨l1,hl1,h⟩:=h
  replace h:=d2_elim h
  obtain ⟨x0_0,x0_1,rfl,h⟩:=h
  replace h:=dI_elim h
  obtain ⟨a1,rfl,h⟩:=h
  replace h:=dS_elim h
  obtain ⟨b2,l3,c4,rfl,h⟩:=h
  replace h:=dI_elim h
  obtain ⟨a5,rfl,h⟩:=h
  obtain ⟨zs,g0,h⟩:=h
  exact TabSem.congr (valL_cons (asCells_val hl1) (valL_cons rfl rfl)) (Ent.sem okQE Tryz.func5 ⟨by kernel_rfl,by kernel_rfl⟩ rfl (c8 g0 h))
 ·replace h:=d2_elim h
  obtain ⟨x0,x1,rfl,h⟩:=h
  replace h:=dS_elim h
  obtain ⟨b1,l2,c3,rfl,h⟩:=h
  replace h:=dS_elim h
  obtain ⟨b4,l5,c6,rfl,h⟩:=h
  obtain ⟨xs,ys,g0,g1,g2,h⟩:=h
  exact TabSem.congr (valL_cons rfl (valL_cons rfl rfl)) (Ent.sem okQ9 Tryz.func7 ⟨by kernel_rfl,by kernel_rfl⟩ rfl (c27 g0 g1 g2 h))
 ·replace h:=d3_elim h
  obtain ⟨x0,x1,x2,rfl,h⟩:=h
  replace h:=dC_elim h
  obtain ⟨l1,hl1,h⟩:=h
  replace h:=d2_elim h
  obtain ⟨x0_0,x0_1,rfl,h⟩:=h
  replace h:=dI_elim h
  obtain ⟨a1,rfl,h⟩:=h
  replace h:=dS_elim h
  obtain ⟨b2,l3,c4,rfl,h⟩:=h
  replace h:=dI_elim h
  obtain ⟨a5,rfl,h⟩:=h
  replace h:=dC_elim h
  obtain ⟨l2,hl2,h⟩:=h
  replace h:=d5_elim h
  obtain ⟨x2_0,x2_1,x2_2,x2_3,x2_4,rfl,h⟩:=h
  replace h:=dI_elim h
  obtain ⟨a6,rfl,h⟩:=h
  replace h:=dI_elim h
  obtain ⟨a7,rfl,h⟩:=h
  replace h:=dI_elim h
  obtain ⟨a8,rfl,h⟩:=h
  replace h:=dI_elim h
  obtain ⟨a9,rfl,h⟩:=h
  replace h:=dI_elim h
  obtain ⟨a10,rfl,h⟩:=h
  obtain ⟨zs,g0,h⟩:=h
  exact TabSem.congr (valL_cons (asCells_val hl1) (valL_cons rfl (valL_cons (asCells_val hl2) rfl))) (Ent.sem okQG Tryz.func8 ⟨by kernel_rfl,by kernel_rfl⟩ rfl (c9 g0 h))
 ·replace h:=d3_elim h
  obtain ⟨x0,x1,x2,rfl,h⟩:=h
  replace h:=dC_elim h
  obtain ⟨l1,hl1,h⟩:=h
  replace h:=d2_elim h
  obtain ⟨x0_0,x0_1,rfl,h⟩:=h
  replace h:=dI_elim h
  obtain ⟨a1,rfl,h⟩:=h
  replace h:=dS_elim h
  obtain ⟨b2,l3,c4,rfl,h⟩:=h
  replace h:=dI_elim h
  obtain ⟨a5,rfl,h⟩:=h
  replace h:=dC_elim h
  obtain ⟨l2,hl2,h⟩:=h
  replace h:=d5_elim h
  obtain ⟨x2_0,x2_1,x2_2,x2_3,x2_4,rfl,h⟩:=h
  replace h:=dI_elim h
  obtain ⟨a6,rfl,h⟩:=h
  replace h:=dI_elim h
  obtain ⟨a7,rfl,h⟩:=h
  replace h:=dI_elim h
  obtain ⟨a8,rfl,h⟩:=h
  replace h:=dI_elim h
  obtain ⟨a9,rfl,h⟩:=h
  replace h:=dI_elim h
  obtain ⟨a10,rfl,h⟩:=h
  obtain ⟨zs,g0,h⟩:=h
  exact TabSem.congr (valL_cons (asCells_val hl1) (valL_cons rfl (valL_cons (asCells_val hl2) rfl))) (Ent.sem okR9 Tryz.func9 ⟨by kernel_rfl,by kernel_rfl⟩ rfl (zr9 g0 h))
 ·replace h:=d2_elim h
  obtain ⟨x0,x1,rfl,h⟩:=h
  replace h:=dS_elim h
  obtain ⟨b1,l2,c3,rfl,h⟩:=h
  replace h:=dS_elim h
  obtain ⟨b4,l5,c6,rfl,h⟩:=h
  obtain ⟨ms,ns,g0,g1,g2,g3,h⟩:=h
  exact TabSem.congr (valL_cons rfl (valL_cons rfl rfl)) (Ent.sem okFE Tryz.func10 ⟨by kernel_rfl,by kernel_rfl⟩ rfl (s20 g0 g1 g2 g3 h))
 ·replace h:=d4_elim h
  obtain ⟨x0,x1,x2,x3,rfl,h⟩:=h
  replace h:=dC_elim h
  obtain ⟨l1,hl1,h⟩:=h
  replace h:=d2_elim h
  obtain ⟨x0_0,x0_1,rfl,h⟩:=h
  replace h:=dI_elim h
  obtain ⟨a1,rfl,h⟩:=h
  replace h:=dS_elim h
  obtain ⟨b2,l3,c4,rfl,h⟩:=h
  replace h:=dI_elim h
  obtain ⟨a5,rfl,h⟩:=h
  replace h:=dI_elim h
  obtain ⟨a6,rfl,h⟩:=h
  replace h:=dI_elim h
  obtain ⟨a7,rfl,h⟩:=h
  obtain ⟨zs,g0,h⟩:=h
  exact TabSem.congr (valL_cons (asCells_val hl1) (valL_cons rfl (valL_cons rfl (valL_cons rfl rfl)))) (Ent.sem okQG Tryz.func11 ⟨by kernel_rfl,by kernel_rfl⟩ rfl (c11 g0 h))
 ·replace h:=d4_elim h
  obtain ⟨x0,x1,x2,x3,rfl,h⟩:=h
  replace h:=dC_elim h
  obtain ⟨l1,hl1,h⟩:=h
  replace h:=d2_elim h
  obtain ⟨x0_0,x0_1,rfl,h⟩:=h
  replace h:=dI_elim h
  obtain ⟨a1,rfl,h⟩:=h
  replace h:=dS_elim h
  obtain ⟨b2,l3,c4,rfl,h⟩:=h
  replace h:=dI_elim h
  obtain ⟨a5,rfl,h⟩:=h
  replace h:=dI_elim h
  obtain ⟨a6,rfl,h⟩:=h
  replace h:=dI_elim h
  obtain ⟨a7,rfl,h⟩:=h
  obtain ⟨zs,g0,h⟩:=h
  exact TabSem.congr (valL_cons (asCells_val hl1) (valL_cons rfl (valL_cons rfl (valL_cons rfl rfl)))) (Ent.sem okRA Tryz.func12 ⟨by kernel_rfl,by kernel_rfl⟩ rfl (zr12 g0 h))
 ·exact h.elim
noncomputable def WLz:Cx:={ P:=Tryz.prog,inl:=fun f=>List.contains [] f,tab:=tabLz,isB:=fun f=>f==6,tabB:=tabTz,opt:={ unroll:=0,carry:=[] },muts:=mutsD }
theorem okWLz:CxOK WLz:=CxOK.four tabLz_ok (by kernel_rfl) (okInl (by kernel_rfl)) tabTz_ok
theorem write_size {b:List Int} {st:List (List Int)×Int} (bz:∀ x∈zs,0<=x/\x<=255) (I:Inv me st) (hd:b.length<65536/\∀ x∈b,0<=x/\x<=255):∀ m∈(writeF me s zs st b).1,m.2.length=zs.length:=by
 unfold writeF
 split
 ·split
  ·intro m hm;cases hm
  ·split
   ·intro m hm;cases hm
   ·rename_i q
    exact fun m hm=>(compact_size bz (keep_sm (I.app q).1).1 m hm).2
 ·exact fun m hm=>(append_size bz hd m hm).2
theorem take_size {o n k v a:Int} (bz:∀ x∈zs,0<=x/\x<=255):∀ m∈(takeF me s zs o n k v a).1,m.2.length=zs.length:=by
 unfold takeF
 split
 ·intro m hm;cases hm
 split
 ·intro m hm;cases hm
 rename_i q
 split
 ·intro m hm;cases hm
 split
 ·intro m hm;cases hm
 split
 ·intro m hm;cases hm
 have on:=okN_take (by simpa using q)
 exact write_size bz (held_inv (st:=(heldF me s zs).1) (e:=(heldF me s zs).2) rfl) ⟨by have:=rec_len on;simp at this;omega,rec_byte on⟩
theorem give_size {o n:Int} (bz:∀ x∈zs,0<=x/\x<=255):∀ m∈(giveF me s zs o n).1,m.2.length=zs.length:=by
 unfold giveF
 split
 ·intro m hm;cases hm
 split
 ·intro m hm;cases hm
 rename_i q
 have I:=held_inv (me:=me) (s:=s) (zs:=zs) (st:=(heldF me s zs).1) (e:=(heldF me s zs).2) rfl
 have on:=any_okN I (idx_any.1 (Int.not_lt.1 q))
 exact write_size bz I ⟨by have:=rec_len on;simp at this;omega,rec_byte on⟩
theorem e3 {a1:Int} {b1:Option Addr} {l1:Nat} {c1:Nat} {z1:List Int} {a2:Int} {a3:Int} {a4:Int} {a5:Int} {a6:Int} {a7:Int} {a8:Int} {a9:Int} (ha1:(Lit.int .i64 a1).wf=true) (hB1:Bs E b1 l1 c1 z1) (ha2:(Lit.int .i64 a2).wf=true) (ha3:(Lit.int .i64 a3).wf=true) (ha4:(Lit.int .i64 a4).wf=true) (ha5:(Lit.int .i64 a5).wf=true) (ha6:(Lit.int .i64 a6).wf=true) (ha7:(Lit.int .i64 a7).wf=true) (ha8:(Lit.int .i64 a8).wf=true) (ha9:(Lit.int .i64 a9).wf=true) (h:∀ E':Mem,Mem.le E E'->K (B true) E'):
  Ent WLz 8 Tryz.f3 [.agg [I a1,L b1 l1 c1],I a2,.agg [I a3,I a4,I a5,I a6,I a7],I a8,I a9] E K:=by
 refine sm_ (?_:∀ (E':Mem),Mem.le E E'->Mem.le E E'/\bif decide ((↑l1:Int)>(16384:Int)) then Mem.le E E'/\K (B true) E' else ∃ (zs:List Int),Bs E' b1 l1 c1 zs/\∀ (b':Option Addr) (l' c':Nat) (xs:List (List Int)) (cnt e:Int) (E'_1:Mem),Mem.le E' E'_1->Hyp (heldF a2 a1 zs=((xs,cnt),e))->SL (RK IntKind.i64 5) E'_1 b' l' c' xs->l'<=16->Mem.le E' E'_1/\∃ (zs:List Int),Bs E'_1 b1 l1 c1 zs/\(∀ (e_1:Int) (E':Mem),Mem.le E'_1 E'->Hyp (heldF a2 a1 zs=(([],(0:Int)),e_1))->Hyp (e_1≠(0:Int))->Mem.le E'_1 E'/\∃ (xs:List (List Int)),∃ (ys:List (List Int)),SL (RK IntKind.i64 5) E' b' l' c' xs/\SL (RK IntKind.i64 5) E' none 0 0 ys/\l'<=1000000/\Mem.le E' E'/\bif bif true then decide (xs=ys) else false then bif bif true then cnt==(0:Int) else false then ∃ (zs:List Int),Bs E' b1 l1 c1 zs/\∀ (b':Option Addr) (l' c':Nat) (ms:List (Int×List Int)) (e_2:Int) (E'_2:Mem),Mem.le E' E'_2->Hyp (takeF a2 a1 zs a3 a4 a5 a6 a7=(ms,e_2))->FL E'_2 b' l' c' ms->Mem.le E' E'_2/\∃ (zs:List Int),Bs E'_2 b1 l1 c1 zs/\∀ (b'_1:Option Addr) (l'_1 c'_1:Nat) (ms:List (Int×List Int)) (e_3:Int) (E':Mem),Mem.le E'_2 E'->Hyp (takeF a2 a1 zs a3 a4 a5 a6 a7=(ms,e_3))->FL E' b'_1 l'_1 c'_1 ms->Mem.le E'_2 E'/\bif bif true then e==e_1 else false then ∃ (ms:List (Int×List Int)),∃ (ns:List (Int×List Int)),FL E' b' l' c' ms/\FL E' b'_1 l'_1 c'_1 ns/\(∀ (m:Int×List Int),List.Mem m ms->List.length m.snd<=100000)/\l'<=100000/\Mem.le E' E'/\bif bif true then decide (ms=ns) else false then ∃ (zs:List Int),Bs E' b1 l1 c1 zs/\∀ (b':Option Addr) (l' c':Nat) (ms:List (Int×List Int)) (e:Int) (E'_3:Mem),Mem.le E' E'_3->Hyp (giveF a2 a1 zs a8 a9=(ms,e))->FL E'_3 b' l' c' ms->Mem.le E' E'_3/\∃ (zs:List Int),Bs E'_3 b1 l1 c1 zs/\∀ (b'_2:Option Addr) (l'_2 c'_2:Nat) (ms:List (Int×List Int)) (e_4:Int) (E':Mem),Mem.le E'_3 E'->Hyp (giveF a2 a1 zs a8 a9=(ms,e_4))->FL E' b'_2 l'_2 c'_2 ms->Mem.le E'_3 E'/\bif bif true then e_2==e_3 else false then ∃ (ms:List (Int×List Int)),∃ (ns:List (Int×List Int)),FL E' b' l' c' ms/\FL E' b'_2 l'_2 c'_2 ns/\(∀ (m:Int×List Int),List.Mem m ms->List.length m.snd<=(100000:Nat))/\l'<=(100000:Nat)/\Mem.le E' E'/\bif bif true then decide (ms=ns) else false then Mem.le E E'/\K (B (bif true then e==e_4 else false)) E' else Mem.le E E'/\K (B false) E' else Mem.le E E'/\K (B false) E' else ∃ (zs:List Int),Bs E' b1 l1 c1 zs/\∀ (b':Option Addr) (l' c':Nat) (ms:List (Int×List Int)) (e:Int) (E'_3:Mem),Mem.le E' E'_3->Hyp (giveF a2 a1 zs a8 a9=(ms,e))->FL E'_3 b' l' c' ms->Mem.le E' E'_3/\∃ (zs:List Int),Bs E'_3 b1 l1 c1 zs/\∀ (b':Option Addr) (l' c':Nat) (ms:List (Int×List Int)) (e:Int) (E':Mem),Mem.le E'_3 E'->Hyp (giveF a2 a1 zs a8 a9=(ms,e))->FL E' b' l' c' ms->Mem.le E'_3 E'/\Mem.le E E'/\K (B false) E' else ∃ (zs:List Int),Bs E' b1 l1 c1 zs/\∀ (b':Option Addr) (l' c':Nat) (ms:List (Int×List Int)) (e:Int) (E'_3:Mem),Mem.le E' E'_3->Hyp (giveF a2 a1 zs a8 a9=(ms,e))->FL E'_3 b' l' c' ms->Mem.le E' E'_3/\∃ (zs:List Int),Bs E'_3 b1 l1 c1 zs/\∀ (b':Option Addr) (l' c':Nat) (ms:List (Int×List Int)) (e:Int) (E':Mem),Mem.le E'_3 E'->Hyp (giveF a2 a1 zs a8 a9=(ms,e))->FL E' b' l' c' ms->Mem.le E'_3 E'/\Mem.le E E'/\K (B false) E' else ∃ (zs:List Int),Bs E' b1 l1 c1 zs/\∀ (b':Option Addr) (l' c':Nat) (ms:List (Int×List Int)) (e:Int) (E'_2:Mem),Mem.le E' E'_2->Hyp (takeF a2 a1 zs a3 a4 a5 a6 a7=(ms,e))->FL E'_2 b' l' c' ms->Mem.le E' E'_2/\∃ (zs:List Int),Bs E'_2 b1 l1 c1 zs/\∀ (b':Option Addr) (l' c':Nat) (ms:List (Int×List Int)) (e:Int) (E':Mem),Mem.le E'_2 E'->Hyp (takeF a2 a1 zs a3 a4 a5 a6 a7=(ms,e))->FL E' b' l' c' ms->Mem.le E'_2 E'/\∃ (zs:List Int),Bs E' b1 l1 c1 zs/\∀ (b':Option Addr) (l' c':Nat) (ms:List (Int×List Int)) (e:Int) (E'_3:Mem),Mem.le E' E'_3->Hyp (giveF a2 a1 zs a8 a9=(ms,e))->FL E'_3 b' l' c' ms->Mem.le E' E'_3/\∃ (zs:List Int),Bs E'_3 b1 l1 c1 zs/\∀ (b':Option Addr) (l' c':Nat) (ms:List (Int×List Int)) (e:Int) (E':Mem),Mem.le E'_3 E'->Hyp (giveF a2 a1 zs a8 a9=(ms,e))->FL E' b' l' c' ms->Mem.le E'_3 E'/\Mem.le E E'/\K (B false) E' else ∃ (zs:List Int),Bs E' b1 l1 c1 zs/\∀ (b':Option Addr) (l' c':Nat) (ms:List (Int×List Int)) (e:Int) (E'_2:Mem),Mem.le E' E'_2->Hyp (takeF a2 a1 zs a3 a4 a5 a6 a7=(ms,e))->FL E'_2 b' l' c' ms->Mem.le E' E'_2/\∃ (zs:List Int),Bs E'_2 b1 l1 c1 zs/\∀ (b':Option Addr) (l' c':Nat) (ms:List (Int×List Int)) (e:Int) (E':Mem),Mem.le E'_2 E'->Hyp (takeF a2 a1 zs a3 a4 a5 a6 a7=(ms,e))->FL E' b' l' c' ms->Mem.le E'_2 E'/\∃ (zs:List Int),Bs E' b1 l1 c1 zs/\∀ (b':Option Addr) (l' c':Nat) (ms:List (Int×List Int)) (e:Int) (E'_3:Mem),Mem.le E' E'_3->Hyp (giveF a2 a1 zs a8 a9=(ms,e))->FL E'_3 b' l' c' ms->Mem.le E' E'_3/\∃ (zs:List Int),Bs E'_3 b1 l1 c1 zs/\∀ (b':Option Addr) (l' c':Nat) (ms:List (Int×List Int)) (e:Int) (E':Mem),Mem.le E'_3 E'->Hyp (giveF a2 a1 zs a8 a9=(ms,e))->FL E' b' l' c' ms->Mem.le E'_3 E'/\Mem.le E E'/\K (B false) E')/\∀ (xs:List (List Int)) (cnt_1:Int) (m cap tot:Nat) (js:List Value) (E':Mem),Mem.le E'_1 E'->Hyp (heldF a2 a1 zs=((xs,cnt_1),(0:Int)))->List.length xs=m->m<=cap->cap*5<=tot->(∀ (v:Value),List.Mem v js->Value.oneCell' v=true)->Mem.le E'_1 E'/\∀ (base:Option Addr) (E'_2:Mem),Mem.le E' E'_2->WinE E'_2 base (vR xs++js)->∃ (xs:List (List Int)),∃ (ys:List (List Int)),SL (RK IntKind.i64 5) E'_2 b' l' c' xs/\SL (RK IntKind.i64 5) E'_2 (Option.map (fun (x:Addr)=>Addr.add x 0) base) m cap ys/\l'<=1000000/\bif bif true then decide (xs=ys) else false then bif bif true then cnt==cnt_1 else false then ∃ (zs:List Int),Bs E'_2 b1 l1 c1 zs/\∀ (b':Option Addr) (l' c':Nat) (ms:List (Int×List Int)) (e_1:Int) (E':Mem),Mem.le E'_2 E'->Hyp (takeF a2 a1 zs a3 a4 a5 a6 a7=(ms,e_1))->FL E' b' l' c' ms->Mem.le E'_2 E'/\∃ (zs:List Int),Bs E' b1 l1 c1 zs/\∀ (b'_1:Option Addr) (l'_1 c'_1:Nat) (ms:List (Int×List Int)) (e_2:Int) (E'_3:Mem),Mem.le E' E'_3->Hyp (takeF a2 a1 zs a3 a4 a5 a6 a7=(ms,e_2))->FL E'_3 b'_1 l'_1 c'_1 ms->Mem.le E' E'_3/\bif bif true then e==(0:Int) else false then ∃ (ms:List (Int×List Int)),∃ (ns:List (Int×List Int)),FL E'_3 b' l' c' ms/\FL E'_3 b'_1 l'_1 c'_1 ns/\(∀ (m:Int×List Int),List.Mem m ms->List.length m.snd<=(100000:Nat))/\l'<=(100000:Nat)/\Mem.le E'_3 E'_3/\bif bif true then decide (ms=ns) else false then ∃ (zs:List Int),Bs E'_3 b1 l1 c1 zs/\∀ (b':Option Addr) (l' c':Nat) (ms:List (Int×List Int)) (e:Int) (E':Mem),Mem.le E'_3 E'->Hyp (giveF a2 a1 zs a8 a9=(ms,e))->FL E' b' l' c' ms->Mem.le E'_3 E'/\∃ (zs:List Int),Bs E' b1 l1 c1 zs/\∀ (b'_2:Option Addr) (l'_2 c'_2:Nat) (ms:List (Int×List Int)) (e_3:Int) (E'_4:Mem),Mem.le E' E'_4->Hyp (giveF a2 a1 zs a8 a9=(ms,e_3))->FL E'_4 b'_2 l'_2 c'_2 ms->Mem.le E' E'_4/\bif bif true then e_1==e_2 else false then ∃ (ms:List (Int×List Int)),∃ (ns:List (Int×List Int)),FL E'_4 b' l' c' ms/\FL E'_4 b'_2 l'_2 c'_2 ns/\(∀ (m:Int×List Int),List.Mem m ms->List.length m.snd<=(100000:Nat))/\l'<=(100000:Nat)/\Mem.le E'_4 E'_4/\bif bif true then decide (ms=ns) else false then Mem.le E E'_4/\K (B (bif true then e==e_3 else false)) E'_4 else Mem.le E E'_4/\K (B false) E'_4 else Mem.le E E'_4/\K (B false) E'_4 else ∃ (zs:List Int),Bs E'_3 b1 l1 c1 zs/\∀ (b':Option Addr) (l' c':Nat) (ms:List (Int×List Int)) (e:Int) (E':Mem),Mem.le E'_3 E'->Hyp (giveF a2 a1 zs a8 a9=(ms,e))->FL E' b' l' c' ms->Mem.le E'_3 E'/\∃ (zs:List Int),Bs E' b1 l1 c1 zs/\∀ (b':Option Addr) (l' c':Nat) (ms:List (Int×List Int)) (e:Int) (E'_4:Mem),Mem.le E' E'_4->Hyp (giveF a2 a1 zs a8 a9=(ms,e))->FL E'_4 b' l' c' ms->Mem.le E' E'_4/\Mem.le E E'_4/\K (B false) E'_4 else ∃ (zs:List Int),Bs E'_3 b1 l1 c1 zs/\∀ (b':Option Addr) (l' c':Nat) (ms:List (Int×List Int)) (e:Int) (E':Mem),Mem.le E'_3 E'->Hyp (giveF a2 a1 zs a8 a9=(ms,e))->FL E' b' l' c' ms->Mem.le E'_3 E'/\∃ (zs:List Int),Bs E' b1 l1 c1 zs/\∀ (b':Option Addr) (l' c':Nat) (ms:List (Int×List Int)) (e:Int) (E'_4:Mem),Mem.le E' E'_4->Hyp (giveF a2 a1 zs a8 a9=(ms,e))->FL E'_4 b' l' c' ms->Mem.le E' E'_4/\Mem.le E E'_4/\K (B false) E'_4 else ∃ (zs:List Int),Bs E'_2 b1 l1 c1 zs/\∀ (b':Option Addr) (l' c':Nat) (ms:List (Int×List Int)) (e:Int) (E':Mem),Mem.le E'_2 E'->Hyp (takeF a2 a1 zs a3 a4 a5 a6 a7=(ms,e))->FL E' b' l' c' ms->Mem.le E'_2 E'/\∃ (zs:List Int),Bs E' b1 l1 c1 zs/\∀ (b':Option Addr) (l' c':Nat) (ms:List (Int×List Int)) (e:Int) (E'_3:Mem),Mem.le E' E'_3->Hyp (takeF a2 a1 zs a3 a4 a5 a6 a7=(ms,e))->FL E'_3 b' l' c' ms->Mem.le E' E'_3/\∃ (zs:List Int),Bs E'_3 b1 l1 c1 zs/\∀ (b':Option Addr) (l' c':Nat) (ms:List (Int×List Int)) (e:Int) (E':Mem),Mem.le E'_3 E'->Hyp (giveF a2 a1 zs a8 a9=(ms,e))->FL E' b' l' c' ms->Mem.le E'_3 E'/\∃ (zs:List Int),Bs E' b1 l1 c1 zs/\∀ (b':Option Addr) (l' c':Nat) (ms:List (Int×List Int)) (e:Int) (E'_4:Mem),Mem.le E' E'_4->Hyp (giveF a2 a1 zs a8 a9=(ms,e))->FL E'_4 b' l' c' ms->Mem.le E' E'_4/\Mem.le E E'_4/\K (B false) E'_4 else ∃ (zs:List Int),Bs E'_2 b1 l1 c1 zs/\∀ (b':Option Addr) (l' c':Nat) (ms:List (Int×List Int)) (e:Int) (E':Mem),Mem.le E'_2 E'->Hyp (takeF a2 a1 zs a3 a4 a5 a6 a7=(ms,e))->FL E' b' l' c' ms->Mem.le E'_2 E'/\∃ (zs:List Int),Bs E' b1 l1 c1 zs/\∀ (b':Option Addr) (l' c':Nat) (ms:List (Int×List Int)) (e:Int) (E'_3:Mem),Mem.le E' E'_3->Hyp (takeF a2 a1 zs a3 a4 a5 a6 a7=(ms,e))->FL E'_3 b' l' c' ms->Mem.le E' E'_3/\∃ (zs:List Int),Bs E'_3 b1 l1 c1 zs/\∀ (b':Option Addr) (l' c':Nat) (ms:List (Int×List Int)) (e:Int) (E':Mem),Mem.le E'_3 E'->Hyp (giveF a2 a1 zs a8 a9=(ms,e))->FL E' b' l' c' ms->Mem.le E'_3 E'/\∃ (zs:List Int),Bs E' b1 l1 c1 zs/\∀ (b':Option Addr) (l' c':Nat) (ms:List (Int×List Int)) (e:Int) (E'_4:Mem),Mem.le E' E'_4->Hyp (giveF a2 a1 zs a8 a9=(ms,e))->FL E'_4 b' l' c' ms->Mem.le E' E'_4/\Mem.le E E'_4/\K (B false) E'_4)
 refine fun EA kA=>⟨kA,condC (fun _=>⟨kA,h EA kA⟩) (fun g=>?_)⟩
 have bz:=hB1.2.2.2.1
 have nz:=hB1.2.1
 have g:l1<=16384:=by simp at g;omega
 refine ⟨z1,hB1.mono kA,fun bB lB cB xs cnt e EB kB nB SB lB'=>⟨kB,z1,hB1.mono (mt_ kA kB),fun e1 EC kC q1 q2=>⟨kC,?A⟩,fun xs2 cnt2 m cap tot js EC kC q1 hx hc1 hc2 hj=>⟨kC,fun base ED kD wD=>?B⟩⟩⟩
 case' A=>
  have nB:heldF a2 a1 z1=((xs,cnt),e):=nB
  have q1:heldF a2 a1 z1=(([],0),e1):=q1
  rw [q1] at nB
  obtain ⟨v1,v2⟩:=Prod.mk.inj nB
  obtain ⟨v3,v4⟩:=Prod.mk.inj v1
  subst v2;subst v3;subst v4
  have kx:=mt_ kA (mt_ kB kC)
  refine ⟨[],[],SB.mono (RK_ok .i64 (by decide)) kC,SL.nil,by omega,mr_,condC (fun _=>condC (fun _=>?_) (fun v=>absurd v (by simp))) (fun v=>absurd v (by simp))⟩
 case' B=>
  have nB:heldF a2 a1 z1=((xs,cnt),e):=nB
  have q1:heldF a2 a1 z1=((xs2,cnt2),0):=q1
  rw [q1] at nB
  obtain ⟨v1,v2⟩:=Prod.mk.inj nB
  obtain ⟨v3,v4⟩:=Prod.mk.inj v1
  subst v2;subst v3;subst v4
  have w5:W5 xs2:=(held_inv q1).w5
  have kx:=mt_ kA (mt_ kB (mt_ kC kD))
  refine ⟨xs2,xs2,SB.mono (RK_ok .i64 (by decide)) (mt_ kC kD),vR_winJ w5 hx hc1 wD,by omega,condC (fun _=>condC (fun _=>?_) (fun v=>absurd v (by simp))) (fun v=>absurd v (by simp))⟩
 all_goals
  refine ⟨z1,hB1.mono kx,fun bT lT cT mT eT ET kT nT FT=>⟨kT,z1,hB1.mono (mt_ kx kT),fun bU lU cU mU eU EU kU nU FU=>⟨kU,?_⟩⟩⟩
  have nT:takeF a2 a1 z1 a3 a4 a5 a6 a7=(mT,eT):=nT
  have nU:takeF a2 a1 z1 a3 a4 a5 a6 a7=(mU,eU):=nU
  rw [nT] at nU
  obtain ⟨u1,u2⟩:=Prod.mk.inj nU
  subst u1;subst u2
  have tn:=take_num a2 a1 z1 a3 a4 a5 a6 a7
  have ts:=take_size (me:=a2) (s:=a1) (o:=a3) (n:=a4) (k:=a5) (v:=a6) (a:=a7) bz
  rw [nT] at tn ts
  have tn:mT.length<=40000:=tn
  have lT':=FT.len
  refine condC (fun _=>⟨mT,mT,FT.mono kU,FU,fun m hm=>by have:=ts m hm;omega,by omega,mr_,condC (fun _=>?_) (fun v=>absurd v (by simp))⟩) (fun v=>absurd v (by simp))
  have ku:=mt_ kx (mt_ kT kU)
  refine ⟨z1,hB1.mono ku,fun bV lV cV mV eV EV kV nV FV=>⟨kV,z1,hB1.mono (mt_ ku kV),fun bW lW cW mW eW EW kW nW FW=>⟨kW,?_⟩⟩⟩
  have nV:giveF a2 a1 z1 a8 a9=(mV,eV):=nV
  have nW:giveF a2 a1 z1 a8 a9=(mW,eW):=nW
  rw [nV] at nW
  obtain ⟨u3,u4⟩:=Prod.mk.inj nW
  subst u3;subst u4
  have gn:=give_num a2 a1 z1 a8 a9
  have gs:=give_size (me:=a2) (s:=a1) (o:=a8) (n:=a9) bz
  rw [nV] at gn gs
  have gn:mV.length<=40000:=gn
  have lV':=FV.len
  have kw:=mt_ ku (mt_ kV kW)
  refine condC (fun _=>⟨mV,mV,FV.mono kW,FW,fun m hm=>by have:=gs m hm;omega,by omega,mr_,condC (fun _=>⟨kw,?_⟩) (fun v=>absurd v (by simp))⟩) (fun v=>absurd v (by simp))
  have:=h EW kw
  simpa using this
theorem opn3 (W:World) (K:List SV->Prop) (h:∀ a1:Int,(Lit.int .i64 a1).wf=true->∀ (b1:Option Addr) (l1 c1:Nat) (z1:List Int),(l1<=c1)->(c1<=maxLen)->(b1=none->c1=0)->(z1.length=c1)->(∀ x∈z1,(Lit.int .u8 x).wf=true)->RowAt W (.slice b1 l1 c1) (z1.map (.int .u8))->∀ a2:Int,(Lit.int .i64 a2).wf=true->∀ a3:Int,(Lit.int .i64 a3).wf=true->∀ a4:Int,(Lit.int .i64 a4).wf=true->∀ a5:Int,(Lit.int .i64 a5).wf=true->∀ a6:Int,(Lit.int .i64 a6).wf=true->∀ a7:Int,(Lit.int .i64 a7).wf=true->∀ a8:Int,(Lit.int .i64 a8).wf=true->∀ a9:Int,(Lit.int .i64 a9).wf=true->K [.agg [I a1,L b1 l1 c1],I a2,.agg [I a3,I a4,I a5,I a6,I a7],I a8,I a9]):opnAll Tryz.prog W Tryz.f3.params.toList K:=
 same (by kernel_rfl) h
theorem sem3 (W:World):opnAll Tryz.prog W Tryz.f3.params.toList fun ss=>TabSem Tryz.prog 3 ss (fun v cs=>RowAt W v cs) fun r _=>r= .raw (.bool true):=by
 refine opn3 W _ ?_
 intro a1 ha1 b1 l1 c1 z1 hl1 hc1 hb1 hz1 hw1 hE1 a2 ha2 a3 ha3 a4 ha4 a5 ha5 a6 ha6 a7 ha7 a8 ha8 a9 ha9
 exact Ent.sem okWLz Tryz.func3 ⟨by kernel_rfl,by kernel_rfl⟩ rfl (e3 ha1 (Bs.of hl1 hb1 hz1 hw1 hE1) ha2 ha3 ha4 ha5 ha6 ha7 ha8 ha9 (fun _ _=>rfl))
theorem lifted3 (os:Os) (started:os.Started) (H:Type) (enc:TypeId×Value->H):
  ReturnsInHanded {} Tryz.checked os 3 .any (Rows.custodyMatchesReferenceSpec.pre6 enc Tryz.prog Tryz.f3 Rows.custodyMatchesReferenceRow.domain false) (Rows.custodyMatchesReferenceSpec.post enc Tryz.prog Tryz.f3 false true false false):=
 lift_true (C:=Tryz.checked) (by kernel_rfl) (by kernel_rfl) started (by kernel_rfl) Tryz.func3
  (ChangeSpec.witness6 (enc:=enc) (C:=Tryz.checked) false ⟨#[],#[.agg #[.int .i64 0,.slice none 0 0],.int .i64 0,.agg #[.int .i64 0,.int .i64 0,.int .i64 0,.int .i64 0,.int .i64 0],.int .i64 0,.int .i64 0],[]⟩ 8 (by kernel_rfl) (by kernel_rfl) (by kernel_rfl) (by kernel_rfl))
  (Tb:=4) (by kernel_rfl) (by kernel_rfl) (by kernel_rfl) rfl
  (fun ds hl=>by
   match ds,hl with
   | [d0,d1,d2,d3,d4],_=>exact ⟨rfl,rfl,rfl⟩)
  sem3
theorem over3:Rows.custodyMatchesReferenceRow.holds Tryz.pinned (OpenSpec.ofChange Rows.custodyMatchesReferenceSpec):=
 OpenClaim.holds_of_wide 3 Tryz.f3 rfl rfl rfl rfl rfl rfl rfl ⟨rfl,rfl,rfl,rfl,rfl⟩ rfl rfl rfl rfl rfl (by kernel_rfl) Tryz.func3 (by kernel_rfl)
  (of_decide_eq_true (by kernel_rfl)) (by unfold Func.isWrapper;first|(rw [if_pos (by decide+kernel)];kernel_rfl)|(rw [if_neg (by decide+kernel)];exact ⟨rfl,rfl⟩))
  (fun os started H enc _=>lifted3 os started H enc)
theorem proved3:Rows.CustodyMatchesReferenceSaid:=over3
end Go.Proofs.YtdaakdbkmjgloaaGreat.CustodyOwn
