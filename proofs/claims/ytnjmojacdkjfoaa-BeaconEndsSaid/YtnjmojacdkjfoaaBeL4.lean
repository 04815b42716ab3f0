/- The law's proof: for every input the law answers true. Conditions: none. -/
import Derived.Test.YtnjmojacdkjfoaaBb46
import Derived.Test.YtnjmojacdkjfoaaRows
namespace Go.Proofs.Ytnjmojacdkjfoaa.BeaconOwn
open Go Go.Sx Go.Proofs.Ytnjmojacdkjfoaa
set_option maxRecDepth 100000
set_option maxHeartbeats 4000000
set_option linter.unusedVariables false
set_option linter.unusedSimpArgs false
variable {E:Mem} {K:SV→Mem→Prop}
noncomputable def K4:Cx:={ P:=Try.prog,inl:=fun f=>List.contains [] f,tab:=fun _ _ _ _=>False,isB:=fun _=>false,tabB:=fun _ _ _ _ _=>False,opt:={ unroll:=0,carry:=[] },muts:=mutsD }
theorem okK4:CxOK K4:=CxOK.four (fun _ _ _ _ h=>h.elim) (by kernel_rfl) (okInl (by kernel_rfl)) (fun _ _ _ _ _ h=>h.elim)
theorem ss16 {c:Int} {n:Nat} (hc: -9223372036854775808≤c∧c≤9223372036854775807) (hn:0<n) (h:∀ r:Int,0≤r→r<(n:Int)→K (I r) E):Ent K4 8 Try.f16 [I c,I (n:Nat)] E K:=by
 refine same (by kernel_rfl) (?_:bif decide (c<(0:Int)) then ((NI n)=(0:Int)→False)∧Mem.le E E∧K (I (Int.tmod (WI ((0:Int)-WI (c+(1:Int)))) (NI n))) E else ((NI n)=(0:Int)→False)∧Mem.le E E∧K (I (Int.tmod c (NI n))) E)
 delta WI NI
 have hn0:(n:Int)=0→False:=fun q=>by omega
 refine condC (fun g=>?_) (fun g=>?_)
 ·have g:c<0:=by simpa using g
  have w1:IntKind.wrap .i64 (c+1)=c+1:=by rw [wrap_i64 (by omega)]
  have w2:IntKind.wrap .i64 (0-(c+1))=0-(c+1):=by rw [wrap_i64 (by omega)]
  rw [w1,w2]
  exact ⟨hn0,Mem.le_refl _,h _ (Int.tmod_nonneg _ (by omega)) (Int.tmod_lt_of_pos _ (by omega))⟩
 ·have g:¬ c<0:=by simpa using g
  exact ⟨hn0,Mem.le_refl _,h _ (Int.tmod_nonneg _ (by omega)) (Int.tmod_lt_of_pos _ (by omega))⟩
noncomputable def tab16:FuncId→List SV→Mem→(SV→Mem→Prop)→Prop:=fun f args E K=>match f with
 | 16=>d2 args fun x0 x1=>dI x0 fun c=>dI x1 fun n=>∃ k:Nat,(n=(k:Int)∧0<k∧(Lit.int .i64 c).wf=true)∧∀ r:Int,0≤r→r<(k:Int)→K (I r) E
 | f=>tabHe f args E K
theorem tab16_ok:TabOK Try.prog tab16:=by
 intro f args E K h
 unfold tab16 at h
 split at h
 ·obtain ⟨x0,x1,rfl,h1⟩:=d2_elim h
  obtain ⟨c,rfl,h2⟩:=dI_elim h1
  obtain ⟨n,rfl,k,⟨rfl,h3,h4⟩,h5⟩:=dI_elim h2
  exact Ent.sem okK4 Try.func16 ⟨by kernel_rfl,by kernel_rfl⟩ rfl (ss16 (by simpa [Lit.wf,IntKind.min,IntKind.max,IntKind.signed,IntKind.bits] using h4) h3 h5)
 ·exact tabHe_ok _ _ _ _ h
noncomputable def L4:Cx:={ P:=Try.prog,inl:=fun f=>List.contains [] f,tab:=tab16,isB:=fun _=>false,tabB:=fun _ _ _ _ _=>False,opt:={ unroll:=0,carry:=[] },muts:=mutsD }
theorem okL4:CxOK L4:=CxOK.four tab16_ok (by kernel_rfl) (okInl (by kernel_rfl)) (fun _ _ _ _ _ h=>h.elim)
theorem fold_ge:∀ (xs:List (List Int)) (o:List Int×Bool),o.1.length≤(xs.foldl weD o).1.length
 | [],o=>Nat.le_refl _
 | x::xs,o=>by
  rw [List.foldl_cons]
  refine Nat.le_trans ?_ (fold_ge xs _)
  unfold weD wdig
  rw [List.length_append];omega
theorem num_pos {o:List Int×Bool} {v lo hi:Int} (h:(wnum o v lo hi).2=false):0<(wnum o v lo hi).1.length:=by
 rw [wnum_ok (by have:=wnum_iff.1 h;rw [this.1];rintro (q|q|q);omega;omega;cases q),List.length_append]
 have:=(dig_len (zig v)).1
 omega
theorem wLD_pos {hi:Int} {o:List Int×Bool} {xs:List (List Int)} (h:(wList weD hi o xs).2=false):0<(wList weD hi o xs).1.length:=by
 by_cases q:(xs.length:Int)>hi
 ·unfold wList at h ⊢
  rw [if_pos q] at h ⊢
  exact num_pos h
 ·unfold wList at h ⊢
  rw [if_neg q] at h ⊢
  rw [weDF] at h
  exact Nat.lt_of_lt_of_le (num_pos h) (fold_ge _ _)
theorem enc_pos {x:Bc} (h:(enc x).2=false):0<(enc x).1.length:=by
 by_cases hx:x.has=true
 ·unfold enc at h ⊢
  rw [if_pos hx] at h ⊢
  exact wLD_pos h
 ·have h1:=(enc_iff.1 h).1
  unfold enc
  rw [if_neg hx]
  have h1:=encA_iff.2 h1
  show 0<(encA x).1.length
  unfold encA at h1 ⊢
  exact num_pos h1
theorem e4 {x01:Bc} {b1:Option Addr} {l1:Nat} {c1:Nat} {b2:Option Addr} {l2:Nat} {c2:Nat} {b3:Option Addr} {l3:Nat} {c3:Nat} {b4:Option Addr} {l4:Nat} {c4:Nat} {b5:Option Addr} {l5:Nat} {c5:Nat} {b6:Option Addr} {l6:Nat} {c6:Nat} {b7:Option Addr} {l7:Nat} {c7:Nat} {b8:Option Addr} {l8:Nat} {c8:Nat} {b9:Option Addr} {l9:Nat} {c9:Nat} {a22:Int} {b10:Option Addr} {l10:Nat} {c10:Nat} {z10:List Int} (hM1:BcM E x01 b1 l1 c1 b2 l2 c2 b3 l3 c3 b4 l4 c4 b5 l5 c5 b6 l6 c6 b7 l7 c7 b8 l8 c8 b9 l9 c9) (hW1:BcWf x01) (ha22:(Lit.int .i64 a22).wf=true) (hB10:Bs E b10 l10 c10 z10) (h:∀ E':Mem,Mem.le E E'→K (B true) E'):
  Ent L4 8 Try.f4 [.agg [I x01.from_,I x01.asn,I x01.boot,I x01.hops,I x01.bound,I x01.fresh,I x01.seq,I x01.rank,I x01.parent,I x01.first,I x01.next,L b1 l1 c1,L b2 l2 c2,L b3 l3 c3,L b4 l4 c4,B x01.full,L b5 l5 c5,L b6 l6 c6,L b7 l7 c7,I x01.nver,I x01.size,.raw (.int .u64 x01.dig),I x01.start,I x01.pages,I x01.version,I x01.page,I x01.seed,L b8 l8 c8,L b9 l9 c9,B x01.has],I a22,L b10 l10 c10] E K:=by
 refine same (by kernel_rfl) (?_:0=0∧∀ (E':Mem),Mem.le E E'→Mem.le E E'∧∃ (x:Bc),BcV E' (SV.agg (bcx x01 b1 l1 c1 b2 l2 c2 b3 l3 c3 b4 l4 c4 b5 l5 c5 b6 l6 c6 b7 l7 c7 b8 l8 c8 b9 l9 c9)) x∧∀ (f:Bool),(f=true→BcFew x)→Mem.le E' E'∧bif !f then Mem.le E E'∧K (B true) E' else bif bif false then true else decide ((NI l10)>(1000:Int)) then Mem.le E E'∧K (B true) E' else ∃ (x:Bc),(BcV E' (SV.agg (bcx x01 b1 l1 c1 b2 l2 c2 b3 l3 c3 b4 l4 c4 b5 l5 c5 b6 l6 c6 b7 l7 c7 b8 l8 c8 b9 l9 c9)) x∧BcSm x)∧∀ (ys:List Int) (e:Int) (b:Option Addr) (n c:Nat) (E'_1:Mem),Mem.le E' E'_1→EncS x ys e→Bs E'_1 b n c ys→Mem.le E' E'_1∧bif e !=(0:Int) then Mem.le E E'_1∧K (B true) E'_1 else bif (NI n)==(0:Int) then Mem.le E E'_1∧K (B false) E'_1 else ∃ (k:Nat),((NI n)=(NI k)∧0<k∧Lit.wf (Lit.int IntKind.i64 a22)=true)∧∀ (r:Int),(0:Int)≤r→r<(NI k)→Mem.le E'_1 E'_1∧req (n≤c) (req ((0:Int)≤r∧r≤(NI (toN none c))) (∀ (base':Option Addr) (E':Mem),Mem.le E'_1 E'→(∀ (cs:List Value),E'_1 (VS b n c) cs→E' (VS base' (toN (some r) n-0) (toN none c-0)) (List.take ((toN (some r) n-0)*1) (List.drop 0 cs)))→Option.isNone base'=Option.isNone b→∃ (zs:List Int),(Bs E' base' (toN (some r) n-0) (toN none c-0) zs∧toN (some r) n-0≤100000)∧∀ (x:Bc) (e:Int) (b11:Option Addr) (n11 c11:Nat) (b12:Option Addr) (n12 c12:Nat) (b13:Option Addr) (n13 c13:Nat) (b14:Option Addr) (n14 c14:Nat) (b16:Option Addr) (n16 c16:Nat) (b17:Option Addr) (n17 c17:Nat) (b18:Option Addr) (n18 c18:Nat) (b27:Option Addr) (n27 c27:Nat) (b28:Option Addr) (n28 c28:Nat) (E'_2:Mem),Mem.le E' E'_2→DecS zs x e→BcM E'_2 x b11 n11 c11 b12 n12 c12 b13 n13 c13 b14 n14 c14 b16 n16 c16 b17 n17 c17 b18 n18 c18 b27 n27 c27 b28 n28 c28→Mem.le E' E'_2∧∃ (cs:List Value),(cs=[]∨E'_2 (VS b n c) cs)∧n*1≤List.length cs∧(∀ (x:Value),List.Mem x cs→Value.oneCell' x=true)∧0≤8000∧8000≤8000∧0≤8000∧req ((0+n)*1≤140737488355328) (∀ (cap' tot':Nat),0+n≤cap'→cap'*1≤tot'→∃ (cs_1:List Value),(cs_1=[]∨E'_2 (VS b10 l10 c10) cs_1)∧l10*(1:Nat)≤List.length cs_1∧(∀ (x:Value),List.Mem x cs_1→Value.oneCell' x=true)∧(0+n)*(1:Nat)≤List.length (Row.cells (Row.vals (List.take 0 (zerosV [U8 0] (8000:Nat))++List.take (n*(1:Nat)) cs)))∧cap'*(1:Nat)≤tot'∧(0:Nat)+n≤cap'∧req (((0:Nat)+n+l10)*(1:Nat)≤(140737488355328:Nat)) (∀ (cap' tot':Nat),(0:Nat)+n+l10≤cap'→cap'*(1:Nat)≤tot'→∀ (base:Option Addr) (E':Mem),Mem.le E'_2 E'→WinE E' base (List.take (((0:Nat)+n)*(1:Nat)) (List.take 0 (zerosV [U8 0] (8000:Nat))++List.take (n*(1:Nat)) cs)++List.take (l10*(1:Nat)) cs_1)→∃ (zs:List Int),(Bs E' (Option.map (fun (x:Addr)=>Addr.add x 0) base) ((0:Nat)+n+l10) cap' zs∧(0:Nat)+n+l10≤(100000:Nat))∧∀ (x:Bc) (e_1:Int) (b11:Option Addr) (n11 c11:Nat) (b12:Option Addr) (n12 c12:Nat) (b13:Option Addr) (n13 c13:Nat) (b14:Option Addr) (n14 c14:Nat) (b16:Option Addr) (n16 c16:Nat) (b17:Option Addr) (n17 c17:Nat) (b18:Option Addr) (n18 c18:Nat) (b27:Option Addr) (n27 c27:Nat) (b28:Option Addr) (n28 c28:Nat) (E'_3:Mem),Mem.le E' E'_3→DecS zs x e_1→BcM E'_3 x b11 n11 c11 b12 n12 c12 b13 n13 c13 b14 n14 c14 b16 n16 c16 b17 n17 c17 b18 n18 c18 b27 n27 c27 b28 n28 c28→bif bif true then e==(11:Int) else false then bif (NI l10)==(0:Int) then bif bif true then e_1==(0:Int) else false then Mem.le E E'_3∧K (B true) E'_3 else bif decide ((NI l10)>(0:Int)) then Mem.le E E'_3∧K (B (bif true then bif false then true else bif true then e_1==(11:Int) else false else false)) E'_3 else Mem.le E E'_3∧K (B false) E'_3 else bif decide ((NI l10)>(0:Int)) then Mem.le E E'_3∧K (B (bif true then bif false then true else bif true then e_1==(11:Int) else false else false)) E'_3 else Mem.le E E'_3∧K (B false) E'_3 else Mem.le E E'_3∧K (B false) E'_3)))))
 delta NI U8 VS bcx
 refine ⟨rfl,fun E1 m1=>⟨m1,x01,⟨⟨b1,l1,c1,b2,l2,c2,b3,l3,c3,b4,l4,c4,b5,l5,c5,b6,l6,c6,b7,l7,c7,b8,l8,c8,b9,l9,c9,rfl,hM1.mono m1⟩⟩,fun f hf=>⟨Mem.le_refl _,?_⟩⟩⟩
 have fin:Mem.le E E1∧K (B true) E1:=⟨m1,h E1 m1⟩
 refine condC (fun _=>fin) (fun g0=>condC (fun _=>fin) (fun g2=>?_))
 have w1:=(hf (by simpa using g0)).sm
 have g2:l10≤1000:=by simp at g2;omega
 refine ⟨x01,⟨⟨⟨b1,l1,c1,b2,l2,c2,b3,l3,c3,b4,l4,c4,b5,l5,c5,b6,l6,c6,b7,l7,c7,b8,l8,c8,b9,l9,c9,rfl,hM1.mono m1⟩⟩,w1⟩,fun ys e d1 n i1 E2 m2 hq hb=>⟨m2,?_⟩⟩
 have hq:=hq.eq
 have m02:=Mem.le_trans m1 m2
 refine condC (fun _=>⟨m02,h _ m02⟩) (fun ge=>?_)
 have ge:e=0:=by simpa using ge
 subst ge
 have ok:(enc x01).2=false∧ys=(enc x01).1:=by
  unfold encR at hq
  cases q:(enc x01).2 with
  | true=>rw [if_pos q] at hq;cases hq
  | false=>rw [if_neg (by rw [q];exact Bool.false_ne_true)] at hq;cases hq;exact ⟨rfl,rfl⟩
 obtain ⟨ok,rfl⟩:=ok
 have hl:=enc_len ok
 have hp:=enc_pos ok
 have hbl:=hb.2.1
 have hbc:=hb.2.2.1
 refine condC (fun g=>absurd g (by simp;omega)) (fun _=>⟨n,⟨rfl,by omega,ha22⟩,fun r r0 r1=>⟨Mem.le_refl _,req_intro hbc (req_intro ⟨r0,by show r≤(i1:Int);omega⟩ (fun b' E3 m3 hF hN=>?_))⟩⟩)
 have hS:Bs E3 b' (r.toNat-0) (i1-0) ((List.drop 0 (enc x01).1).take (r.toNat-0)):=Bs.sub' hb hF hN (Nat.zero_le _) (by omega)
 refine ⟨_,⟨hS,by show r.toNat-0≤_;omega⟩,fun y e2 p11 q11 r11 p12 q12 r12 p13 q13 r13 p14 q14 r14 p16 q16 r16 p17 q17 r17 p18 q18 r18 p27 q27 r27 p28 q28 r28 E4 m4 hd hM4=>⟨m4,?_⟩⟩
 have he2:e2=11:=by
  obtain ⟨y',s',hr,hy⟩:=hd.eq
  have q:=dec_cut hW1 ok (k:=r.toNat) (by omega) (by simp) hr
  rw [if_neg (by rw [q];decide),q] at hy
  exact hy.2
 subst he2
 have m24:=Mem.le_trans m3 m4
 have m04:=Mem.le_trans m02 m24
 obtain ⟨u1,u2,u3⟩:=(hb.mono m24).src
 obtain ⟨v1,v2,v3⟩:=(hB10.mono m04).src
 have ht:=hB10.2.1
 refine ⟨_,u1,u2,u3,by decide,by decide,by decide,req_intro (by omega) fun cap1 tot1 c1 c2=>⟨_,v1,v2,v3,?_,c2,c1,req_intro (by omega) fun cap2 tot2 c3 c4 base E5 m5 hw=>?_⟩⟩
 ·simp [Row.cells];omega
 refine ⟨_,⟨Bs.win hw (zs:=(enc x01).1++z10) ?_ (by rw [List.length_append];omega) c3 (fun z hz=>(List.mem_append.1 hz).elim (hb.2.2.2.1 z) (hB10.2.2.2.1 z)),by omega⟩,fun y3 e3 s11 t11 u11 s12 t12 u12 s13 t13 u13 s14 t14 u14 s16 t16 u16 s17 t17 u17 s18 t18 u18 s27 t27 u27 s28 t28 u28 E6 m6 hd2 hM6=>?_⟩
 ·rw [List.take_zero,List.nil_append,List.take_of_length_le (l:=List.map _ (enc x01).1) (by simp;omega),List.take_of_length_le (l:=List.map _ (enc x01).1) (by simp;omega),List.take_of_length_le (by simp;omega),List.map_append]
 have m06:=Mem.le_trans m04 (Mem.le_trans m5 m6)
 obtain ⟨y',s',hr,hy⟩:=hd2.eq
 obtain ⟨q1,q2⟩:=dec_of_enc hW1 ok rfl hr
 rw [q2,if_pos rfl,List.length_append] at hy
 have fin:Mem.le E E6∧K (B true) E6:=⟨m06,h E6 m06⟩
 refine condC (fun _=>?_) (fun g=>absurd g (by decide))
 by_cases t0:l10=0
 ·rw [if_neg (by show ¬ ((enc x01).1.length:Int)<_;omega)] at hy
  rw [hy.2]
  exact condC (fun _=>condC (fun _=>fin) (fun g=>absurd g (by decide))) (fun g=>absurd g (by simp [t0]))
 ·rw [if_pos (by show ((enc x01).1.length:Int)<_;omega)] at hy
  rw [hy.2]
  exact condC (fun g=>absurd g (by simp [t0])) (fun _=>condC (fun _=>fin) (fun g=>absurd g (by simp;omega)))
theorem opn4 (W:World) (K:List SV→Prop) (h:∀ a1:Int,(Lit.int .i64 a1).wf=true→∀ a2:Int,(Lit.int .i64 a2).wf=true→∀ a3:Int,(Lit.int .i64 a3).wf=true→∀ a4:Int,(Lit.int .i64 a4).wf=true→∀ a5:Int,(Lit.int .i64 a5).wf=true→∀ a6:Int,(Lit.int .i64 a6).wf=true→∀ a7:Int,(Lit.int .i64 a7).wf=true→∀ a8:Int,(Lit.int .i64 a8).wf=true→∀ a9:Int,(Lit.int .i64 a9).wf=true→∀ a10:Int,(Lit.int .i64 a10).wf=true→∀ a11:Int,(Lit.int .i64 a11).wf=true→∀ (b1:Option Addr) (l1 c1:Nat) (z1:List (List Value)),(l1≤c1)→(c1≤maxLen)→(b1=none→c1=0)→(z1.length=c1)→RowAt W (.slice b1 l1 c1) z1.flatten→(∀ r∈z1,r.length=4∧Shp Try.prog W 12 95 r)→∀ (b2:Option Addr) (l2 c2:Nat) (z2:List (List Value)),(l2≤c2)→(c2≤maxLen)→(b2=none→c2=0)→(z2.length=c2)→RowAt W (.slice b2 l2 c2) z2.flatten→(∀ r∈z2,r.length=5∧Shp Try.prog W 12 97 r)→∀ (b3:Option Addr) (l3 c3:Nat) (z3:List (List Value)),(l3≤c3)→(c3≤maxLen)→(b3=none→c3=0)→(z3.length=c3)→RowAt W (.slice b3 l3 c3) z3.flatten→(∀ r∈z3,r.length=3∧Shp Try.prog W 12 99 r)→∀ (b4:Option Addr) (l4 c4:Nat) (z4:List (List Value)),(l4≤c4)→(c4≤maxLen)→(b4=none→c4=0)→(z4.length=c4)→RowAt W (.slice b4 l4 c4) z4.flatten→(∀ r∈z4,r.length=4∧Shp Try.prog W 12 101 r)→∀ a12:Bool,∀ (b5:Option Addr) (l5 c5:Nat) (z5:List (List Value)),(l5≤c5)→(c5≤maxLen)→(b5=none→c5=0)→(z5.length=c5)→RowAt W (.slice b5 l5 c5) z5.flatten→(∀ r∈z5,r.length=8∧Shp Try.prog W 12 127 r)→∀ (b6:Option Addr) (l6 c6:Nat) (z6:List (List Value)),(l6≤c6)→(c6≤maxLen)→(b6=none→c6=0)→(z6.length=c6)→RowAt W (.slice b6 l6 c6) z6.flatten→(∀ r∈z6,r.length=8∧Shp Try.prog W 12 127 r)→∀ (b7:Option Addr) (l7 c7:Nat) (z7:List Int),(l7≤c7)→(c7≤maxLen)→(b7=none→c7=0)→(z7.length=c7)→(∀ x∈z7,(Lit.int .i64 x).wf=true)→RowAt W (.slice b7 l7 c7) (z7.map (.int .i64))→∀ a13:Int,(Lit.int .i64 a13).wf=true→∀ a14:Int,(Lit.int .i64 a14).wf=true→∀ a15:Int,(Lit.int .u64 a15).wf=true→∀ a16:Int,(Lit.int .i64 a16).wf=true→∀ a17:Int,(Lit.int .i64 a17).wf=true→∀ a18:Int,(Lit.int .i64 a18).wf=true→∀ a19:Int,(Lit.int .i64 a19).wf=true→∀ a20:Int,(Lit.int .i64 a20).wf=true→∀ (b8:Option Addr) (l8 c8:Nat) (z8:List Int),(l8≤c8)→(c8≤maxLen)→(b8=none→c8=0)→(z8.length=c8)→(∀ x∈z8,(Lit.int .u8 x).wf=true)→RowAt W (.slice b8 l8 c8) (z8.map (.int .u8))→∀ (b9:Option Addr) (l9 c9:Nat) (z9:List Int),(l9≤c9)→(c9≤maxLen)→(b9=none→c9=0)→(z9.length=c9)→(∀ x∈z9,(Lit.int .u64 x).wf=true)→RowAt W (.slice b9 l9 c9) (z9.map (.int .u64))→∀ a21:Bool,∀ a22:Int,(Lit.int .i64 a22).wf=true→∀ (b10:Option Addr) (l10 c10:Nat) (z10:List Int),(l10≤c10)→(c10≤maxLen)→(b10=none→c10=0)→(z10.length=c10)→(∀ x∈z10,(Lit.int .u8 x).wf=true)→RowAt W (.slice b10 l10 c10) (z10.map (.int .u8))→K [.agg [I a1,I a2,I a3,I a4,I a5,I a6,I a7,I a8,I a9,I a10,I a11,L b1 l1 c1,L b2 l2 c2,L b3 l3 c3,L b4 l4 c4,B a12,L b5 l5 c5,L b6 l6 c6,L b7 l7 c7,I a13,I a14,.raw (.int .u64 a15),I a16,I a17,I a18,I a19,I a20,L b8 l8 c8,L b9 l9 c9,B a21],I a22,L b10 l10 c10]):opnAll Try.prog W Try.f4.params.toList K:=
 same (by kernel_rfl) h
theorem sem4 (W:World):opnAll Try.prog W Try.f4.params.toList fun ss=>TabSem Try.prog 4 ss (fun v cs=>RowAt W v cs) fun r _=>r= .raw (.bool true):=by
 refine opn4 W _ ?_
 intro a1 ha1 a2 ha2 a3 ha3 a4 ha4 a5 ha5 a6 ha6 a7 ha7 a8 ha8 a9 ha9 a10 ha10 a11 ha11 b1 l1 c1 z1 hl1 hc1 hb1 hz1 hE1 hr1 b2 l2 c2 z2 hl2 hc2 hb2 hz2 hE2 hr2 b3 l3 c3 z3 hl3 hc3 hb3 hz3 hE3 hr3 b4 l4 c4 z4 hl4 hc4 hb4 hz4 hE4 hr4 a12 b5 l5 c5 z5 hl5 hc5 hb5 hz5 hE5 hr5 b6 l6 c6 z6 hl6 hc6 hb6 hz6 hE6 hr6 b7 l7 c7 z7 hl7 hc7 hb7 hz7 hw7 hE7 a13 ha13 a14 ha14 a15 ha15 a16 ha16 a17 ha17 a18 ha18 a19 ha19 a20 ha20 b8 l8 c8 z8 hl8 hc8 hb8 hz8 hw8 hE8 b9 l9 c9 z9 hl9 hc9 hb9 hz9 hw9 hE9 a21 a22 ha22 b10 l10 c10 z10 hl10 hc10 hb10 hz10 hw10 hE10
 exact Ent.sem okL4 Try.func4 ⟨by kernel_rfl,by kernel_rfl⟩ rfl (e4 (x01:=⟨a1,a2,a3,a4,a5,a6,a7,a8,a9,a10,a11,(RKof (q:=.i64) (k:=4) (n:=12) (e:=95) (ts:=[3,3,3,3]) (by kernel_rfl) rfl (fun t ht=>by simp at ht;subst ht;kernel_rfl) (by kernel_rfl) hl1 hb1 hz1 hE1 hr1).choose,(RKof (q:=.i64) (k:=5) (n:=12) (e:=97) (ts:=[3,3,3,3,3]) (by kernel_rfl) rfl (fun t ht=>by simp at ht;subst ht;kernel_rfl) (by kernel_rfl) hl2 hb2 hz2 hE2 hr2).choose,(RKof (q:=.i64) (k:=3) (n:=12) (e:=99) (ts:=[3,3,3]) (by kernel_rfl) rfl (fun t ht=>by simp at ht;subst ht;kernel_rfl) (by kernel_rfl) hl3 hb3 hz3 hE3 hr3).choose,(RKof (q:=.i64) (k:=4) (n:=12) (e:=101) (ts:=[3,3,3,3]) (by kernel_rfl) rfl (fun t ht=>by simp at ht;subst ht;kernel_rfl) (by kernel_rfl) hl4 hb4 hz4 hE4 hr4).choose,a12,(RKof (q:=.i64) (k:=8) (n:=12) (e:=127) (ts:=[3,3,3,3,3,3,3,3]) (by kernel_rfl) rfl (fun t ht=>by simp at ht;subst ht;kernel_rfl) (by kernel_rfl) hl5 hb5 hz5 hE5 hr5).choose,(RKof (q:=.i64) (k:=8) (n:=12) (e:=127) (ts:=[3,3,3,3,3,3,3,3]) (by kernel_rfl) rfl (fun t ht=>by simp at ht;subst ht;kernel_rfl) (by kernel_rfl) hl6 hb6 hz6 hE6 hr6).choose,((z7.take l7).map fun v=>[v]),a13,a14,a15,a16,a17,a18,a19,a20,(z8.take l8),((z9.take l9).map fun v=>[v]),a21⟩) ⟨(RKof (q:=.i64) (k:=4) (n:=12) (e:=95) (ts:=[3,3,3,3]) (by kernel_rfl) rfl (fun t ht=>by simp at ht;subst ht;kernel_rfl) (by kernel_rfl) hl1 hb1 hz1 hE1 hr1).choose_spec.1,(RKof (q:=.i64) (k:=5) (n:=12) (e:=97) (ts:=[3,3,3,3,3]) (by kernel_rfl) rfl (fun t ht=>by simp at ht;subst ht;kernel_rfl) (by kernel_rfl) hl2 hb2 hz2 hE2 hr2).choose_spec.1,(RKof (q:=.i64) (k:=3) (n:=12) (e:=99) (ts:=[3,3,3]) (by kernel_rfl) rfl (fun t ht=>by simp at ht;subst ht;kernel_rfl) (by kernel_rfl) hl3 hb3 hz3 hE3 hr3).choose_spec.1,(RKof (q:=.i64) (k:=4) (n:=12) (e:=101) (ts:=[3,3,3,3]) (by kernel_rfl) rfl (fun t ht=>by simp at ht;subst ht;kernel_rfl) (by kernel_rfl) hl4 hb4 hz4 hE4 hr4).choose_spec.1,(RKof (q:=.i64) (k:=8) (n:=12) (e:=127) (ts:=[3,3,3,3,3,3,3,3]) (by kernel_rfl) rfl (fun t ht=>by simp at ht;subst ht;kernel_rfl) (by kernel_rfl) hl5 hb5 hz5 hE5 hr5).choose_spec.1,(RKof (q:=.i64) (k:=8) (n:=12) (e:=127) (ts:=[3,3,3,3,3,3,3,3]) (by kernel_rfl) rfl (fun t ht=>by simp at ht;subst ht;kernel_rfl) (by kernel_rfl) hl6 hb6 hz6 hE6 hr6).choose_spec.1,RK1of (q:=.i64) hl7 hb7 hz7 hE7,Bs.of hl8 hb8 hz8 hw8 hE8,RK1of (q:=.u64) hl9 hb9 hz9 hE9⟩ ⟨wf64 ha15,fun r hr=>((RKof (q:=.i64) (k:=4) (n:=12) (e:=95) (ts:=[3,3,3,3]) (by kernel_rfl) rfl (fun t ht=>by simp at ht;subst ht;kernel_rfl) (by kernel_rfl) hl1 hb1 hz1 hE1 hr1).choose_spec.2 r hr).1,fun r hr=>((RKof (q:=.i64) (k:=5) (n:=12) (e:=97) (ts:=[3,3,3,3,3]) (by kernel_rfl) rfl (fun t ht=>by simp at ht;subst ht;kernel_rfl) (by kernel_rfl) hl2 hb2 hz2 hE2 hr2).choose_spec.2 r hr).1,fun r hr=>((RKof (q:=.i64) (k:=3) (n:=12) (e:=99) (ts:=[3,3,3]) (by kernel_rfl) rfl (fun t ht=>by simp at ht;subst ht;kernel_rfl) (by kernel_rfl) hl3 hb3 hz3 hE3 hr3).choose_spec.2 r hr).1,fun r hr=>((RKof (q:=.i64) (k:=4) (n:=12) (e:=101) (ts:=[3,3,3,3]) (by kernel_rfl) rfl (fun t ht=>by simp at ht;subst ht;kernel_rfl) (by kernel_rfl) hl4 hb4 hz4 hE4 hr4).choose_spec.2 r hr).1,fun r hr=>((RKof (q:=.i64) (k:=8) (n:=12) (e:=127) (ts:=[3,3,3,3,3,3,3,3]) (by kernel_rfl) rfl (fun t ht=>by simp at ht;subst ht;kernel_rfl) (by kernel_rfl) hl5 hb5 hz5 hE5 hr5).choose_spec.2 r hr).1,fun r hr=>((RKof (q:=.i64) (k:=8) (n:=12) (e:=127) (ts:=[3,3,3,3,3,3,3,3]) (by kernel_rfl) rfl (fun t ht=>by simp at ht;subst ht;kernel_rfl) (by kernel_rfl) hl6 hb6 hz6 hE6 hr6).choose_spec.2 r hr).1,fun r hr=>(RK1wf (q:=.i64) (l:=l7) hw7 r hr).1,wf_prf (RK1wf (l:=l9) hw9)⟩ ha22 (Bs.of hl10 hb10 hz10 hw10 hE10) (fun _ _=>rfl))
theorem lifted4 (os:Os) (started:os.Started) (H:Type) (enc:TypeId×Value→H):
  ReturnsInHanded {} Try.checked os 4 .any (Rows.beaconEndsSpec.pre6 enc Try.prog Try.f4 Rows.beaconEndsRow.domain false) (Rows.beaconEndsSpec.post enc Try.prog Try.f4 false true false false):=
 lift_true (C:=Try.checked) (by kernel_rfl) (by kernel_rfl) started (by kernel_rfl) Try.func4
  (ChangeSpec.witness6 (enc:=enc) (C:=Try.checked) false ⟨#[],#[.agg #[.int .i64 0,.int .i64 0,.int .i64 0,.int .i64 0,.int .i64 0,.int .i64 0,.int .i64 0,.int .i64 0,.int .i64 0,.int .i64 0,.int .i64 0,.slice none 0 0,.slice none 0 0,.slice none 0 0,.slice none 0 0,.bool false,.slice none 0 0,.slice none 0 0,.slice none 0 0,.int .i64 0,.int .i64 0,.int .u64 0,.int .i64 0,.int .i64 0,.int .i64 0,.int .i64 0,.int .i64 0,.slice none 0 0,.slice none 0 0,.bool false],.int .i64 0,.slice none 0 0],[]⟩ 8 (by kernel_rfl) (by kernel_rfl) (by kernel_rfl) (by kernel_rfl))
  (Tb:=4) (by kernel_rfl) (by kernel_rfl) (by kernel_rfl) rfl
  (fun ds hl=>by
   match ds,hl with
   | [d0,d1,d2],_=>exact ⟨rfl,rfl,rfl⟩)
  sem4
theorem over4:Rows.beaconEndsRow.holds Try.pinned (OpenSpec.ofChange Rows.beaconEndsSpec):=
 OpenClaim.holds_of_wide 4 Try.f4 rfl rfl rfl rfl rfl rfl rfl ⟨rfl,rfl,rfl,rfl,rfl⟩ rfl rfl rfl rfl rfl (by kernel_rfl) Try.func4 (by kernel_rfl)
  (of_decide_eq_true (by kernel_rfl)) (by unfold Func.isWrapper;first|(rw [if_pos (by decide+kernel)];kernel_rfl)|(rw [if_neg (by decide+kernel)];exact ⟨rfl,rfl⟩))
  (fun os started H enc _=>lifted4 os started H enc)
theorem proved4:Rows.BeaconEndsSaid:=over4
end Go.Proofs.Ytnjmojacdkjfoaa.BeaconOwn
