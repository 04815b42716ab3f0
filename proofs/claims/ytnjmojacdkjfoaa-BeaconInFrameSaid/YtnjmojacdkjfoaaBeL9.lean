/- The law's proof: for every input the law answers true. Conditions: none. -/
import Derived.Test.YtnjmojacdkjfoaaBb46
import Derived.Test.YtnjmojacdkjfoaaRows
namespace Go.Proofs.Ytnjmojacdkjfoaa.BeaconOwn
open Go Go.Sx Go.Proofs.Ytnjmojacdkjfoaa
set_option maxRecDepth 100000
set_option maxHeartbeats 4000000
set_option linter.unusedVariables false
set_option linter.unusedSimpArgs false
variable {E:Mem} {K:SV->Mem->Prop}
noncomputable def L9:Cx:={ P:=Try.prog,inl:=fun f=>List.contains [] f,tab:=tabHg,isB:=fun _=>false,tabB:=fun _ _ _ _ _=>False,opt:={ unroll:=0,carry:=[] },muts:=mutsD }
theorem okL9:CxOK L9:=CxOK.four tabHg_ok (by kernel_rfl) (okInl (by kernel_rfl)) (fun _ _ _ _ _ h=>h.elim)
theorem e9 {x01:Bc} {b1:Option Addr} {l1:Nat} {c1:Nat} {b2:Option Addr} {l2:Nat} {c2:Nat} {b3:Option Addr} {l3:Nat} {c3:Nat} {b4:Option Addr} {l4:Nat} {c4:Nat} {b5:Option Addr} {l5:Nat} {c5:Nat} {b6:Option Addr} {l6:Nat} {c6:Nat} {b7:Option Addr} {l7:Nat} {c7:Nat} {b8:Option Addr} {l8:Nat} {c8:Nat} {b9:Option Addr} {l9:Nat} {c9:Nat} {a22:Int} {a23:Int} (hM1:BcM E x01 b1 l1 c1 b2 l2 c2 b3 l3 c3 b4 l4 c4 b5 l5 c5 b6 l6 c6 b7 l7 c7 b8 l8 c8 b9 l9 c9) (hW1:BcWf x01) (ha22:(Lit.int .i64 a22).wf=true) (ha23:(Lit.int .i64 a23).wf=true) (h:∀ E':Mem,Mem.le E E'->K (B true) E'):
  Ent L9 8 Try.f9 [.agg [I x01.from_,I x01.asn,I x01.boot,I x01.hops,I x01.bound,I x01.fresh,I x01.seq,I x01.rank,I x01.parent,I x01.first,I x01.next,L b1 l1 c1,L b2 l2 c2,L b3 l3 c3,L b4 l4 c4,B x01.full,L b5 l5 c5,L b6 l6 c6,L b7 l7 c7,I x01.nver,I x01.size,.raw (.int .u64 x01.dig),I x01.start,I x01.pages,I x01.version,I x01.page,I x01.seed,L b8 l8 c8,L b9 l9 c9,B x01.has],I a22,I a23] E K:=by
 refine sm_ (?_:0=0/\∀ (E':Mem),Mem.le E E'->Mem.le E E'/\∃ (x:Bc),BcV E' (SV.agg (bcx x01 b1 l1 c1 b2 l2 c2 b3 l3 c3 b4 l4 c4 b5 l5 c5 b6 l6 c6 b7 l7 c7 b8 l8 c8 b9 l9 c9)) x/\∀ (f:Bool),(f=true->BcFew x)->Mem.le E' E'/\bif !f then Mem.le E E'/\K (B true) E' else ∃ (x:Bc),(BcV E' (SV.agg (bcx x01 b1 l1 c1 b2 l2 c2 b3 l3 c3 b4 l4 c4 b5 l5 c5 b6 l6 c6 b7 l7 c7 b8 l8 c8 b9 l9 c9)) x/\BcSm x)/\∀ (ys:List Int) (e:Int) (b:Option Addr) (n c:Nat) (E'_1:Mem),Mem.le E' E'_1->EncS x ys e->Bs E'_1 b n c ys->Mem.le E' E'_1/\∃ (x:Bc),(BcV E'_1 (SV.agg (bcx x01 b1 l1 c1 b2 l2 c2 b3 l3 c3 b4 l4 c4 b5 l5 c5 b6 l6 c6 b7 l7 c7 b8 l8 c8 b9 l9 c9)) x/\BcSm x)/\∀ (v:Bool),(v=true↔(enc x).snd=false)->Mem.le E'_1 E'_1/\bif e !=(0:Int) then bif bif true then !v else false then Mem.le E E'_1/\K (B (bif true then (NI n)==0 else false)) E'_1 else Mem.le E E'_1/\K (B false) E'_1 else bif !v then Mem.le E E'_1/\K (B false) E'_1 else bif bif false then true else decide ((NI n)>4000) then Mem.le E E'_1/\K (B false) E'_1 else ∃ (zs:List Int),(Bs E'_1 b n c zs/\n<=100000)/\∀ (b':Option Addr) (l' c':Nat) (ys:List Int) (e:Int) (E':Mem),Mem.le E'_1 E'->PkS 1 x01.from_ (-1:Int) a22 a23 zs ys e->Bs E' b' l' c' ys->Mem.le E'_1 E'/\bif e !=(0:Int) then Mem.le E E'/\K (B true) E' else ∃ (zs:List Int),(Bs E' b' l' c' zs/\l'<=100000)/\∀ (k f t a y:Int) (b1_1:Option Addr) (l1_1 c1_1:Nat) (ys:List Int) (e:Int) (E'_2:Mem),Mem.le E' E'_2->UkS zs k f t a y ys e->Bs E'_2 b1_1 l1_1 c1_1 ys->Mem.le E' E'_2/\∃ (zs:List Int),(Bs E'_2 b1_1 l1_1 c1_1 zs/\l1_1<=100000)/\∀ (x:Bc) (e_1:Int) b11 n11 c11 b12 n12 c12 b13 n13 c13 b14 n14 c14 b16 n16 c16 b17 n17 c17 b18 n18 c18 b27 n27 c27 b28 n28 c28 (E':Mem),Mem.le E'_2 E'->DecS zs x e_1->BcM E' x b11 n11 c11 b12 n12 c12 b13 n13 c13 b14 n14 c14 b16 n16 c16 b17 n17 c17 b18 n18 c18 b27 n27 c27 b28 n28 c28->Mem.le E'_2 E'/\bif bif true then e==(0:Int) else false then bif bif true then e_1==(0:Int) else false then ∃ (x_1:Bc),(BcV E' (SV.agg (bcx x01 b1 l1 c1 b2 l2 c2 b3 l3 c3 b4 l4 c4 b5 l5 c5 b6 l6 c6 b7 l7 c7 b8 l8 c8 b9 l9 c9)) x_1/\BcV E' (SV.agg (bcx x b11 n11 c11 b12 n12 c12 b13 n13 c13 b14 n14 c14 b16 n16 c16 b17 n17 c17 b18 n18 c18 b27 n27 c27 b28 n28 c28)) x_1/\BcSm x_1)/\Mem.le E' E'/\Mem.le E E'/\K (B true) E' else Mem.le E E'/\K (B false) E' else Mem.le E E'/\K (B false) E')
 delta NI bcx
 refine ⟨rfl,fun E1 m1=>⟨m1,x01,⟨⟨b1,l1,c1,b2,l2,c2,b3,l3,c3,b4,l4,c4,b5,l5,c5,b6,l6,c6,b7,l7,c7,b8,l8,c8,b9,l9,c9,rfl,hM1.mono m1⟩⟩,fun f hf=>⟨mr_,?_⟩⟩⟩
 have fin:Mem.le E E1/\K (B true) E1:=⟨m1,h E1 m1⟩
 refine condC (fun _=>fin) (fun g0=>?_)
 have w1:=(hf (by simpa using g0)).sm
 refine ⟨x01,⟨⟨⟨b1,l1,c1,b2,l2,c2,b3,l3,c3,b4,l4,c4,b5,l5,c5,b6,l6,c6,b7,l7,c7,b8,l8,c8,b9,l9,c9,rfl,hM1.mono m1⟩⟩,w1⟩,fun ys e d1 n i1 E2 m2 hq hb=>⟨m2,?_⟩⟩
 have hq:=hq.eq
 have m02:=mt_ m1 m2
 have fin:Mem.le E E2/\K (B true) E2:=⟨m02,h E2 m02⟩
 refine ⟨x01,⟨⟨⟨b1,l1,c1,b2,l2,c2,b3,l3,c3,b4,l4,c4,b5,l5,c5,b6,l6,c6,b7,l7,c7,b8,l8,c8,b9,l9,c9,rfl,hM1.mono m02⟩⟩,w1⟩,fun v hv=>⟨mr_,?_⟩⟩
 have hbl:=hb.2.1
 cases okx:(enc x01).2 with
 | true=>
  unfold encR at hq
  rw [if_pos okx] at hq
  cases hq
  have v0:v=false:=by
   cases v with
   | false=>rfl
   | true=>rw [hv.1 rfl] at okx;cases okx
  subst v0
  obtain rfl:0=n:=hbl
  exact condC (fun _=>condC (fun _=>fin) (fun g=>absurd g (by decide))) (fun g=>absurd g (by decide))
 | false=>
  unfold encR at hq
  rw [if_neg (by rw [okx];exact Bool.false_ne_true)] at hq
  cases hq
  have v0:v=true:=hv.2 okx
  subst v0
  have hl:=enc_len okx
  refine condC (fun g=>absurd g (by decide)) (fun _=>condC (fun g=>absurd g (by decide)) (fun _=>condC (fun g=>absurd g (by simp;omega)) (fun _=>?_)))
  refine ⟨_,⟨hb,by omega⟩,fun d2 n2 i2 zs e2 E3 m3 hp hb2=>⟨m3,?_⟩⟩
  have m03:=mt_ m02 m3
  refine condC (fun _=>⟨m03,h _ m03⟩) (fun ge=>?_)
  have ge:e2=0:=by simpa using ge
  subst ge
  obtain ⟨ok,h4,rfl⟩:=pk_inv hp.eq
  have hp4:=pkL_len (k:=1) (f:=x01.from_) (t:= -1) (a:=a22) (y:=a23) (zs:=(enc x01).1) (by omega)
  have hbl2:=hb2.2.1
  refine ⟨_,⟨hb2,by omega⟩,fun k f t a y d3 n3 i3 zs3 e3 E4 m4 hu hb3=>⟨m4,?_⟩⟩
  have hu:=hu.eq
  rw [uk_pk ok h4] at hu
  cases hu
  have hbl3:=hb3.2.1
  refine ⟨_,⟨hb3,by omega⟩,fun y e4 p11 q11 r11 p12 q12 r12 p13 q13 r13 p14 q14 r14 p16 q16 r16 p17 q17 r17 p18 q18 r18 p27 q27 r27 p28 q28 r28 E5 m5 hd hM5=>⟨m5,?_⟩⟩
  have m05:=mt_ m03 (mt_ m4 m5)
  obtain ⟨y',s',hr,hy⟩:=hd.eq
  obtain ⟨q1,q2⟩:=dec_of_enc hW1 okx (List.append_nil _).symm hr
  rw [q2] at hy
  simp only [Int.lt_irrefl,if_true,if_false] at hy
  obtain ⟨rfl,rfl⟩:=hy
  subst q1
  exact condC (fun _=>condC (fun _=>⟨y,⟨⟨⟨b1,l1,c1,b2,l2,c2,b3,l3,c3,b4,l4,c4,b5,l5,c5,b6,l6,c6,b7,l7,c7,b8,l8,c8,b9,l9,c9,rfl,hM1.mono m05⟩⟩,⟨⟨p11,q11,r11,p12,q12,r12,p13,q13,r13,p14,q14,r14,p16,q16,r16,p17,q17,r17,p18,q18,r18,p27,q27,r27,p28,q28,r28,rfl,hM5⟩⟩,w1⟩,mr_,m05,h _ m05⟩) (fun g=>absurd g (by decide))) (fun g=>absurd g (by decide))
theorem opn9 (W:World) (K:List SV->Prop) (h:∀ a1:Int,(Lit.int .i64 a1).wf=true->∀ a2:Int,(Lit.int .i64 a2).wf=true->∀ a3:Int,(Lit.int .i64 a3).wf=true->∀ a4:Int,(Lit.int .i64 a4).wf=true->∀ a5:Int,(Lit.int .i64 a5).wf=true->∀ a6:Int,(Lit.int .i64 a6).wf=true->∀ a7:Int,(Lit.int .i64 a7).wf=true->∀ a8:Int,(Lit.int .i64 a8).wf=true->∀ a9:Int,(Lit.int .i64 a9).wf=true->∀ a10:Int,(Lit.int .i64 a10).wf=true->∀ a11:Int,(Lit.int .i64 a11).wf=true->∀ (b1:Option Addr) (l1 c1:Nat) (z1:List (List Value)),(l1<=c1)->(c1<=maxLen)->(b1=none->c1=0)->(z1.length=c1)->RowAt W (.slice b1 l1 c1) z1.flatten->(∀ r∈z1,r.length=4/\Shp Try.prog W 12 95 r)->∀ (b2:Option Addr) (l2 c2:Nat) (z2:List (List Value)),(l2<=c2)->(c2<=maxLen)->(b2=none->c2=0)->(z2.length=c2)->RowAt W (.slice b2 l2 c2) z2.flatten->(∀ r∈z2,r.length=5/\Shp Try.prog W 12 97 r)->∀ (b3:Option Addr) (l3 c3:Nat) (z3:List (List Value)),(l3<=c3)->(c3<=maxLen)->(b3=none->c3=0)->(z3.length=c3)->RowAt W (.slice b3 l3 c3) z3.flatten->(∀ r∈z3,r.length=3/\Shp Try.prog W 12 99 r)->∀ (b4:Option Addr) (l4 c4:Nat) (z4:List (List Value)),(l4<=c4)->(c4<=maxLen)->(b4=none->c4=0)->(z4.length=c4)->RowAt W (.slice b4 l4 c4) z4.flatten->(∀ r∈z4,r.length=4/\Shp Try.prog W 12 101 r)->∀ a12:Bool,∀ (b5:Option Addr) (l5 c5:Nat) (z5:List (List Value)),(l5<=c5)->(c5<=maxLen)->(b5=none->c5=0)->(z5.length=c5)->RowAt W (.slice b5 l5 c5) z5.flatten->(∀ r∈z5,r.length=8/\Shp Try.prog W 12 127 r)->∀ (b6:Option Addr) (l6 c6:Nat) (z6:List (List Value)),(l6<=c6)->(c6<=maxLen)->(b6=none->c6=0)->(z6.length=c6)->RowAt W (.slice b6 l6 c6) z6.flatten->(∀ r∈z6,r.length=8/\Shp Try.prog W 12 127 r)->∀ (b7:Option Addr) (l7 c7:Nat) (z7:List Int),(l7<=c7)->(c7<=maxLen)->(b7=none->c7=0)->(z7.length=c7)->(∀ x∈z7,(Lit.int .i64 x).wf=true)->RowAt W (.slice b7 l7 c7) (z7.map (.int .i64))->∀ a13:Int,(Lit.int .i64 a13).wf=true->∀ a14:Int,(Lit.int .i64 a14).wf=true->∀ a15:Int,(Lit.int .u64 a15).wf=true->∀ a16:Int,(Lit.int .i64 a16).wf=true->∀ a17:Int,(Lit.int .i64 a17).wf=true->∀ a18:Int,(Lit.int .i64 a18).wf=true->∀ a19:Int,(Lit.int .i64 a19).wf=true->∀ a20:Int,(Lit.int .i64 a20).wf=true->∀ (b8:Option Addr) (l8 c8:Nat) (z8:List Int),(l8<=c8)->(c8<=maxLen)->(b8=none->c8=0)->(z8.length=c8)->(∀ x∈z8,(Lit.int .u8 x).wf=true)->RowAt W (.slice b8 l8 c8) (z8.map (.int .u8))->∀ (b9:Option Addr) (l9 c9:Nat) (z9:List Int),(l9<=c9)->(c9<=maxLen)->(b9=none->c9=0)->(z9.length=c9)->(∀ x∈z9,(Lit.int .u64 x).wf=true)->RowAt W (.slice b9 l9 c9) (z9.map (.int .u64))->∀ a21:Bool,∀ a22:Int,(Lit.int .i64 a22).wf=true->∀ a23:Int,(Lit.int .i64 a23).wf=true->K [.agg [I a1,I a2,I a3,I a4,I a5,I a6,I a7,I a8,I a9,I a10,I a11,L b1 l1 c1,L b2 l2 c2,L b3 l3 c3,L b4 l4 c4,B a12,L b5 l5 c5,L b6 l6 c6,L b7 l7 c7,I a13,I a14,.raw (.int .u64 a15),I a16,I a17,I a18,I a19,I a20,L b8 l8 c8,L b9 l9 c9,B a21],I a22,I a23]):opnAll Try.prog W Try.f9.params.toList K:=
 same (by kernel_rfl) h
theorem sem9 (W:World):opnAll Try.prog W Try.f9.params.toList fun ss=>TabSem Try.prog 9 ss (fun v cs=>RowAt W v cs) fun r _=>r= .raw (.bool true):=by
 refine opn9 W _ ?_
 intro a1 ha1 a2 ha2 a3 ha3 a4 ha4 a5 ha5 a6 ha6 a7 ha7 a8 ha8 a9 ha9 a10 ha10 a11 ha11 b1 l1 c1 z1 hl1 hc1 hb1 hz1 hE1 hr1 b2 l2 c2 z2 hl2 hc2 hb2 hz2 hE2 hr2 b3 l3 c3 z3 hl3 hc3 hb3 hz3 hE3 hr3 b4 l4 c4 z4 hl4 hc4 hb4 hz4 hE4 hr4 a12 b5 l5 c5 z5 hl5 hc5 hb5 hz5 hE5 hr5 b6 l6 c6 z6 hl6 hc6 hb6 hz6 hE6 hr6 b7 l7 c7 z7 hl7 hc7 hb7 hz7 hw7 hE7 a13 ha13 a14 ha14 a15 ha15 a16 ha16 a17 ha17 a18 ha18 a19 ha19 a20 ha20 b8 l8 c8 z8 hl8 hc8 hb8 hz8 hw8 hE8 b9 l9 c9 z9 hl9 hc9 hb9 hz9 hw9 hE9 a21 a22 ha22 a23 ha23
 exact esm okL9 Try.func9 rfl (e9 (x01:=⟨a1,a2,a3,a4,a5,a6,a7,a8,a9,a10,a11,(RKof (q:=.i64) (k:=4) (n:=12) (e:=95) (ts:=[3,3,3,3]) (by kernel_rfl) rfl (fun t ht=>by simp at ht;subst ht;kernel_rfl) (by kernel_rfl) hl1 hb1 hz1 hE1 hr1).choose,(RKof (q:=.i64) (k:=5) (n:=12) (e:=97) (ts:=[3,3,3,3,3]) (by kernel_rfl) rfl (fun t ht=>by simp at ht;subst ht;kernel_rfl) (by kernel_rfl) hl2 hb2 hz2 hE2 hr2).choose,(RKof (q:=.i64) (k:=3) (n:=12) (e:=99) (ts:=[3,3,3]) (by kernel_rfl) rfl (fun t ht=>by simp at ht;subst ht;kernel_rfl) (by kernel_rfl) hl3 hb3 hz3 hE3 hr3).choose,(RKof (q:=.i64) (k:=4) (n:=12) (e:=101) (ts:=[3,3,3,3]) (by kernel_rfl) rfl (fun t ht=>by simp at ht;subst ht;kernel_rfl) (by kernel_rfl) hl4 hb4 hz4 hE4 hr4).choose,a12,(RKof (q:=.i64) (k:=8) (n:=12) (e:=127) (ts:=[3,3,3,3,3,3,3,3]) (by kernel_rfl) rfl (fun t ht=>by simp at ht;subst ht;kernel_rfl) (by kernel_rfl) hl5 hb5 hz5 hE5 hr5).choose,(RKof (q:=.i64) (k:=8) (n:=12) (e:=127) (ts:=[3,3,3,3,3,3,3,3]) (by kernel_rfl) rfl (fun t ht=>by simp at ht;subst ht;kernel_rfl) (by kernel_rfl) hl6 hb6 hz6 hE6 hr6).choose,((z7.take l7).map fun v=>[v]),a13,a14,a15,a16,a17,a18,a19,a20,(z8.take l8),((z9.take l9).map fun v=>[v]),a21⟩) ⟨(RKof (q:=.i64) (k:=4) (n:=12) (e:=95) (ts:=[3,3,3,3]) (by kernel_rfl) rfl (fun t ht=>by simp at ht;subst ht;kernel_rfl) (by kernel_rfl) hl1 hb1 hz1 hE1 hr1).choose_spec.1,(RKof (q:=.i64) (k:=5) (n:=12) (e:=97) (ts:=[3,3,3,3,3]) (by kernel_rfl) rfl (fun t ht=>by simp at ht;subst ht;kernel_rfl) (by kernel_rfl) hl2 hb2 hz2 hE2 hr2).choose_spec.1,(RKof (q:=.i64) (k:=3) (n:=12) (e:=99) (ts:=[3,3,3]) (by kernel_rfl) rfl (fun t ht=>by simp at ht;subst ht;kernel_rfl) (by kernel_rfl) hl3 hb3 hz3 hE3 hr3).choose_spec.1,(RKof (q:=.i64) (k:=4) (n:=12) (e:=101) (ts:=[3,3,3,3]) (by kernel_rfl) rfl (fun t ht=>by simp at ht;subst ht;kernel_rfl) (by kernel_rfl) hl4 hb4 hz4 hE4 hr4).choose_spec.1,(RKof (q:=.i64) (k:=8) (n:=12) (e:=127) (ts:=[3,3,3,3,3,3,3,3]) (by kernel_rfl) rfl (fun t ht=>by simp at ht;subst ht;kernel_rfl) (by kernel_rfl) hl5 hb5 hz5 hE5 hr5).choose_spec.1,(RKof (q:=.i64) (k:=8) (n:=12) (e:=127) (ts:=[3,3,3,3,3,3,3,3]) (by kernel_rfl) rfl (fun t ht=>by simp at ht;subst ht;kernel_rfl) (by kernel_rfl) hl6 hb6 hz6 hE6 hr6).choose_spec.1,RK1of (q:=.i64) hl7 hb7 hz7 hE7,Bs.of hl8 hb8 hz8 hw8 hE8,RK1of (q:=.u64) hl9 hb9 hz9 hE9⟩ ⟨wf64 ha15,fun r hr=>((RKof (q:=.i64) (k:=4) (n:=12) (e:=95) (ts:=[3,3,3,3]) (by kernel_rfl) rfl (fun t ht=>by simp at ht;subst ht;kernel_rfl) (by kernel_rfl) hl1 hb1 hz1 hE1 hr1).choose_spec.2 r hr).1,fun r hr=>((RKof (q:=.i64) (k:=5) (n:=12) (e:=97) (ts:=[3,3,3,3,3]) (by kernel_rfl) rfl (fun t ht=>by simp at ht;subst ht;kernel_rfl) (by kernel_rfl) hl2 hb2 hz2 hE2 hr2).choose_spec.2 r hr).1,fun r hr=>((RKof (q:=.i64) (k:=3) (n:=12) (e:=99) (ts:=[3,3,3]) (by kernel_rfl) rfl (fun t ht=>by simp at ht;subst ht;kernel_rfl) (by kernel_rfl) hl3 hb3 hz3 hE3 hr3).choose_spec.2 r hr).1,fun r hr=>((RKof (q:=.i64) (k:=4) (n:=12) (e:=101) (ts:=[3,3,3,3]) (by kernel_rfl) rfl (fun t ht=>by simp at ht;subst ht;kernel_rfl) (by kernel_rfl) hl4 hb4 hz4 hE4 hr4).choose_spec.2 r hr).1,fun r hr=>((RKof (q:=.i64) (k:=8) (n:=12) (e:=127) (ts:=[3,3,3,3,3,3,3,3]) (by kernel_rfl) rfl (fun t ht=>by simp at ht;subst ht;kernel_rfl) (by kernel_rfl) hl5 hb5 hz5 hE5 hr5).choose_spec.2 r hr).1,fun r hr=>((RKof (q:=.i64) (k:=8) (n:=12) (e:=127) (ts:=[3,3,3,3,3,3,3,3]) (by kernel_rfl) rfl (fun t ht=>by simp at ht;subst ht;kernel_rfl) (by kernel_rfl) hl6 hb6 hz6 hE6 hr6).choose_spec.2 r hr).1,fun r hr=>(RK1wf (q:=.i64) (l:=l7) hw7 r hr).1,wf_prf (RK1wf (l:=l9) hw9)⟩ ha22 ha23 (fun _ _=>rfl))
theorem lifted9 (os:Os) (started:os.Started) (H:Type) (enc:TypeId×Value->H):
  ReturnsInHanded {} Try.checked os 9 .any (Rows.beaconInFrameSpec.pre6 enc Try.prog Try.f9 Rows.beaconInFrameRow.domain false) (Rows.beaconInFrameSpec.post enc Try.prog Try.f9 false true false false):=
 lift_true (C:=Try.checked) (by kernel_rfl) (by kernel_rfl) started (by kernel_rfl) Try.func9
  (ChangeSpec.witness6 (enc:=enc) (C:=Try.checked) false ⟨#[],#[.agg #[.int .i64 0,.int .i64 0,.int .i64 0,.int .i64 0,.int .i64 0,.int .i64 0,.int .i64 0,.int .i64 0,.int .i64 0,.int .i64 0,.int .i64 0,.slice none 0 0,.slice none 0 0,.slice none 0 0,.slice none 0 0,.bool false,.slice none 0 0,.slice none 0 0,.slice none 0 0,.int .i64 0,.int .i64 0,.int .u64 0,.int .i64 0,.int .i64 0,.int .i64 0,.int .i64 0,.int .i64 0,.slice none 0 0,.slice none 0 0,.bool false],.int .i64 0,.int .i64 0],[]⟩ 8 (by kernel_rfl) (by kernel_rfl) (by kernel_rfl) (by kernel_rfl))
  (Tb:=4) (by kernel_rfl) (by kernel_rfl) (by kernel_rfl) rfl
  (fun ds hl=>by
   match ds,hl with
   | [d0,d1,d2],_=>exact ⟨rfl,rfl,rfl⟩)
  sem9
theorem over9:Rows.beaconInFrameRow.holds Try.pinned (OpenSpec.ofChange Rows.beaconInFrameSpec):=
 OpenClaim.holds_of_wide 9 Try.f9 rfl rfl rfl rfl rfl rfl rfl ⟨rfl,rfl,rfl,rfl,rfl⟩ rfl rfl rfl rfl rfl (by kernel_rfl) Try.func9 (by kernel_rfl)
  (of_decide_eq_true (by kernel_rfl)) (by unfold Func.isWrapper;first|(rw [if_pos (by decide+kernel)];kernel_rfl)|(rw [if_neg (by decide+kernel)];exact ⟨rfl,rfl⟩))
  (fun os started H enc _=>lifted9 os started H enc)
theorem proved9:Rows.BeaconInFrameSaid:=over9
end Go.Proofs.Ytnjmojacdkjfoaa.BeaconOwn
