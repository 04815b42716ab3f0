/- The law's proof: for every input the law answers true. Conditions: none. -/
import Derived.Test.YtnjmojacdkjfoaaBb38
import Derived.Test.YtnjmojacdkjfoaaRows
namespace Go.Proofs.Ytnjmojacdkjfoaa.BeaconOwn
open Go Go.Sx Go.Proofs.Ytnjmojacdkjfoaa
set_option maxRecDepth 100000
set_option maxHeartbeats 4000000
set_option linter.unusedVariables false
set_option linter.unusedSimpArgs false
variable {E:Mem} {K:SV→Mem→Prop}
noncomputable def L6:Cx:={ P:=Try.prog,inl:=fun f=>List.contains [] f,tab:=tabHd,isB:=fun _=>false,tabB:=fun _ _ _ _ _=>False,opt:={ unroll:=0,carry:=[10,11] },muts:=mutsD }
theorem okL6:CxOK L6:=CxOK.four tabHd_ok (by kernel_rfl) (okInl (by kernel_rfl)) (fun _ _ _ _ _ h=>h.elim)
theorem filt_get {α:Type} {p:α→Bool} {xs:List α} {i:Nat} {x:α} (hx:xs[i]? =some x) (hp:p x=true):(xs.filter p)[((xs.take i).filter p).length]? =some x:=by
 obtain ⟨hi,e⟩:=List.getElem?_eq_some_iff.1 hx
 have h:xs=xs.take i++x::xs.drop (i+1):=by rw [← e,← List.drop_eq_getElem_cons hi,List.take_append_drop]
 have h2:xs.filter p=(xs.take i).filter p++x::(xs.drop (i+1)).filter p:=by
  conv=>lhs;rw [h]
  rw [List.filter_append,List.filter_cons_of_pos hp]
 rw [h2,List.getElem?_append_right (Nat.le_refl _),Nat.sub_self,List.getElem?_cons_zero]
theorem old_two {fr mo:Int} {xs:List (Int×Bc)} (hf:0≤fr∧fr≤1000000000∧0≤mo∧fr+mo≤1000000000):(xs.filter fun x=> !oldN fr x).filter (fun x=> !oldN (fr+mo) x)=xs.filter fun x=> !oldN (fr+mo) x:=by
 rw [List.filter_filter]
 refine List.filter_congr fun x _=>?_
 rw [Bool.eq_iff_iff]
 simp [oldN]
 omega
theorem old_two' {fr mo:Int} {xs:List (Int×Bc)} (hf:0≤fr∧fr≤1000000000∧0≤mo∧fr+mo≤1000000000):(xs.filter fun x=> !oldN (fr+mo) x).filter (fun x=> !oldN fr x)=xs.filter fun x=> !oldN (fr+mo) x:=by
 rw [List.filter_filter]
 refine List.filter_congr fun x _=>?_
 rw [Bool.eq_iff_iff]
 simp [oldN]
 omega
def sh6 (b b':Option Addr) (n c n' c':Nat) (fr mo:Int) (k i:Nat) (E:Mem):St:=⟨[some (L b n c),some (I fr),some (I mo),none,none,none,none,some (B true),none,some (L b' n' c'),some (I (k:Nat)),some (I (i:Nat))]++List.replicate 108 none,[],E⟩
theorem rn6 {b b':Option Addr} {n c n' c' k i:Nat} {fr mo:Int} {xs:List (Int×Bc)} {E0:Mem} (q:Mem.le E0 E) (h:∀ E',Mem.le E0 E'→K (B true) E') (h0:SL NearR E b n c xs) (h1:SL NearR E b' n' c' (xs.filter fun x=> !oldN fr x))
  (hs:∀ x∈xs,BcSm x.2) (hn:n≤70) (hf:0≤fr∧fr≤1000000000∧0≤mo∧fr+mo≤1000000000) (hi:i≤n) (hk:k=((xs.take i).filter fun x=> !oldN fr x).length)
  (ih:∀ k',i<n→k'=((xs.take (i+1)).filter fun x=> !oldN fr x).length→Lp L6 8 Try.f6 [1,1,1,1,1,1,0,1,0] 0 (pubK E0 K) (sh6 b b' n c n' c' fr mo k' (i+1) E)):
  Rnd L6 8 Try.f6 [1,1,1,1,1,1,0,1,0] 0 (pubK E0 K) (sh6 b b' n c n' c' fr mo k i E):=by
 refine same (by kernel_rfl) (?_:bif decide ((NI i)<(NI n)) then req ((0:Int)≤(NI i)∧(NI i)<(NI n)) ((∃ (cs:List Value),E (VS b n c) cs∧(cs=[]→False))∧∃ (n_1:Int),LoadE L6.P E 3 (VS b n c) (Int.toNat (NI i)*31+0) (I n_1)∧bif decide (n_1<WI (fr-(3:Int))) then Lp L6 8 Try.f6 [1,1,1,1,1,1,0,1,0] 0 (pubK E0 K) { fr:=some (L b n c)::some (I fr)::some (I mo)::none::none::none::none::some (B true)::none::some (L b' n' c')::some (I (NI k))::some (I (WI ((NI i)+(1:Int))))::no32 (no32 (no32 (no8 (no4 [])))),bx:=[],E:=E:St } else bif decide ((NI k)≥(NI n')) then Mem.le E0 E∧K (B false) E else req ((0:Int)≤(NI k)∧(NI k)<(NI n')) ((∃ (cs:List Value),E (VS b' n' c') cs∧(cs=[]→False))∧∃ (n_2:Int),LoadE L6.P E 3 (VS b' n' c') (Int.toNat (NI k)*31+0) (I n_2)∧req ((0:Int)≤(NI i)∧(NI i)<(NI n)) ((∃ (cs:List Value),E (VS b n c) cs∧(cs=[]→False))∧∃ (n_3:Int),LoadE L6.P E 3 (VS b n c) (Int.toNat (NI i)*31+0) (I n_3)∧bif bif false then true else n_2 !=n_3 then Mem.le E0 E∧K (B false) E else req ((0:Int)≤(NI k)∧(NI k)<(NI n')) ((∃ (cs:List Value),E (VS b' n' c') cs∧(cs=[]→False))∧∃ (n_4:Int),LoadE L6.P E 3 (VS b' n' c') (Int.toNat (NI k)*31+1+0) (I n_4)∧req ((0:Int)≤(NI i)∧(NI i)<(NI n)) ((∃ (cs:List Value),E (VS b n c) cs∧(cs=[]→False))∧∃ (n_5:Int),LoadE L6.P E 3 (VS b n c) (Int.toNat (NI i)*31+1+0) (I n_5)∧bif bif false then true else n_4 !=n_5 then Mem.le E0 E∧K (B false) E else Lp L6 8 Try.f6 [1,1,1,1,1,1,0,1,0] 0 (pubK E0 K) { fr:=some (L b n c)::some (I fr)::some (I mo)::none::none::none::none::some (B true)::none::some (L b' n' c')::some (I (WI ((NI k)+(1:Int))))::some (I (WI ((NI i)+(1:Int))))::no32 (no32 (no32 (no8 (no4 [])))),bx:=[],E:=E:St }))))) else ∃ (xs:List (Int×Bc)),(SL NearR E b' n' c' xs∧n'≤1000000)∧∀ (b':Option Addr) (n'_1 c':Nat) (E':Mem),Mem.le E E'→SL NearR E' b' n'_1 c' (List.filter (fun (x:Int×Bc)=> !oldN (WI (fr+mo)) x) xs)→Mem.le E E'∧∃ (xs:List (Int×Bc)),(SL NearR E' b n c xs∧n≤1000000)∧∀ (b'_1:Option Addr) (n'_2 c'_1:Nat) (E'_1:Mem),Mem.le E' E'_1→SL NearR E'_1 b'_1 n'_2 c'_1 (List.filter (fun (x:Int×Bc)=> !oldN (WI (fr+mo)) x) xs)→Mem.le E' E'_1∧∃ (xs:List (Int×Bc)),(SL NearR E'_1 b'_1 n'_2 c'_1 xs∧n'_2≤1000000)∧∀ (b'_2:Option Addr) (n'_3 c'_2:Nat) (E':Mem),Mem.le E'_1 E'→SL NearR E' b'_2 n'_3 c'_2 (List.filter (fun (x:Int×Bc)=> !oldN fr x) xs)→Mem.le E'_1 E'∧bif bif true then (NI k)==(NI n') else false then ∃ (xs:List (Int×Bc)),(SL NearR E' b' n'_1 c' xs∧SL NearR E' b'_1 n'_2 c'_1 xs∧(∀ (x:Int×Bc),List.Mem x xs→BcSm x.snd)∧n'_1≤1000000)∧Mem.le E' E'∧∃ (xs:List (Int×Bc)),(SL NearR E' b'_1 n'_2 c'_1 xs∧SL NearR E' b'_2 n'_3 c'_2 xs∧(∀ (x:Int×Bc),List.Mem x xs→BcSm x.snd)∧n'_2≤1000000)∧Mem.le E' E'∧Mem.le E0 E'∧K (B true) E' else Mem.le E0 E'∧K (B false) E')
 delta WI NI VS no4 no8 no32
 have hl:=h0.len
 have hl':=h1.len
 refine condC (fun g=>?_) (fun g=>?_)
 ·have g:i<n:=by simpa using g
  have w:IntKind.wrap .i64 ((i:Int)+1)=((i+1:Nat):Int):=by rw [wrap_i64 (by omega)];omega
  have wf:IntKind.wrap .i64 (fr-3)=fr-3:=by rw [wrap_i64 (by omega)]
  obtain ⟨x,hx⟩:∃ x,xs[i]? =some x:=⟨_,List.getElem?_eq_getElem (by omega)⟩
  refine req_intro (by omega) ⟨SL.ne NearR_ok h0 g,x.1,near_frame h0 hx,?_⟩
  rw [wf,w]
  have tk:=take_get' hx
  refine condC (fun g1=>?_) (fun g1=>?_)
  ·have g1:x.1<fr-3:=by simpa using g1
   have ho:oldN fr x=true:=by simp [oldN];omega
   exact Lp_re [] (ih k g (by rw [tk,List.filter_append,hk];simp [ho])) (wkH (Mem.le_refl _))
  ·have g1:¬ x.1<fr-3:=by simpa using g1
   have ho:oldN fr x=false:=by simp [oldN];omega
   have hy:=filt_get (p:=fun x=> !oldN fr x) hx (by simp [ho])
   rw [← hk] at hy
   have hkn:k<n':=by have:=(List.getElem?_eq_some_iff.1 hy).1;omega
   have hkl:n'≤n:=by rw [← hl,← hl'];exact List.length_filter_le _ _
   have wk:IntKind.wrap .i64 ((k:Int)+1)=((k+1:Nat):Int):=by rw [wrap_i64 (by omega)];omega
   refine condC (fun g2=>absurd g2 (by simp;omega)) (fun _=>?_)
   refine req_intro (by omega) ⟨SL.ne NearR_ok h1 hkn,x.1,near_frame h1 hy,req_intro (by omega) ⟨SL.ne NearR_ok h0 g,x.1,near_frame h0 hx,condC (fun g3=>absurd g3 (by simp)) (fun _=>?_)⟩⟩
   refine req_intro (by omega) ⟨SL.ne NearR_ok h1 hkn,x.2.from_,near_from h1 hy,req_intro (by omega) ⟨SL.ne NearR_ok h0 g,x.2.from_,near_from h0 hx,condC (fun g3=>absurd g3 (by simp)) (fun _=>?_)⟩⟩
   rw [wk]
   exact Lp_re [] (ih (k+1) g (by rw [tk,List.filter_append,hk];simp [ho])) (wkH (Mem.le_refl _))
 ·have g:¬ i<n:=by simpa using g
  have wm:IntKind.wrap .i64 (fr+mo)=fr+mo:=by rw [wrap_i64 (by omega)]
  rw [wm]
  have hkn:k=n':=by rw [hk,List.take_of_length_le (by omega)];exact hl'
  have hkl:n'≤n:=by rw [← hl,← hl'];exact List.length_filter_le _ _
  have fl:((xs.filter fun x=> !oldN (fr+mo) x)).length≤xs.length:=List.length_filter_le _ _
  have fs:∀ (x:Int×Bc),List.Mem x (xs.filter fun x=> !oldN (fr+mo) x)→BcSm x.2:=fun x hx=>hs x (List.mem_filter.1 hx).1
  refine ⟨_,⟨h1,by omega⟩,fun b2 n2 c2 E2 m2 s2=>⟨m2,xs,⟨h0.mono NearR_ok m2,by omega⟩,fun b3 n3 c3 E3 m3 s3=>⟨m3,_,⟨s3,?_⟩,fun b4 n4 c4 E4 m4 s4=>⟨m4,?_⟩⟩⟩⟩
  ·have:=s3.len;omega
  rw [old_two hf] at s2
  rw [old_two' hf] at s4
  have t2:=s2.len
  have t3:=s3.len
  refine condC (fun _=>⟨_,⟨(s2.mono NearR_ok m3).mono NearR_ok m4,s3.mono NearR_ok m4,fs,by omega⟩,Mem.le_refl _,_,⟨s3.mono NearR_ok m4,s4,fs,by omega⟩,Mem.le_refl _,?_,?_⟩) (fun g=>absurd g (by simp [hkn]))
  ·exact Mem.le_trans q (Mem.le_trans m2 (Mem.le_trans m3 m4))
  ·exact h _ (Mem.le_trans q (Mem.le_trans m2 (Mem.le_trans m3 m4)))
theorem e6 {b1:Option Addr} {l1:Nat} {c1:Nat} {x1:List (Int×Bc)} {a1:Int} {a2:Int} (hc1:l1≤maxLen) (hS10:SL NearR E b1 l1 c1 x1) (hS11:∀ y∈x1,BcWf y.2) (ha1:(Lit.int .i64 a1).wf=true) (ha2:(Lit.int .i64 a2).wf=true) (h:∀ E':Mem,Mem.le E E'→K (B true) E'):
  Ent L6 8 Try.f6 [L b1 l1 c1,I a1,I a2] E K:=by
 refine same (by kernel_rfl) (?_:0=0∧∀ (E':Mem),Mem.le E E'→Mem.le E E'∧∃ (xs:List (Int×Bc)),SL NearR E' b1 l1 c1 xs∧∀ (f:Bool),(f=true→l1≤70∧∀ (x:Int×Bc),List.Mem x xs→BcFew x.snd)→Mem.le E' E'∧bif !f then Mem.le E E'∧K (B true) E' else bif bif false then true else decide (a1<(0:Int)) then Mem.le E E'∧K (B true) E' else bif bif false then true else decide (a2<(0:Int)) then Mem.le E E'∧K (B true) E' else bif bif false then true else decide (a1>(1000000000:Int)) then Mem.le E E'∧K (B true) E' else bif bif false then true else decide (a2>WI ((1000000000:Int)-a1)) then Mem.le E E'∧K (B true) E' else ∃ (xs:List (Int×Bc)),(SL NearR E' b1 l1 c1 xs∧l1≤1000000)∧∀ (b':Option Addr) (n' c':Nat) (E'_1:Mem),Mem.le E' E'_1→SL NearR E'_1 b' n' c' (List.filter (fun (x:Int×Bc)=> !oldN a1 x) xs)→Mem.le E' E'_1∧Lp L6 8 Try.f6 [1,1,1,1,1,1,0,1,0] 0 (pubK E K) { fr:=some (L b1 l1 c1)::some (I a1)::some (I a2)::none::none::none::none::some (B true)::some (B f)::some (L b' n' c')::some (I 0)::some (I 0)::none::none::none::some (B true)::some (L b1 l1 c1)::some (B f)::some (B f)::some (B !f)::some (B false)::some (I a1)::some (B (decide (a1<(0:Int))))::some (B (bif false then true else decide (a1<(0:Int))))::some (B false)::some (I a2)::some (B (decide (a2<(0:Int))))::some (B (bif false then true else decide (a2<(0:Int))))::some (B false)::some (I a1)::some (B (decide (a1>(1000000000:Int))))::some (B (bif false then true else decide (a1>(1000000000:Int))))::some (B false)::some (I a2)::some (I a1)::some (I (WI ((1000000000:Int)-a1)))::some (B (decide (a2>WI ((1000000000:Int)-a1))))::some (B (bif false then true else decide (a2>WI ((1000000000:Int)-a1))))::none::some (L b1 l1 c1)::some (I a1)::some (L b' n' c')::no32 (no32 (no8 (no4 (no2 [])))),bx:=[],E:=E'_1:St })
 delta WI no2 no4 no8 no32
 refine ⟨rfl,fun E1 m1=>⟨m1,x1,hS10.mono NearR_ok m1,fun f hf=>⟨Mem.le_refl _,?_⟩⟩⟩
 have fin:Mem.le E E1∧K (B true) E1:=⟨m1,h E1 m1⟩
 refine condC (fun _=>fin) (fun g0=>condC (fun _=>fin) (fun g1=>condC (fun _=>fin) (fun g2=>condC (fun _=>fin) (fun g3=>condC (fun _=>fin) (fun g4=>?_)))))
 have g0:f=true:=by simpa using g0
 have g1:¬ a1<0:=by simpa using g1
 have g2:¬ a2<0:=by simpa using g2
 have g3:¬ a1>1000000000:=by simpa using g3
 have w4:IntKind.wrap .i64 (1000000000-a1)=1000000000-a1:=by rw [wrap_i64 (by omega)]
 rw [w4] at g4
 have g4:¬ a2>1000000000-a1:=by simpa using g4
 obtain ⟨hn,hw⟩:=hf g0
 have h0:=hS10.mono NearR_ok m1
 refine ⟨x1,⟨h0,by omega⟩,fun b' n' c' E2 m2 s2=>⟨m2,?_⟩⟩
 have h0:=h0.mono NearR_ok m2
 exact Lp_re [] (Lp_ind okL6 (fun z:{p:Nat×Nat//p.2≤l1∧p.1=((x1.take p.2).filter fun x=> !oldN a1 x).length}=>sh6 b1 b' l1 c1 n' c' a1 a2 z.1.1 z.1.2 E2) (fun z=>l1-z.1.2) (fun z ih=>rn6 (Mem.le_trans m1 m2) h h0 s2 (fun x hx=>(hw x hx).sm) hn ⟨by omega,by omega,by omega,by omega⟩ z.2.1 z.2.2 (fun k' g hk'=>ih ⟨(k',z.1.2+1),g,hk'⟩ (by show l1-(_+1)<l1-_;omega))) ⟨(0,0),Nat.zero_le _,by simp⟩) (wkH (Mem.le_refl _))
theorem opn6 (W:World) (K:List SV→Prop) (h:∀ (b1:Option Addr) (l1 c1:Nat) (z1:List (List Value)),(l1≤c1)→(c1≤maxLen)→(b1=none→c1=0)→(z1.length=c1)→RowAt W (.slice b1 l1 c1) z1.flatten→(∀ r∈z1,r.length=31∧Shp Try.prog W 12 61 r)→∀ a1:Int,(Lit.int .i64 a1).wf=true→∀ a2:Int,(Lit.int .i64 a2).wf=true→K [L b1 l1 c1,I a1,I a2]):opnAll Try.prog W Try.f6.params.toList K:=
 same (by kernel_rfl) h
theorem sem6 (W:World):opnAll Try.prog W Try.f6.params.toList fun ss=>TabSem Try.prog 6 ss (fun v cs=>RowAt W v cs) fun r _=>r= .raw (.bool true):=by
 refine opn6 W _ ?_
 intro b1 l1 c1 z1 hl1 hc1 hb1 hz1 hE1 hr1 a1 ha1 a2 ha2
 exact Ent.sem okL6 Try.func6 ⟨by kernel_rfl,by kernel_rfl⟩ rfl (e6 (Nat.le_trans hl1 hc1) (NRof hl1 hb1 hz1 hE1 hr1).choose_spec.1 (NRof hl1 hb1 hz1 hE1 hr1).choose_spec.2 ha1 ha2 (fun _ _=>rfl))
theorem lifted6 (os:Os) (started:os.Started) (H:Type) (enc:TypeId×Value→H):
  ReturnsInHanded {} Try.checked os 6 .any (Rows.beaconExpiringSpec.pre6 enc Try.prog Try.f6 Rows.beaconExpiringRow.domain false) (Rows.beaconExpiringSpec.post enc Try.prog Try.f6 false true false false):=
 lift_true (C:=Try.checked) (by kernel_rfl) (by kernel_rfl) started (by kernel_rfl) Try.func6
  (ChangeSpec.witness6 (enc:=enc) (C:=Try.checked) false ⟨#[],#[.slice none 0 0,.int .i64 0,.int .i64 0],[]⟩ 8 (by kernel_rfl) (by kernel_rfl) (by kernel_rfl) (by kernel_rfl))
  (Tb:=4) (by kernel_rfl) (by kernel_rfl) (by kernel_rfl) rfl
  (fun ds hl=>by
   match ds,hl with
   | [d0,d1,d2],_=>exact ⟨rfl,rfl,rfl⟩)
  sem6
theorem over6:Rows.beaconExpiringRow.holds Try.pinned (OpenSpec.ofChange Rows.beaconExpiringSpec):=
 OpenClaim.holds_of_wide 6 Try.f6 rfl rfl rfl rfl rfl rfl rfl ⟨rfl,rfl,rfl,rfl,rfl⟩ rfl rfl rfl rfl rfl (by kernel_rfl) Try.func6 (by kernel_rfl)
  (of_decide_eq_true (by kernel_rfl)) (by unfold Func.isWrapper;first|(rw [if_pos (by decide+kernel)];kernel_rfl)|(rw [if_neg (by decide+kernel)];exact ⟨rfl,rfl⟩))
  (fun os started H enc _=>lifted6 os started H enc)
theorem proved6:Rows.BeaconExpiringSaid:=over6
end Go.Proofs.Ytnjmojacdkjfoaa.BeaconOwn
