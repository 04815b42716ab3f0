/- The law's proof: for every input the law answers true. Conditions: none. -/
import Derived.Test.YtdaakdbkmjgloaaCp3
import Derived.Test.YtdaakdbkmjgloaaRows
namespace Go.Proofs.Ytdaakdbkmjgloaa.CustodyOwn
open Go Go.Sx Go.Proofs.Ytdaakdbkmjgloaa
set_option maxRecDepth 100000
set_option maxHeartbeats 4000000
set_option linter.unusedVariables false
set_option linter.unusedSimpArgs false
variable {E:Mem} {K:SV->Mem->Prop}
noncomputable def tabL5:FuncId->List SV->Mem->(SV->Mem->Prop)->Prop:=fun f args E K=>match f with
 | 7=>d0 args ((∀ E':Mem,Mem.le E E'->K (B true) E'))
 | 13=>d0 args ((∀ (s':Int) (b':Option Addr) (l' c':Nat) (ys:List Int) (e:Int) (E':Mem),Mem.le E E'->FmOK 512 4 s' ys e->Bs E' b' l' c' ys->K (.tup [.agg [I s',L b' l' c'],I e]) E'))
 | 8=>d2 args fun x0 x1=>dC x0 fun l1=>d2 l1 fun x0_0 x0_1=>dI x0_0 fun a1=>dS x0_1 fun b2 l3 c4=>dI x1 fun a5=>∃ (zs:List Int),Bs E b2 l3 c4 zs/\(∀ (b':Option Addr) (l' c':Nat) (xs:List (List Int)) (cnt e:Int) (E':Mem),Mem.le E E'->Hyp (heldF a5 a1 zs=((xs,cnt),e))->SL (RK .i64 5) E' b' l' c' xs->l'<=16->K (.tup [L b' l' c',I cnt,I e]) E')
 | 16=>d3 args fun x0 x1 x2=>dC x0 fun l1=>d2 l1 fun x0_0 x0_1=>dI x0_0 fun a1=>dS x0_1 fun b2 l3 c4=>dI x1 fun a5=>dC x2 fun l2=>d7 l2 fun x2_0 x2_1 x2_2 x2_3 x2_4 x2_5 x2_6=>dB x2_0 fun a6=>dI x2_1 fun a7=>dI x2_2 fun a8=>dI x2_3 fun a9=>dI x2_4 fun a10=>dI x2_5 fun a11=>dI x2_6 fun a12=>∃ (zs:List Int),Bs E b2 l3 c4 zs/\(∀ (s':Int) (b':Option Addr) (l' c':Nat) (ys:List Int) (e:Int) (E':Mem),Mem.le E E'->Hyp (opF a5 a1 zs a6 a7 a8 a9 a10 a11 a12=((s',ys),e))->Bs E' b' l' c' ys->K (.tup [.agg [I s',L b' l' c'],I e]) E')
 | _=>False
theorem tabL5_ok:TabOK Try.prog tabL5:=by
 intro f args E K h
 unfold tabL5 at h
 split at h
 ·obtain ⟨rfl,h⟩:=d0_elim h
  exact TabSem.congr rfl (esm okQM Try.func7 rfl (c7 h))
 ·obtain ⟨rfl,h⟩:=d0_elim h
  exact TabSem.congr rfl (esm okQH Try.func13 rfl (c13 h))
 ·replace h:=d2_elim h
  obtain ⟨x0,x1,rfl,h⟩:=h
  replace h:=dC_elim h
  obtain ⟨l1,hl1,h⟩:=h
  replace h:=d2_elim h
  obtain ⟨x0_0,x0_1,rfl,h⟩:=h
  replace h:=dI_elim h
  obtain ⟨a1,rfl,h⟩:=h
  replace h:=dS_elim h
  obtain ⟨b2,l3,c4,rfl,h⟩:=h
  replace h:=dI_elim h
  obtain ⟨a5,rfl,h⟩:=h
  obtain ⟨zs,g0,h⟩:=h
  exact TabSem.congr (valL_cons (asCells_val hl1) (valL_cons rfl rfl)) (esm okQE Try.func8 rfl (c8 g0 h))
 ·replace h:=d3_elim h
  obtain ⟨x0,x1,x2,rfl,h⟩:=h
  replace h:=dC_elim h
  obtain ⟨l1,hl1,h⟩:=h
  replace h:=d2_elim h
  obtain ⟨x0_0,x0_1,rfl,h⟩:=h
  replace h:=dI_elim h
  obtain ⟨a1,rfl,h⟩:=h
  replace h:=dS_elim h
  obtain ⟨b2,l3,c4,rfl,h⟩:=h
  replace h:=dI_elim h
  obtain ⟨a5,rfl,h⟩:=h
  replace h:=dC_elim h
  obtain ⟨l2,hl2,h⟩:=h
  replace h:=d7_elim h
  obtain ⟨x2_0,x2_1,x2_2,x2_3,x2_4,x2_5,x2_6,rfl,h⟩:=h
  replace h:=dB_elim h
  obtain ⟨a6,rfl,h⟩:=h
  replace h:=dI_elim h
  obtain ⟨a7,rfl,h⟩:=h
  replace h:=dI_elim h
  obtain ⟨a8,rfl,h⟩:=h
  replace h:=dI_elim h
  obtain ⟨a9,rfl,h⟩:=h
  replace h:=dI_elim h
  obtain ⟨a10,rfl,h⟩:=h
  replace h:=dI_elim h
  obtain ⟨a11,rfl,h⟩:=h
  replace h:=dI_elim h
  obtain ⟨a12,rfl,h⟩:=h
  obtain ⟨zs,g0,h⟩:=h
  exact TabSem.congr (valL_cons (asCells_val hl1) (valL_cons rfl (valL_cons (asCells_val hl2) rfl))) (esm okQL Try.func16 rfl (c16 g0 h))
 ·exact h.elim
noncomputable def WL5:Cx:={ P:=Try.prog,inl:=fun f=>List.contains [] f,tab:=tabL5,isB:=fun _=>false,tabB:=fun _ _ _ _ _=>False,opt:={ unroll:=0,carry:=[5,8,9] },muts:=mutsD }
theorem okWL5:CxOK WL5:=CxOK.four tabL5_ok (by kernel_rfl) (okInl (by kernel_rfl)) (fun _ _ _ _ _ h=>h.elim)
def us5 (a1 cnt s:Int) (bo b:Option Addr) (lo co l c:Nat) (i:Nat) (E:Mem):St:=⟨[oI a1,oL bo lo co,none,none,none,oB true,oc 0 0,none,oI cnt,oI (i:Nat),none,none,none,none,none,none,none,none,none,none,none,none,none,none,none,none,none,none,none,none,none,none,none,none,none,none,none,none,none,none,none,none,none,none,none,none,none,none,none,none,none,none,none,none,none,none,none,none,none,none,none,none,none,none,none,none,none,none,none,none,none,none,none,none,none,none,none,none,none,none,none,none,none,none,none,none,none,none,none,none,none,none,none,none,none,none,none,none,none,none,none,none,none,none],[⟨24,.lst [I s,L b l c],2,true⟩],E⟩
theorem ur5 {a1 cnt s:Int} {bo b:Option Addr} {lo co l c:Nat} {ops:List (Bool×List Int)} {zs:List Int} {st:List (List Int)} {E0:Mem} {i:Nat} (hO:SL OpR E bo lo co ops) (hB:Bs E b l c zs) (hl:lo<=40) (hh:heldF a1 s zs=((st,cnt),0)) (hE:Mem.le E0 E) (h:∀ E':Mem,Mem.le E E'->K (B true) E') (hi:i<=lo) (ih:i<lo->∀ (s cnt:Int) (b:Option Addr) (l c:Nat) (zs:List Int) (st:List (List Int)) (E1:Mem),Mem.le E E1->Bs E1 b l c zs->heldF a1 s zs=((st,cnt),0)->Lp WL5 8 Try.f5 [1,1,1,1,1,0,1,0] 0 (pubK E0 K) (us5 a1 cnt s bo b lo co l c (i+1) E1)):Rnd WL5 8 Try.f5 [1,1,1,1,1,0,1,0] 0 (pubK E0 K) (us5 a1 cnt s bo b lo co l c i E):=by
 refine sm_ (?_:bif decide ((NI i)<(NI lo)) then req (0<=(NI i)/\(NI i)<(NI lo)) ((∃ (cs:List Value),E (VS bo lo co) cs/\(cs=[]->False))/\∃ (b_1:Bool),∃ (n:Int),∃ (n_1:Int),∃ (n_2:Int),∃ (n_3:Int),∃ (n_4:Int),∃ (n_5:Int),LoadE WL5.P E 43 (VS bo lo co) (Int.toNat (NI i)*7) (SV.agg [B b_1,I n,I n_1,I n_2,I n_3,I n_4,I n_5])/\∃ (zs:List Int),Bs E b l c zs/\∀ (s':Int) (b':Option Addr) (l' c':Nat) (ys:List Int) (e:Int) (E':Mem),Mem.le E E'->Hyp (opF a1 s zs b_1 n n_1 n_2 n_3 n_4 n_5=((s',ys),e))->Bs E' b' l' c' ys->Mem.le E E'/\∃ (zs:List Int),Bs E' b' l' c' zs/\∀ (b'_1:Option Addr) (l'_1 c'_1:Nat) (xs:List (List Int)) (cnt_1 e_1:Int) (E'_1:Mem),Mem.le E' E'_1->Hyp (heldF a1 s' zs=((xs,cnt_1),e_1))->SL (RK IntKind.i64 5) E'_1 b'_1 l'_1 c'_1 xs->l'_1<=16->Mem.le E' E'_1/\bif e_1 !=(0:Int) then Mem.le E0 E'_1/\K (B false) E'_1 else bif bif false then true else decide (cnt_1<cnt) then Mem.le E0 E'_1/\K (B false) E'_1 else bif !b_1 then bif bif true then n==a1 else false then bif bif true then e==(0:Int) else false then bif bif true then decide (n_1>cnt) else false then Lp WL5 8 Try.f5 [1,1,1,1,1,0,1,0] 0 (pubK E0 K) { fr:=some (I a1)::oL bo lo co::none::none::none::oB (bif true then cnt_1==n_1 else false)::oc 0 0::none::oI cnt_1::oI (WI ((NI i)+1))::no32 (no32 (no16 (no8 (no4 (no2 []))))),bx:=[(⟨24,.lst [I s',L b' l' c'],2,true⟩:Box),⟨43,.lst [B b_1,I n,I n_1,I n_2,I n_3,I n_4,I n_5],7,true⟩,⟨24,.lst [I s',L b' l' c'],2,true⟩],E:=E'_1:St } else Lp WL5 8 Try.f5 [1,1,1,1,1,0,1,0] 0 (pubK E0 K) { fr:=some (I a1)::oL bo lo co::none::none::none::oB false::oc 0 0::none::oI cnt_1::oI (WI ((NI i)+1))::no32 (no32 (no16 (no8 (no4 (no2 []))))),bx:=[(⟨24,.lst [I s',L b' l' c'],2,true⟩:Box),⟨43,.lst [B b_1,I n,I n_1,I n_2,I n_3,I n_4,I n_5],7,true⟩,⟨24,.lst [I s',L b' l' c'],2,true⟩],E:=E'_1:St } else Lp WL5 8 Try.f5 [1,1,1,1,1,0,1,0] 0 (pubK E0 K) { fr:=some (I a1)::oL bo lo co::none::none::none::oB true::oc 0 0::none::oI cnt_1::oI (WI ((NI i)+1))::no32 (no32 (no16 (no8 (no4 (no2 []))))),bx:=[(⟨24,.lst [I s',L b' l' c'],2,true⟩:Box),⟨43,.lst [B b_1,I n,I n_1,I n_2,I n_3,I n_4,I n_5],7,true⟩,⟨24,.lst [I s',L b' l' c'],2,true⟩],E:=E'_1:St } else Lp WL5 8 Try.f5 [1,1,1,1,1,0,1,0] 0 (pubK E0 K) { fr:=some (I a1)::oL bo lo co::none::none::none::oB true::oc 0 0::none::oI cnt_1::oI (WI ((NI i)+1))::no32 (no32 (no16 (no8 (no4 (no2 []))))),bx:=[(⟨24,.lst [I s',L b' l' c'],2,true⟩:Box),⟨43,.lst [B b_1,I n,I n_1,I n_2,I n_3,I n_4,I n_5],7,true⟩,⟨24,.lst [I s',L b' l' c'],2,true⟩],E:=E'_1:St } else Lp WL5 8 Try.f5 [1,1,1,1,1,0,1,0] 0 (pubK E0 K) { fr:=some (I a1)::oL bo lo co::none::none::none::oB true::oc 0 0::none::oI cnt_1::oI (WI ((NI i)+1))::no32 (no32 (no16 (no8 (no4 (no2 []))))),bx:=[(⟨24,.lst [I s',L b' l' c'],2,true⟩:Box),⟨43,.lst [B b_1,I n,I n_1,I n_2,I n_3,I n_4,I n_5],7,true⟩,⟨24,.lst [I s',L b' l' c'],2,true⟩],E:=E'_1:St }) else Mem.le E0 E/\K (B true) E)
 delta WI NI VS no2 no4 no8 no16 no32
 have n1:=hO.len
 have bz:=hB.2.2.2.1
 refine condC (fun g=>?_) (fun g=>⟨hE,h E mr_⟩)
 have g:i<lo:=by simpa using g
 obtain ⟨x,hx⟩:∃ x,ops[i]? =some x:=⟨_,List.getElem?_eq_getElem (by omega)⟩
 obtain ⟨gv,o1,o2,o3,o4,o5,o6,ex,l7⟩:=rowOp hO hx
 rw [Int.toNat_natCast,wrap_i64 (x:=(i:Int)+1) (by omega)]
 refine req_intro (by omega) ⟨SL.ne OpR_ok hO g,gv,o1,o2,o3,o4,o5,o6,l7,zs,hB,fun s' b' l' c' ys e E1 k1 q1 B1=>⟨k1,ys,B1,fun b3 l3 c3 xs cn e2 E2 k2 q2 S2 l3'=>⟨k2,?_⟩⟩⟩
 have q1:opF a1 s zs gv o1 o2 o3 o4 o5 o6=((s',ys),e):=q1
 have q2:heldF a1 s' ys=((xs,cn),e2):=q2
 obtain ⟨st',r1,r2,r3⟩:=op_num bz hh q1
 rw [q2] at r1
 obtain ⟨u1,u2⟩:=Prod.mk.inj r1
 subst u2;subst u1
 have r2:cnt<=cn:=r2
 have r3:gv=false->o1=a1->e=0->cnt<o2/\cn=o2:=r3
 have kk:=mt_ k1 k2
 have go:Lp WL5 8 Try.f5 [1,1,1,1,1,0,1,0] 0 (pubK E0 K) (us5 a1 cn s' bo b' lo co l' c' (i+1) E2):=ih g s' cn b' l' c' ys xs E2 kk (B1.mono k2) q2
 refine condC (fun v=>absurd v (by decide)) (fun _=>condC (fun v=>by simp at v;omega) (fun _=>condC (fun w1=>condC (fun w2=>condC (fun w3=>?_) (fun _=>?_)) (fun _=>?_)) (fun _=>?_)))
 ·have w1:gv=false:=by simpa using w1
  have w2:o1=a1:=by simpa using w2
  have w3:e=0:=by simpa using w3
  obtain ⟨y1,y2⟩:=r3 w1 w2 w3
  refine condC (fun _=>?_) (fun v=>by simp at v;omega)
  have e3:(cn==o2)=true:=by simp [y2]
  rw [e3]
  exact Lp_re [some 0] (go) (wkG mr_)
 all_goals exact Lp_re [some 0] (go) (wkG mr_)
theorem ul5 {E:Mem} {a1 cnt s:Int} {bo b:Option Addr} {lo co l c:Nat} {ops:List (Bool×List Int)} {zs:List Int} {st:List (List Int)} {E0:Mem} (hO:SL OpR E bo lo co ops) (hB:Bs E b l c zs) (hl:lo<=40) (hh:heldF a1 s zs=((st,cnt),0)) (hE:Mem.le E0 E) (h:∀ E':Mem,Mem.le E E'->K (B true) E'):∀ {r i:Nat},i+r=lo->Lp WL5 8 Try.f5 [1,1,1,1,1,0,1,0] 0 (pubK E0 K) (us5 a1 cnt s bo b lo co l c i E)
 | 0,i,hi=>Lp_ind (ι:=Unit) okWL5 (fun _=>us5 a1 cnt s bo b lo co l c i E) (fun _=>0) (fun _ _=>ur5 hO hB hl hh hE h (by omega) (fun g=>by omega)) ()
 | r+1,i,hi=>Lp_ind (ι:=Unit) okWL5 (fun _=>us5 a1 cnt s bo b lo co l c i E) (fun _=>0) (fun _ _=>ur5 hO hB hl hh hE h (by omega) (fun g s cnt b l c zs st E1 k hB hh=>ul5 (hO.mono OpR_ok k) hB hl hh (mt_ hE k) (fun E2 k2=>h E2 (mt_ k k2)) (r:=r) (i:=i+1) (by omega))) ()
theorem e5 {a1:Int} {b1:Option Addr} {l1:Nat} {c1:Nat} {x1:List (Bool×List Int)} (ha1:(Lit.int .i64 a1).wf=true) (hc1:l1<=maxLen) (hS10:SL OpR E b1 l1 c1 x1) (hS11:∀ y∈x1,∀ z∈y.2,(Lit.int .i64 z).wf=true) (h:∀ E':Mem,Mem.le E E'->K (B true) E'):
  Ent WL5 8 Try.f5 [I a1,L b1 l1 c1] E K:=by
 refine sm_ (?_:∀ (E':Mem),Mem.le E E'->Mem.le E E'/\∀ (s':Int) (b':Option Addr) (l' c':Nat) (ys:List Int) (e:Int) (E'_1:Mem),Mem.le E' E'_1->FmOK 512 4 s' ys e->Bs E'_1 b' l' c' ys->Mem.le E' E'_1/\bif e !=(0:Int) then Mem.le E E'_1/\K (B (bif true then e==(0:Int) else false)) E'_1 else bif bif false then true else decide (a1<(0:Int)) then Mem.le E E'_1/\K (B (bif true then e==(0:Int) else false)) E'_1 else bif bif false then true else decide (a1>=(60:Int)) then Mem.le E E'_1/\K (B (bif true then e==(0:Int) else false)) E'_1 else bif bif false then true else decide ((NI l1)>40) then Mem.le E E'_1/\K (B (bif true then e==(0:Int) else false)) E'_1 else Lp WL5 8 Try.f5 [1,1,1,1,1,0,1,0] 0 (pubK E K) { fr:=some (I a1)::oL b1 l1 c1::none::none::none::oB true::oc 0 0::oI e::oI 0::oI 0::no4 (no2 (oB true::some (SV.tup [SV.agg [I s',L b' l' c'],I e])::some (SV.tup [SV.agg [I s',L b' l' c'],I e])::some (SV.agg [I s',L b' l' c'])::oI e::oI e::oB (e !=(0:Int))::oB false::oI a1::oB (decide (a1<(0:Int)))::oB (bif false then true else decide (a1<(0:Int)))::oB false::oI a1::oB (decide (a1>=(60:Int)))::oB (bif false then true else decide (a1>=(60:Int)))::oB false::oL b1 l1 c1::oI (NI l1)::oB (decide ((NI l1)>40))::oB (bif false then true else decide ((NI l1)>40))::no32 (no32 (no4 [])))),bx:=[(⟨24,.lst [I s',L b' l' c'],2,true⟩:Box)],E:=E'_1:St })
 delta NI no2 no4 no32
 refine fun EA kA=>⟨kA,fun s0 b0 l0 c0 y0 e0 EB kB F0 B0=>⟨kB,?_⟩⟩
 have kb:=mt_ kA kB
 have e0:=fmt_zero F0
 have tt:∀ e:Int,e=0->K (B (bif true then e==0 else false)) EB:=fun e q=>by subst q;exact h EB kb
 refine condC (fun _=>⟨kb,tt _ e0⟩) (fun _=>condC (fun _=>⟨kb,tt _ e0⟩) (fun g1=>condC (fun _=>⟨kb,tt _ e0⟩) (fun g2=>condC (fun _=>⟨kb,tt _ e0⟩) (fun g3=>?_))))
 have hm:0<=a1/\a1<=59:=by simp at g1 g2;omega
 have S0:=SI.format hm F0 e0
 have g3:l1<=40:=by simp at g3;omega
 exact Lp_re [some 0] (ul5 (hS10.mono OpR_ok kb) B0 g3 S0.held kb (fun E' k=>h E' (mt_ kb k)) (r:=l1) (i:=0) (by omega)) (wkG mr_)
theorem opn5 (W:World) (K:List SV->Prop) (h:∀ a1:Int,(Lit.int .i64 a1).wf=true->∀ (b1:Option Addr) (l1 c1:Nat) (z1:List (List Value)),(l1<=c1)->(c1<=maxLen)->(b1=none->c1=0)->(z1.length=c1)->RowAt W (.slice b1 l1 c1) z1.flatten->(∀ r∈z1,r.length=7/\Shp Try.prog W 12 43 r)->K [I a1,L b1 l1 c1]):opnAll Try.prog W Try.f5.params.toList K:=
 same (by kernel_rfl) h
theorem sem5 (W:World):opnAll Try.prog W Try.f5.params.toList fun ss=>TabSem Try.prog 5 ss (fun v cs=>RowAt W v cs) fun r _=>r= .raw (.bool true):=by
 refine opn5 W _ ?_
 intro a1 ha1 b1 l1 c1 z1 hl1 hc1 hb1 hz1 hE1 hr1
 exact esm okWL5 Try.func5 rfl (e5 ha1 (Nat.le_trans hl1 hc1) (OPof hl1 hb1 hz1 hE1 hr1).choose_spec.1 (OPof hl1 hb1 hz1 hE1 hr1).choose_spec.2 (fun _ _=>rfl))
theorem lifted5 (os:Os) (started:os.Started) (H:Type) (enc:TypeId×Value->H):
  ReturnsInHanded {} Try.checked os 5 .any (Rows.custodyNumbersSpec.pre6 enc Try.prog Try.f5 Rows.custodyNumbersRow.domain false) (Rows.custodyNumbersSpec.post enc Try.prog Try.f5 false true false false):=
 lift_true (C:=Try.checked) (by kernel_rfl) (by kernel_rfl) started (by kernel_rfl) Try.func5
  (ChangeSpec.witness6 (enc:=enc) (C:=Try.checked) false ⟨#[],#[.int .i64 0,.slice none 0 0],[]⟩ 8 (by kernel_rfl) (by kernel_rfl) (by kernel_rfl) (by kernel_rfl))
  (Tb:=4) (by kernel_rfl) (by kernel_rfl) (by kernel_rfl) rfl
  (fun ds hl=>by
   match ds,hl with
   | [d0,d1],_=>exact ⟨rfl,rfl,rfl⟩)
  sem5
theorem over5:Rows.custodyNumbersRow.holds Try.pinned (OpenSpec.ofChange Rows.custodyNumbersSpec):=
 OpenClaim.holds_of_wide 5 Try.f5 rfl rfl rfl rfl rfl rfl rfl ⟨rfl,rfl,rfl,rfl,rfl⟩ rfl rfl rfl rfl rfl (by kernel_rfl) Try.func5 (by kernel_rfl)
  (of_decide_eq_true (by kernel_rfl)) (by unfold Func.isWrapper;first|(rw [if_pos (by decide+kernel)];kernel_rfl)|(rw [if_neg (by decide+kernel)];exact ⟨rfl,rfl⟩))
  (fun os started H enc _=>lifted5 os started H enc)
theorem proved5:Rows.CustodyNumbersSaid:=over5
end Go.Proofs.Ytdaakdbkmjgloaa.CustodyOwn
