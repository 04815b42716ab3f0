/- What functions of the program compute; plain lemmas on it. Conditions: none. -/
import Derived.Test.YtdblighgcpabnaaBg8
namespace Go.Proofs.Ytdblighgcpabnaa.BootOwn
open Go Go.Sx
set_option maxRecDepth 100000
set_option maxHeartbeats 4000000
set_option linter.unusedVariables false
set_option linter.unusedSimpArgs false
variable {E:Mem} {K:SV->Mem->Prop}
noncomputable def tabP5:FuncId->List SV->Mem->(SV->Mem->Prop)->Prop:=fun f args E K=>match f with
 | 37=>d1 args fun x0=>dS x0 fun b1 l2 c3=>∃ (zs:List Int),Bs E b1 l2 c3 zs/\l2=4224/\(∀ (v:Int) (d:List Int) (b':Option Addr) (l' c':Nat) (E':Mem),Mem.le E E'->Hyp (hidP zs=(v,d))->Bs E' b' l' c' d->K (.tup [I v,L b' l' c']) E')
 | 51=>d3 args fun x0 x1 x2=>dC x0 fun l1=>d2 l1 fun x0_0 x0_1=>dI x0_0 fun a1=>dS x0_1 fun b2 l3 c4=>dI x1 fun a5=>dS x2 fun b6 l7 c8=>∃ (zs:List Int) (ds:List Int),Bs E b2 l3 c4 zs/\Bs E b6 l7 c8 ds/\(∀ (b':Option Addr) (l' c':Nat) (ms:List (Int×List Int)) (e:Int) (E':Mem),Mem.le E E'->Hyp (progF a1 zs a5 ds=(ms,e))->FL E' b' l' c' ms->K (.tup [L b' l' c',I e]) E')
 | _=>False
theorem tabP5_ok:TabOK Try.prog tabP5:=by
 intro f args E K h
 unfold tabP5 at h
 split at h
 ·replace h:=d1_elim h
  obtain ⟨x0,rfl,h⟩:=h
  replace h:=dS_elim h
  obtain ⟨b1,l2,c3,rfl,h⟩:=h
  obtain ⟨zs,g0,g1,h⟩:=h
  exact TabSem.congr (valL_cons rfl rfl) (esm okP1 Try.func37 rfl (q37 g0 g1 h))
 ·replace h:=d3_elim h
  obtain ⟨x0,x1,x2,rfl,h⟩:=h
  replace h:=dC_elim h
  obtain ⟨l1,hl1,h⟩:=h
  replace h:=d2_elim h
  obtain ⟨x0_0,x0_1,rfl,h⟩:=h
  replace h:=dI_elim h
  obtain ⟨a1,rfl,h⟩:=h
  replace h:=dS_elim h
  obtain ⟨b2,l3,c4,rfl,h⟩:=h
  replace h:=dI_elim h
  obtain ⟨a5,rfl,h⟩:=h
  replace h:=dS_elim h
  obtain ⟨b6,l7,c8,rfl,h⟩:=h
  obtain ⟨zs,ds,g0,g1,h⟩:=h
  exact TabSem.congr (valL_cons (asCells_val hl1) (valL_cons rfl (valL_cons rfl rfl))) (esm okF3 Try.func51 rfl (s14 g0 g1 h))
 ·exact h.elim
noncomputable def P5:Cx:={ P:=Try.prog,inl:=fun f=>List.contains [35,50,75,76,53] f,tab:=tabP5,isB:=fun _=>false,tabB:=fun _ _ _ _ _=>False,opt:={ unroll:=5,carry:=[] },muts:=mutsD }
theorem okP5:CxOK P5:=CxOK.four tabP5_ok (by kernel_rfl) (okInl (by kernel_rfl)) (fun _ _ _ _ _ h=>h.elim)
theorem q23 {a1:Int} {b2:Option Addr} {l3:Nat} {c4:Nat} {a5:Int} {zs:List Int} (h0:Bs E b2 l3 c4 zs) (h:∀ E':Mem,Mem.le E E'->K (I (marksF a1 zs a5)) E'):
  Ent P5 8 Try.f23 [.agg [I a1,L b2 l3 c4],I a5] E K:=by
 refine sm_ (?_:bif a1 !=(128:Int) then Mem.le E E/\Mem.le E E/\K (I (-1)) E else bif bif false then true else (NI l3) !=8448 then Mem.le E E/\Mem.le E E/\K (I (-1)) E else req (l3<=c4) (req ((0:Int)<=(4224:Int)/\4224<=(NI c4)) (∀ (base':Option Addr) (E':Mem),Mem.le E E'->(∀ (cs:List Value),E (VS b2 l3 c4) cs->E' (VS base' 4224 4224) (List.take 4224 (List.drop 0 cs)))->Option.isNone base'=Option.isNone b2->req (l3<=c4) (req ((0:Int)<=(8448:Int)/\8448<=(NI c4)) (∀ (base'_1:Option Addr) (E'_1:Mem),Mem.le E' E'_1->(∀ (cs:List Value),E' (VS b2 l3 c4) cs->E'_1 (VS base'_1 4224 4224) (List.take 4224 (List.drop 4224 cs)))->Option.isNone base'_1=Option.isNone b2->Mem.le E E'_1/\∃ (zs:List Int),Bs E'_1 base' 4224 4224 zs/\4224=4224/\∀ (v:Int) (d:List Int) (b':Option Addr) (l' c':Nat) (E':Mem),Mem.le E'_1 E'->Hyp (hidP zs=(v,d))->Bs E' b' l' c' d->Mem.le E'_1 E'/\bif v !=(0:Int) then bif bif true then v==a5 else false then Mem.le E'_1 E'/\(∃ (cs:List Value),E' (VS base' 4224 4224) cs/\(cs=[]->False))/\∃ (n:Int),LoadE P5.P E' 5 (VS base' 4224 4224) 17 (SV.raw (U8 n))/\Mem.le E' E'/\bif n==(0:Int) then Mem.le E E'/\K (I 3) E' else (∃ (cs:List Value),E' (VS base' 4224 4224) cs/\(cs=[]->False))/\∃ (n:Int),LoadE P5.P E' 5 (VS base' 4224 4224) 16 (SV.raw (U8 n))/\Mem.le E' E'/\bif n==(0:Int) then Mem.le E E'/\K (I 2) E' else (∃ (cs:List Value),E' (VS base' 4224 4224) cs/\(cs=[]->False))/\∃ (n:Int),LoadE P5.P E' 5 (VS base' 4224 4224) 15 (SV.raw (U8 n))/\Mem.le E' E'/\bif n==(0:Int) then Mem.le E E'/\K (I 1) E' else Mem.le E E'/\K (I 0) E' else ∃ (zs:List Int),Bs E' base'_1 4224 4224 zs/\4224=4224/\∀ (v:Int) (d:List Int) (b':Option Addr) (l' c':Nat) (E'_2:Mem),Mem.le E' E'_2->Hyp (hidP zs=(v,d))->Bs E'_2 b' l' c' d->Mem.le E' E'_2/\bif v !=(0:Int) then bif bif true then v==a5 else false then Mem.le E'_1 E'_2/\(∃ (cs:List Value),E'_2 (VS base'_1 4224 4224) cs/\(cs=[]->False))/\∃ (n:Int),LoadE P5.P E'_2 5 (VS base'_1 4224 4224) 17 (SV.raw (U8 n))/\Mem.le E'_2 E'_2/\bif n==(0:Int) then Mem.le E E'_2/\K (I 3) E'_2 else (∃ (cs:List Value),E'_2 (VS base'_1 4224 4224) cs/\(cs=[]->False))/\∃ (n:Int),LoadE P5.P E'_2 5 (VS base'_1 4224 4224) 16 (SV.raw (U8 n))/\Mem.le E'_2 E'_2/\bif n==(0:Int) then Mem.le E E'_2/\K (I 2) E'_2 else (∃ (cs:List Value),E'_2 (VS base'_1 4224 4224) cs/\(cs=[]->False))/\∃ (n:Int),LoadE P5.P E'_2 5 (VS base'_1 4224 4224) 15 (SV.raw (U8 n))/\Mem.le E'_2 E'_2/\bif n==(0:Int) then Mem.le E E'_2/\K (I 1) E'_2 else Mem.le E E'_2/\K (I 0) E'_2 else Mem.le E'_1 E'_2/\Mem.le E E'_2/\K (I (-1)) E'_2 else Mem.le E'_1 E'_2/\Mem.le E E'_2/\K (I (-1)) E'_2 else ∃ (zs:List Int),Bs E' base'_1 4224 4224 zs/\4224=4224/\∀ (v:Int) (d:List Int) (b':Option Addr) (l' c':Nat) (E'_2:Mem),Mem.le E' E'_2->Hyp (hidP zs=(v,d))->Bs E'_2 b' l' c' d->Mem.le E' E'_2/\bif v !=(0:Int) then bif bif true then v==a5 else false then Mem.le E'_1 E'_2/\(∃ (cs:List Value),E'_2 (VS base'_1 4224 4224) cs/\(cs=[]->False))/\∃ (n:Int),LoadE P5.P E'_2 5 (VS base'_1 4224 4224) 17 (SV.raw (U8 n))/\Mem.le E'_2 E'_2/\bif n==(0:Int) then Mem.le E E'_2/\K (I 3) E'_2 else (∃ (cs:List Value),E'_2 (VS base'_1 4224 4224) cs/\(cs=[]->False))/\∃ (n:Int),LoadE P5.P E'_2 5 (VS base'_1 4224 4224) 16 (SV.raw (U8 n))/\Mem.le E'_2 E'_2/\bif n==(0:Int) then Mem.le E E'_2/\K (I 2) E'_2 else (∃ (cs:List Value),E'_2 (VS base'_1 4224 4224) cs/\(cs=[]->False))/\∃ (n:Int),LoadE P5.P E'_2 5 (VS base'_1 4224 4224) 15 (SV.raw (U8 n))/\Mem.le E'_2 E'_2/\bif n==(0:Int) then Mem.le E E'_2/\K (I 1) E'_2 else Mem.le E E'_2/\K (I 0) E'_2 else Mem.le E'_1 E'_2/\Mem.le E E'_2/\K (I (-1)) E'_2 else Mem.le E'_1 E'_2/\Mem.le E E'_2/\K (I (-1)) E'_2)))))
 delta NI U8 VS
 have hl:=h0.2.1
 have hc:=h0.2.2.1
 refine condC (fun q=>⟨mr_,mr_,by have g:=h E mr_;unfold marksF at g;rw [if_pos (fun m=>by have:=m.1;simp [this] at q)] at g;exact g⟩) (fun q=>condC (fun q2=>⟨mr_,mr_,by have g:=h E mr_;unfold marksF at g;rw [if_pos (fun m=>by have:=m.2;simp at q2;omega)] at g;exact g⟩) (fun q2=>?_))
 have q:a1=128:=by simpa using q
 have q2:l3=8448:=by simp at q2;omega
 have hm:¬ ¬ memB a1 zs.length:=fun z=>z ⟨q,by omega⟩
 refine req_intro hc (req_intro (by omega) (fun bA EA kA fA nA=>req_intro hc (req_intro (by omega) (fun bB EB kB fB nB=>⟨mt_ kA kB,?_⟩))))
 have HA:Bs EB bA 4224 4224 (bankF zs 0):=(Bs.cut3 (lo:=0) (hi:=4224) h0 fA nA (by decide) (by omega)).mono kB
 have HB:Bs EB bB 4224 4224 (bankF zs 1):=Bs.cut3 (lo:=4224) (hi:=8448) (h0.mono kA) fB nB (by decide) (by omega)
 have kb:Mem.le E EB:=mt_ kA kB
 refine ⟨bankF zs 0,HA,rfl,fun v d b' l' c' E1 k1 r1 _=>⟨k1,?_⟩⟩
 have r1:hidP (bankF zs 0)=(v,d):=r1
 rw [hidP_eq] at r1
 have k0:Mem.le E E1:=mt_ kb k1
 refine condC (fun w=>condC (fun w3=>⟨k1,?_⟩) (fun w3=>?_)) (fun w=>?_)
 ·have w:v≠0:=by simpa using w
  have w3:v=a5:=by simpa using w3
  have fd:findF zs a5=0:=by unfold findF;rw [if_pos ⟨by rw [r1];exact w,by rw [r1];exact w3⟩]
  have mk:marksF a1 zs a5=markB (bankF zs 0):=by unfold marksF;rw [if_neg hm,fd,if_neg (by decide)];rfl
  unfold markB at mk
  refine ⟨(HA.mono k1).ne (i:=17) (by decide),(bankF zs 0).getD 17 0,(HA.mono k1).load rfl (i:=17) (by decide),mr_,condC (fun u=>⟨k0,?_⟩) (fun u=>⟨(HA.mono k1).ne (i:=16) (by decide),(bankF zs 0).getD 16 0,(HA.mono k1).load rfl (i:=16) (by decide),mr_,condC (fun u2=>⟨k0,?_⟩) (fun u2=>⟨(HA.mono k1).ne (i:=15) (by decide),(bankF zs 0).getD 15 0,(HA.mono k1).load rfl (i:=15) (by decide),mr_,condC (fun u3=>⟨k0,?_⟩) (fun u3=>⟨k0,?_⟩)⟩)⟩)⟩
  ·have u:(bankF zs 0).getD 17 0=0:=by simpa using u
   have g:=h E1 k0
   rw [mk,if_pos u] at g;exact g
  ·have u:(bankF zs 0).getD 17 0≠0:=by simpa using u
   have u2:(bankF zs 0).getD 16 0=0:=by simpa using u2
   have g:=h E1 k0
   rw [mk,if_neg u,if_pos u2] at g;exact g
  ·have u:(bankF zs 0).getD 17 0≠0:=by simpa using u
   have u2:(bankF zs 0).getD 16 0≠0:=by simpa using u2
   have u3:(bankF zs 0).getD 15 0=0:=by simpa using u3
   have g:=h E1 k0
   rw [mk,if_neg u,if_neg u2,if_pos u3] at g;exact g
  ·have u:(bankF zs 0).getD 17 0≠0:=by simpa using u
   have u2:(bankF zs 0).getD 16 0≠0:=by simpa using u2
   have u3:(bankF zs 0).getD 15 0≠0:=by simpa using u3
   have g:=h E1 k0
   rw [mk,if_neg u,if_neg u2,if_neg u3] at g;exact g
 ·have w3:v≠a5:=by simpa using w3
  have n0:¬ ((progB (bankF zs 0)).1≠0/\(progB (bankF zs 0)).1=a5):=fun z=>w3 (by have:=z.2;rw [r1] at this;exact this)
  refine ⟨bankF zs 1,HB.mono k1,rfl,fun v2 d2 b2' l2' c2' E2 k2 r2 _=>⟨k2,?_⟩⟩
  have r2:hidP (bankF zs 1)=(v2,d2):=r2
  rw [hidP_eq] at r2
  have k12:Mem.le EB E2:=mt_ k1 k2
  have ke:Mem.le E E2:=mt_ kb k12
  refine condC (fun w2=>condC (fun w3=>⟨k12,?_⟩) (fun w3=>⟨k12,ke,?_⟩)) (fun w2=>⟨k12,ke,?_⟩)
  ·have w2:v2≠0:=by simpa using w2
   have w3:v2=a5:=by simpa using w3
   have fd:findF zs a5=1:=by unfold findF;rw [if_neg n0,if_pos ⟨by rw [r2];exact w2,by rw [r2];exact w3⟩]
   have mk:marksF a1 zs a5=markB (bankF zs 1):=by unfold marksF;rw [if_neg hm,fd,if_neg (by decide)];rfl
   unfold markB at mk
   refine ⟨(HB.mono k12).ne (i:=17) (by decide),(bankF zs 1).getD 17 0,(HB.mono k12).load rfl (i:=17) (by decide),mr_,condC (fun u=>⟨ke,?_⟩) (fun u=>⟨(HB.mono k12).ne (i:=16) (by decide),(bankF zs 1).getD 16 0,(HB.mono k12).load rfl (i:=16) (by decide),mr_,condC (fun u2=>⟨ke,?_⟩) (fun u2=>⟨(HB.mono k12).ne (i:=15) (by decide),(bankF zs 1).getD 15 0,(HB.mono k12).load rfl (i:=15) (by decide),mr_,condC (fun u3=>⟨ke,?_⟩) (fun u3=>⟨ke,?_⟩)⟩)⟩)⟩
   ·have u:(bankF zs 1).getD 17 0=0:=by simpa using u
    have g:=h E2 ke
    rw [mk,if_pos u] at g;exact g
   ·have u:(bankF zs 1).getD 17 0≠0:=by simpa using u
    have u2:(bankF zs 1).getD 16 0=0:=by simpa using u2
    have g:=h E2 ke
    rw [mk,if_neg u,if_pos u2] at g;exact g
   ·have u:(bankF zs 1).getD 17 0≠0:=by simpa using u
    have u2:(bankF zs 1).getD 16 0≠0:=by simpa using u2
    have u3:(bankF zs 1).getD 15 0=0:=by simpa using u3
    have g:=h E2 ke
    rw [mk,if_neg u,if_neg u2,if_pos u3] at g;exact g
   ·have u:(bankF zs 1).getD 17 0≠0:=by simpa using u
    have u2:(bankF zs 1).getD 16 0≠0:=by simpa using u2
    have u3:(bankF zs 1).getD 15 0≠0:=by simpa using u3
    have g:=h E2 ke
    rw [mk,if_neg u,if_neg u2,if_neg u3] at g;exact g
  ·have w3:v2≠a5:=by simpa using w3
   have fd:findF zs a5= -1:=by unfold findF;rw [if_neg n0,if_neg (fun z=>w3 (by have:=z.2;rw [r2] at this;exact this))]
   have g:=h E2 ke
   unfold marksF at g
   rw [if_neg hm,fd,if_pos (by decide)] at g;exact g
  ·have w2:v2=0:=by simpa using w2
   have fd:findF zs a5= -1:=by unfold findF;rw [if_neg n0,if_neg (fun z=>z.1 (by rw [r2];exact w2))]
   have g:=h E2 ke
   unfold marksF at g
   rw [if_neg hm,fd,if_pos (by decide)] at g;exact g
 ·have w:v=0:=by simpa using w
  have n0:¬ ((progB (bankF zs 0)).1≠0/\(progB (bankF zs 0)).1=a5):=fun z=>z.1 (by rw [r1];exact w)
  refine ⟨bankF zs 1,HB.mono k1,rfl,fun v2 d2 b2' l2' c2' E2 k2 r2 _=>⟨k2,?_⟩⟩
  have r2:hidP (bankF zs 1)=(v2,d2):=r2
  rw [hidP_eq] at r2
  have k12:Mem.le EB E2:=mt_ k1 k2
  have ke:Mem.le E E2:=mt_ kb k12
  refine condC (fun w2=>condC (fun w3=>⟨k12,?_⟩) (fun w3=>⟨k12,ke,?_⟩)) (fun w2=>⟨k12,ke,?_⟩)
  ·have w2:v2≠0:=by simpa using w2
   have w3:v2=a5:=by simpa using w3
   have fd:findF zs a5=1:=by unfold findF;rw [if_neg n0,if_pos ⟨by rw [r2];exact w2,by rw [r2];exact w3⟩]
   have mk:marksF a1 zs a5=markB (bankF zs 1):=by unfold marksF;rw [if_neg hm,fd,if_neg (by decide)];rfl
   unfold markB at mk
   refine ⟨(HB.mono k12).ne (i:=17) (by decide),(bankF zs 1).getD 17 0,(HB.mono k12).load rfl (i:=17) (by decide),mr_,condC (fun u=>⟨ke,?_⟩) (fun u=>⟨(HB.mono k12).ne (i:=16) (by decide),(bankF zs 1).getD 16 0,(HB.mono k12).load rfl (i:=16) (by decide),mr_,condC (fun u2=>⟨ke,?_⟩) (fun u2=>⟨(HB.mono k12).ne (i:=15) (by decide),(bankF zs 1).getD 15 0,(HB.mono k12).load rfl (i:=15) (by decide),mr_,condC (fun u3=>⟨ke,?_⟩) (fun u3=>⟨ke,?_⟩)⟩)⟩)⟩
   ·have u:(bankF zs 1).getD 17 0=0:=by simpa using u
    have g:=h E2 ke
    rw [mk,if_pos u] at g;exact g
   ·have u:(bankF zs 1).getD 17 0≠0:=by simpa using u
    have u2:(bankF zs 1).getD 16 0=0:=by simpa using u2
    have g:=h E2 ke
    rw [mk,if_neg u,if_pos u2] at g;exact g
   ·have u:(bankF zs 1).getD 17 0≠0:=by simpa using u
    have u2:(bankF zs 1).getD 16 0≠0:=by simpa using u2
    have u3:(bankF zs 1).getD 15 0=0:=by simpa using u3
    have g:=h E2 ke
    rw [mk,if_neg u,if_neg u2,if_pos u3] at g;exact g
   ·have u:(bankF zs 1).getD 17 0≠0:=by simpa using u
    have u2:(bankF zs 1).getD 16 0≠0:=by simpa using u2
    have u3:(bankF zs 1).getD 15 0≠0:=by simpa using u3
    have g:=h E2 ke
    rw [mk,if_neg u,if_neg u2,if_neg u3] at g;exact g
  ·have w3:v2≠a5:=by simpa using w3
   have fd:findF zs a5= -1:=by unfold findF;rw [if_neg n0,if_neg (fun z=>w3 (by have:=z.2;rw [r2] at this;exact this))]
   have g:=h E2 ke
   unfold marksF at g
   rw [if_neg hm,fd,if_pos (by decide)] at g;exact g
  ·have w2:v2=0:=by simpa using w2
   have fd:findF zs a5= -1:=by unfold findF;rw [if_neg n0,if_neg (fun z=>z.1 (by rw [r2];exact w2))]
   have g:=h E2 ke
   unfold marksF at g
   rw [if_neg hm,fd,if_pos (by decide)] at g;exact g
theorem q19 {a1:Int} {b2:Option Addr} {l3:Nat} {c4:Nat} {a5:Int} {a6:Int} {zs:List Int} (h0:Bs E b2 l3 c4 zs) (h:∀ (b':Option Addr) (l' c':Nat) (ms:List (Int×List Int)) (e:Int) (E':Mem),Mem.le E E'->Hyp (markF a1 zs a5 a6=(ms,e))->FL E' b' l' c' ms->K (.tup [L b' l' c',I e]) E'):
  Ent P5 8 Try.f19 [.agg [I a1,L b2 l3 c4],I a5,I a6] E K:=by
 refine sm_ (?_:bif a1 !=(128:Int) then Mem.le E E/\Mem.le E E/\K (SV.tup [L none 0 0,I 1]) E else bif bif false then true else (NI l3) !=8448 then Mem.le E E/\Mem.le E E/\K (SV.tup [L none 0 0,I 1]) E else req (l3<=c4) (req ((0:Int)<=(4224:Int)/\4224<=(NI c4)) (∀ (base':Option Addr) (E':Mem),Mem.le E E'->(∀ (cs:List Value),E (VS b2 l3 c4) cs->E' (VS base' 4224 4224) (List.take 4224 (List.drop 0 cs)))->Option.isNone base'=Option.isNone b2->req (l3<=c4) (req ((0:Int)<=(8448:Int)/\8448<=(NI c4)) (∀ (base'_1:Option Addr) (E'_1:Mem),Mem.le E' E'_1->(∀ (cs:List Value),E' (VS b2 l3 c4) cs->E'_1 (VS base'_1 4224 4224) (List.take 4224 (List.drop 4224 cs)))->Option.isNone base'_1=Option.isNone b2->Mem.le E E'_1/\bif bif false then true else decide (a6<(1:Int)) then Mem.le E E'_1/\K (SV.tup [L none 0 0,I 1]) E'_1 else bif bif false then true else decide (a6>(3:Int)) then Mem.le E E'_1/\K (SV.tup [L none 0 0,I 1]) E'_1 else ∃ (zs:List Int),Bs E'_1 base' 4224 4224 zs/\4224=4224/\∀ (v:Int) (d:List Int) (b':Option Addr) (l' c':Nat) (E':Mem),Mem.le E'_1 E'->Hyp (hidP zs=(v,d))->Bs E' b' l' c' d->Mem.le E'_1 E'/\bif v !=(0:Int) then bif bif true then v==a5 else false then Mem.le E'_1 E'/\∀ (base:Option Addr) (E'_2:Mem),Mem.le E' E'_2->WinE E'_2 base [U8 0]->∃ (zs:List Int),∃ (ds:List Int),Bs E'_2 b2 l3 c4 zs/\Bs E'_2 (Option.map (fun (x:Addr)=>Addr.add x 0) base) 1 1 ds/\∀ (b':Option Addr) (l' c':Nat) (ms:List (Int×List Int)) (e:Int) (E':Mem),Mem.le E'_2 E'->Hyp (progF a1 zs (WI ((14:Int)+a6)) ds=(ms,e))->FL E' b' l' c' ms->Mem.le E E'/\K (SV.tup [L b' l' c',I e]) E' else ∃ (zs:List Int),Bs E' base'_1 4224 4224 zs/\4224=4224/\∀ (v:Int) (d:List Int) (b':Option Addr) (l' c':Nat) (E'_2:Mem),Mem.le E' E'_2->Hyp (hidP zs=(v,d))->Bs E'_2 b' l' c' d->Mem.le E' E'_2/\bif v !=(0:Int) then bif bif true then v==a5 else false then Mem.le E'_1 E'_2/\∀ (base:Option Addr) (E':Mem),Mem.le E'_2 E'->WinE E' base [U8 0]->∃ (zs:List Int),∃ (ds:List Int),Bs E' b2 l3 c4 zs/\Bs E' (Option.map (fun (x:Addr)=>Addr.add x 0) base) 1 1 ds/\∀ (b':Option Addr) (l' c':Nat) (ms:List (Int×List Int)) (e:Int) (E'_3:Mem),Mem.le E' E'_3->Hyp (progF a1 zs (WI ((4238:Int)+a6)) ds=(ms,e))->FL E'_3 b' l' c' ms->Mem.le E E'_3/\K (SV.tup [L b' l' c',I e]) E'_3 else Mem.le E'_1 E'_2/\Mem.le E E'_2/\K (SV.tup [L none 0 0,I 4]) E'_2 else Mem.le E'_1 E'_2/\Mem.le E E'_2/\K (SV.tup [L none 0 0,I 4]) E'_2 else ∃ (zs:List Int),Bs E' base'_1 4224 4224 zs/\4224=4224/\∀ (v:Int) (d:List Int) (b':Option Addr) (l' c':Nat) (E'_2:Mem),Mem.le E' E'_2->Hyp (hidP zs=(v,d))->Bs E'_2 b' l' c' d->Mem.le E' E'_2/\bif v !=(0:Int) then bif bif true then v==a5 else false then Mem.le E'_1 E'_2/\∀ (base:Option Addr) (E':Mem),Mem.le E'_2 E'->WinE E' base [U8 0]->∃ (zs:List Int),∃ (ds:List Int),Bs E' b2 l3 c4 zs/\Bs E' (Option.map (fun (x:Addr)=>Addr.add x 0) base) 1 1 ds/\∀ (b':Option Addr) (l' c':Nat) (ms:List (Int×List Int)) (e:Int) (E'_3:Mem),Mem.le E' E'_3->Hyp (progF a1 zs (WI ((4238:Int)+a6)) ds=(ms,e))->FL E'_3 b' l' c' ms->Mem.le E E'_3/\K (SV.tup [L b' l' c',I e]) E'_3 else Mem.le E'_1 E'_2/\Mem.le E E'_2/\K (SV.tup [L none 0 0,I 4]) E'_2 else Mem.le E'_1 E'_2/\Mem.le E E'_2/\K (SV.tup [L none 0 0,I 4]) E'_2)))))
 delta WI NI U8 VS
 have hl:=h0.2.1
 have hc:=h0.2.2.1
 refine condC (fun q=>⟨mr_,mr_,h none 0 0 [] 1 E mr_ (by show markF a1 zs a5 a6=_;unfold markF;rw [if_pos (.inl (fun m=>by have:=m.1;simp [this] at q))]) (FL.nil _)⟩) (fun q=>condC (fun q2=>⟨mr_,mr_,h none 0 0 [] 1 E mr_ (by show markF a1 zs a5 a6=_;unfold markF;rw [if_pos (.inl (fun m=>by have:=m.2;simp at q2;omega))]) (FL.nil _)⟩) (fun q2=>?_))
 have q:a1=128:=by simpa using q
 have q2:l3=8448:=by simp at q2;omega
 have hm:¬ ¬ memB a1 zs.length:=fun z=>z ⟨q,by omega⟩
 refine req_intro hc (req_intro (by omega) (fun bA EA kA fA nA=>req_intro hc (req_intro (by omega) (fun bB EB kB fB nB=>⟨mt_ kA kB,?_⟩))))
 have HA:Bs EB bA 4224 4224 (bankF zs 0):=(Bs.cut3 (lo:=0) (hi:=4224) h0 fA nA (by decide) (by omega)).mono kB
 have HB:Bs EB bB 4224 4224 (bankF zs 1):=Bs.cut3 (lo:=4224) (hi:=8448) (h0.mono kA) fB nB (by decide) (by omega)
 have kb:Mem.le E EB:=mt_ kA kB
 refine condC (fun g=>⟨kb,h none 0 0 [] 1 EB kb ?_ (FL.nil _)⟩) (fun g=>condC (fun g2=>⟨kb,h none 0 0 [] 1 EB kb ?_ (FL.nil _)⟩) (fun g2=>?_))
 ·have g:a6<1:=by simpa using g
  show markF a1 zs a5 a6=_
  unfold markF;rw [if_pos (.inr (.inl g))]
 ·have g2:a6>3:=by simpa using g2
  show markF a1 zs a5 a6=_
  unfold markF;rw [if_pos (.inr (.inr g2))]
 have g:¬ a6<1:=by simpa using g
 have g2:¬ a6>3:=by simpa using g2
 refine ⟨bankF zs 0,HA,rfl,fun v d b' l' c' E1 k1 r1 _=>⟨k1,?_⟩⟩
 have r1:hidP (bankF zs 0)=(v,d):=r1
 rw [hidP_eq] at r1
 have k0:Mem.le E E1:=mt_ kb k1
 refine condC (fun w=>condC (fun w3=>⟨k1,?_⟩) (fun w3=>?_)) (fun w=>?_)
 ·have w:v≠0:=by simpa using w
  have w3:v=a5:=by simpa using w3
  have fd:findF zs a5=0:=by unfold findF;rw [if_pos ⟨by rw [r1];exact w,by rw [r1];exact w3⟩]
  refine fun base E3 k3 w3=>⟨zs,[0],h0.mono (mt_ k0 k3),Bs.win (zs:=[0]) w3 rfl rfl (Nat.le_refl _) (by simp),fun bb ll cc ms e E4 k4 r4 F4=>⟨mt_ k0 (mt_ k3 k4),h bb ll cc ms e E4 (mt_ k0 (mt_ k3 k4)) ?_ F4⟩⟩
  have r4:progF a1 zs (IntKind.wrap .i64 (14+a6)) [0]=(ms,e):=r4
  rw [wrap_i64 (x:=14+a6) (by omega)] at r4
  show markF a1 zs a5 a6=_
  unfold markF
  rw [if_neg (by rintro (z|z|z);exact hm z;omega;omega),fd,if_neg (by decide),← r4]
  congr 1
 ·have w3:v≠a5:=by simpa using w3
  have n0:¬ ((progB (bankF zs 0)).1≠0/\(progB (bankF zs 0)).1=a5):=fun z=>w3 (by have:=z.2;rw [r1] at this;exact this)
  refine ⟨bankF zs 1,HB.mono k1,rfl,fun v2 d2 b2' l2' c2' E2 k2 r2 _=>⟨k2,?_⟩⟩
  have r2:hidP (bankF zs 1)=(v2,d2):=r2
  rw [hidP_eq] at r2
  have k12:Mem.le EB E2:=mt_ k1 k2
  have ke:Mem.le E E2:=mt_ kb k12
  refine condC (fun w2=>condC (fun w3=>⟨k12,?_⟩) (fun w3=>⟨k12,ke,?_⟩)) (fun w2=>⟨k12,ke,?_⟩)
  ·have w2:v2≠0:=by simpa using w2
   have w3:v2=a5:=by simpa using w3
   have fd:findF zs a5=1:=by unfold findF;rw [if_neg n0,if_pos ⟨by rw [r2];exact w2,by rw [r2];exact w3⟩]
   refine fun base E3 k3 w3=>⟨zs,[0],h0.mono (mt_ ke k3),Bs.win (zs:=[0]) w3 rfl rfl (Nat.le_refl _) (by simp),fun bb ll cc ms e E4 k4 r4 F4=>⟨mt_ ke (mt_ k3 k4),h bb ll cc ms e E4 (mt_ ke (mt_ k3 k4)) ?_ F4⟩⟩
   have r4:progF a1 zs (IntKind.wrap .i64 (4238+a6)) [0]=(ms,e):=r4
   rw [wrap_i64 (x:=4238+a6) (by omega)] at r4
   show markF a1 zs a5 a6=_
   unfold markF
   rw [if_neg (by rintro (z|z|z);exact hm z;omega;omega),fd,if_neg (by decide),← r4]
   congr 1
  ·have w3:v2≠a5:=by simpa using w3
   have fd:findF zs a5= -1:=by unfold findF;rw [if_neg n0,if_neg (fun z=>w3 (by have:=z.2;rw [r2] at this;exact this))]
   refine h none 0 0 [] 4 E2 ke ?_ (FL.nil _)
   show markF a1 zs a5 a6=_
   unfold markF
   rw [if_neg (by rintro (z|z|z);exact hm z;omega;omega),fd,if_pos (by decide)]
  ·have w2:v2=0:=by simpa using w2
   have fd:findF zs a5= -1:=by unfold findF;rw [if_neg n0,if_neg (fun z=>z.1 (by rw [r2];exact w2))]
   refine h none 0 0 [] 4 E2 ke ?_ (FL.nil _)
   show markF a1 zs a5 a6=_
   unfold markF
   rw [if_neg (by rintro (z|z|z);exact hm z;omega;omega),fd,if_pos (by decide)]
 ·have w:v=0:=by simpa using w
  have n0:¬ ((progB (bankF zs 0)).1≠0/\(progB (bankF zs 0)).1=a5):=fun z=>z.1 (by rw [r1];exact w)
  refine ⟨bankF zs 1,HB.mono k1,rfl,fun v2 d2 b2' l2' c2' E2 k2 r2 _=>⟨k2,?_⟩⟩
  have r2:hidP (bankF zs 1)=(v2,d2):=r2
  rw [hidP_eq] at r2
  have k12:Mem.le EB E2:=mt_ k1 k2
  have ke:Mem.le E E2:=mt_ kb k12
  refine condC (fun w2=>condC (fun w3=>⟨k12,?_⟩) (fun w3=>⟨k12,ke,?_⟩)) (fun w2=>⟨k12,ke,?_⟩)
  ·have w2:v2≠0:=by simpa using w2
   have w3:v2=a5:=by simpa using w3
   have fd:findF zs a5=1:=by unfold findF;rw [if_neg n0,if_pos ⟨by rw [r2];exact w2,by rw [r2];exact w3⟩]
   refine fun base E3 k3 w3=>⟨zs,[0],h0.mono (mt_ ke k3),Bs.win (zs:=[0]) w3 rfl rfl (Nat.le_refl _) (by simp),fun bb ll cc ms e E4 k4 r4 F4=>⟨mt_ ke (mt_ k3 k4),h bb ll cc ms e E4 (mt_ ke (mt_ k3 k4)) ?_ F4⟩⟩
   have r4:progF a1 zs (IntKind.wrap .i64 (4238+a6)) [0]=(ms,e):=r4
   rw [wrap_i64 (x:=4238+a6) (by omega)] at r4
   show markF a1 zs a5 a6=_
   unfold markF
   rw [if_neg (by rintro (z|z|z);exact hm z;omega;omega),fd,if_neg (by decide),← r4]
   congr 1
  ·have w3:v2≠a5:=by simpa using w3
   have fd:findF zs a5= -1:=by unfold findF;rw [if_neg n0,if_neg (fun z=>w3 (by have:=z.2;rw [r2] at this;exact this))]
   refine h none 0 0 [] 4 E2 ke ?_ (FL.nil _)
   show markF a1 zs a5 a6=_
   unfold markF
   rw [if_neg (by rintro (z|z|z);exact hm z;omega;omega),fd,if_pos (by decide)]
  ·have w2:v2=0:=by simpa using w2
   have fd:findF zs a5= -1:=by unfold findF;rw [if_neg n0,if_neg (fun z=>z.1 (by rw [r2];exact w2))]
   refine h none 0 0 [] 4 E2 ke ?_ (FL.nil _)
   show markF a1 zs a5 a6=_
   unfold markF
   rw [if_neg (by rintro (z|z|z);exact hm z;omega;omega),fd,if_pos (by decide)]
theorem n26 {a1 a2:Int} {KK:KT} (herr:∀ bx:List Box,(newF a1 a2).2≠0->KK (.tup [.agg [I 0,L none 0 0],I 1]) bx E)
  (hok:∀ (n tot:Nat) (zs:List Int),newF a1 a2=((a1,List.replicate n 255),0)->n<=16384->n<=zs.length->zs.take n=List.replicate n 255->KK (.tup [.agg [I a1,.slc 2 0 n n],I 0]) [⟨24,.lst [I a1,.slc 2 0 n n],2,true⟩,⟨5,.lst [.raw (.int .u8 255)],1,true⟩,⟨5,.vals (vB zs),tot,true⟩] E):EntB F8 8 Try.f30 [I a1,I a2] [] E KK:=by
 refine sm_ (?_:bif decide (a1<(1:Int)) then KK (SV.tup [SV.agg [I 0,L none 0 0],I 1]) [⟨24,.lst [I 0,L none 0 0],2,true⟩] E else bif bif false then true else decide (a1>(1024:Int)) then KK (SV.tup [SV.agg [I 0,L none 0 0],I 1]) [⟨24,.lst [I 0,L none 0 0],2,true⟩] E else bif bif false then true else decide (a2<(1:Int)) then KK (SV.tup [SV.agg [I 0,L none 0 0],I 1]) [⟨24,.lst [I 0,L none 0 0],2,true⟩] E else (a1=(0:Int)->False)/\bif bif false then true else decide (a2>WI (Int.tdiv 16384 a1)) then KK (SV.tup [SV.agg [I 0,L none 0 0],I 1]) [⟨24,.lst [I 0,L none 0 0],2,true⟩] E else 54=54/\∃ (n:Nat),[SV.slc 1 0 1 1,I (WI (a1*a2))]=[SV.slc 1 0 1 1,I (NI n)]/\[(⟨24,.lst [I 0,L none 0 0],2,true⟩:Box),⟨5,.lst [SV.raw (U8 255)],1,true⟩]=[(⟨24,.lst [I 0,L none 0 0],2,true⟩:Box),⟨5,.lst [SV.raw (U8 255)],1,true⟩]/\(1<=n/\n<=16384)/\∀ (tot:Nat) (zs:List Int),n<=List.length zs->List.take n zs=List.replicate n (255:Int)->KK (SV.tup [SV.agg [I a1,SV.slc 2 0 n n],I 0]) [⟨24,.lst [I a1,SV.slc 2 0 n n],2,true⟩,⟨5,.lst [SV.raw (U8 255)],1,true⟩,⟨5,.vals (vB zs),tot,true⟩] E)
 delta WI NI U8
 have bad:(a1<1\/a1>1024\/a2<1\/a2>16384 / a1)->(newF a1 a2).2≠0:=fun hb=>by unfold newF;rw [if_pos hb];decide
 refine condC (fun g=>herr _ (bad (.inl (by simpa using g)))) (fun g1=>?_)
 refine condC (fun g=>herr _ (bad (.inr (.inl (by simpa using g))))) (fun g2=>?_)
 refine condC (fun g=>herr _ (bad (.inr (.inr (.inl (by simpa using g)))))) (fun g3=>?_)
 have g1:1<=a1:=by simpa using g1
 have g2:a1<=1024:=by simpa using g2
 have g3:1<=a2:=by simpa using g3
 have hdv:Int.tdiv 16384 a1=16384 / a1:=Int.tdiv_eq_ediv_of_nonneg (by omega)
 have hd1:16384 / a1<=16384:=Int.ediv_le_self _ (by omega)
 have hd0:0<=16384 / a1:=Int.ediv_nonneg (by omega) (by omega)
 rw [hdv,wrap_i64 (x:=16384 / a1) (by omega)]
 refine ⟨by omega,condC (fun g=>herr _ (bad (.inr (.inr (.inr (by simpa using g)))))) (fun g4=>?_)⟩
 have g4:a2<=16384 / a1:=by simpa using g4
 have h8:a1*a2<=16384:=by
  have:=Int.mul_le_mul_of_nonneg_right g4 (show 0<=a1 by omega)
  have h2:=Int.ediv_mul_le 16384 (show a1≠0 by omega)
  rw [Int.mul_comm a1 a2];omega
 have h9:1<=a1*a2:=by
  have:=Int.mul_le_mul_of_nonneg_right g1 (show 0<=a2 by omega)
  omega
 obtain ⟨n,hn⟩:∃ n:Nat,a1*a2=n:=⟨(a1*a2).toNat,by omega⟩
 have eN:newF a1 a2=((a1,List.replicate n 255),0):=by unfold newF;rw [if_neg (by omega),hn,Int.toNat_natCast]
 rw [hn] at h8 h9
 rw [hn,wrap_i64 (x:=(n:Int)) (by omega)]
 exact ⟨rfl,n,rfl,rfl,⟨by omega,by omega⟩,fun tot zs hz ht=>hok n tot zs eN (by omega) hz ht⟩
theorem n27r {KK:KT} {a1 a2:Int} {i cap tot n:Nat} (hn:a1*a2=n) (h8:n<=16384) (hi:i<=n) (hc:i<=cap/\cap*1<=tot)
  (hK:∀ (cap tot:Nat),n<=cap->KK (.tup [.agg [I a1,.slc 2 0 n cap],I 0]) [⟨24,.lst [I a1,.slc 2 0 n cap],2,true⟩,⟨24,.lst [I a1,.slc 2 0 n cap],2,true⟩,⟨5,.vals (vB (List.replicate n 255)),tot,true⟩] E)
  (ih:∀ cap' tot':Nat,i<n->i+1<=cap'/\cap'*1<=tot'->Lp F9 8 Try.f33 [1,1,1,0,1,0] 0 KK (sh12 a1 a2 (i+1) cap' tot' E)):Rnd F9 8 Try.f33 [1,1,1,0,1,0] 0 KK (sh12 a1 a2 i cap tot E):=by
 refine sm_ (?_:bif decide ((NI i)<WI (a1*a2)) then i*1<=List.length (Row.cells (Row.vals (vB (List.replicate i 255))))/\cap*1<=tot/\i<=cap/\req ((i+1)*1<=140737488355328) (∀ (cap' tot':Nat),i+1<=cap'->cap'*1<=tot'->Lp F9 8 Try.f33 [1,1,1,0,1,0] 0 KK { fr:=some (I a1)::oI a2::none::none::oc 0 0::oI 0::oc 1 0::oI (WI ((NI i)+1))::no32 [],bx:=[(⟨24,.lst [I 0,L none 0 0],2,true⟩:Box),⟨24,.lst [I a1,SV.slc 4 0 (i+1) cap'],2,true⟩,⟨5,.lst [],0,false⟩,⟨5,.lst [SV.raw (U8 255)],1,true⟩,⟨5,.vals (List.take (i*1) (vB (List.replicate i 255))++[U8 255]),tot',true⟩],E:=E:St }) else KK (SV.tup [SV.agg [I a1,SV.slc 2 0 i cap],I 0]) [⟨24,.lst [I a1,SV.slc 2 0 i cap],2,true⟩,⟨24,.lst [I a1,SV.slc 2 0 i cap],2,true⟩,⟨5,.vals (vB (List.replicate i 255)),tot,true⟩] E)
 delta WI NI U8 no32
 rw [hn,wrap_i64 (x:=(n:Int)) (by omega),wrap_i64 (x:=(i:Int)+1) (by omega)]
 refine condC (fun g=>?_) (fun g=>?_)
 ·have g:i<n:=by simpa using g
  refine ⟨by simp [Row.cells],hc.2,hc.1,req_intro (by omega) (fun cap' tot' c1 c2=>?_)⟩
  have e:List.take (i*1) (vB (List.replicate i 255))++[Value.int IntKind.u8 255]=vB (List.replicate (i+1) 255):=by
   rw [List.take_of_length_le (by simp),List.replicate_succ',vB,vB,List.map_append];rfl
  rw [e,show (i:Int)+1=((i+1:Nat):Int) by simp]
  exact Lp_re [some 0,some 1,some 4] (ih cap' tot' g ⟨c1,c2⟩) (wkG mr_)
 ·have g:i=n:=by simp at g;omega
  subst g
  exact hK cap tot hc.1
theorem n27l {KK:KT} {a1 a2:Int} {i cap tot n:Nat} (hn:a1*a2=n) (h8:n<=16384) (hi:i<=n) (hc:i<=cap/\cap*1<=tot) (hK:∀ (cap tot:Nat),n<=cap->KK (.tup [.agg [I a1,.slc 2 0 n cap],I 0]) [⟨24,.lst [I a1,.slc 2 0 n cap],2,true⟩,⟨24,.lst [I a1,.slc 2 0 n cap],2,true⟩,⟨5,.vals (vB (List.replicate n 255)),tot,true⟩] E):Lp F9 8 Try.f33 [1,1,1,0,1,0] 0 KK (sh12 a1 a2 i cap tot E):=
 Lp_ind okF9 (fun x:{x:Nat×Nat×Nat//x.1<=n/\x.1<=x.2.1/\x.2.1*1<=x.2.2}=>sh12 a1 a2 x.1.1 x.1.2.1 x.1.2.2 E) (fun x=>n-x.1.1)
  (fun x ih=>n27r hn h8 x.2.1 x.2.2 hK fun cap' tot' g hc=>ih ⟨(x.1.1+1,cap',tot'),by omega,hc.1,hc.2⟩ (by show n-(_+1)<n-_;omega)) ⟨(i,cap,tot),hi,hc.1,hc.2⟩
theorem n27a {KK:KT} {a1 a2:Int} {n:Nat} (hn:a1*a2=n) (h8:n<=16384) (h9:1<=n) (hK:∀ (cap tot:Nat),n<=cap->KK (.tup [.agg [I a1,.slc 2 0 n cap],I 0]) [⟨24,.lst [I a1,.slc 2 0 n cap],2,true⟩,⟨24,.lst [I a1,.slc 2 0 n cap],2,true⟩,⟨5,.vals (vB (List.replicate n 255)),tot,true⟩] E):Rnd F9 8 Try.f33 [1,1,1,0,1,0] 0 KK (sh12a a1 a2 0 E):=by
 refine sm_ (?_:bif decide ((0:Int)<WI (a1*a2)) then ∀ (cap' tot':Nat),1<=cap'->cap'*1<=tot'->Lp F9 8 Try.f33 [1,1,1,0,1,0] 0 KK { fr:=some (I a1)::oI a2::none::none::oc 0 0::oI 0::oc 1 0::oI 1::no32 [],bx:=[(⟨24,.lst [I 0,L none 0 0],2,true⟩:Box),⟨24,.lst [I a1,SV.slc 3 0 1 cap'],2,true⟩,⟨5,.lst [SV.raw (U8 255)],1,true⟩,⟨5,.lst [SV.raw (U8 255)],tot',true⟩],E:=E:St } else KK (SV.tup [SV.agg [I a1,L none 0 0],I 0]) [⟨24,.lst [I a1,L none 0 0],2,true⟩,⟨24,.lst [I a1,L none 0 0],2,true⟩] E)
 delta WI U8 no32
 rw [hn,wrap_i64 (x:=(n:Int)) (by omega)]
 refine condC (fun g=>fun cap' tot' c1 c2=>?_) (fun g=>absurd g (by simp;omega))
 exact Lp_re [some 0,some 1,some 3] (n27l (i:=1) hn h8 h9 ⟨c1,c2⟩ hK) (wkG mr_)
theorem n27 {a1 a2:Int} {KK:KT} (herr:∀ bx:List Box,(newF a1 a2).2≠0->KK (.tup [.agg [I 0,L none 0 0],I 1]) bx E)
  (hok:∀ (n cap tot:Nat),newF a1 a2=((a1,List.replicate n 255),0)->n<=16384->n<=cap->KK (.tup [.agg [I a1,.slc 2 0 n cap],I 0]) [⟨24,.lst [I a1,.slc 2 0 n cap],2,true⟩,⟨24,.lst [I a1,.slc 2 0 n cap],2,true⟩,⟨5,.vals (vB (List.replicate n 255)),tot,true⟩] E):EntB F9 8 Try.f33 [I a1,I a2] [] E KK:=by
 refine sm_ (?_:bif decide (a1<(1:Int)) then KK (SV.tup [SV.agg [I 0,L none 0 0],I 1]) [⟨24,.lst [I 0,L none 0 0],2,true⟩] E else bif bif false then true else decide (a1>(1024:Int)) then KK (SV.tup [SV.agg [I 0,L none 0 0],I 1]) [⟨24,.lst [I 0,L none 0 0],2,true⟩] E else bif bif false then true else decide (a2<(1:Int)) then KK (SV.tup [SV.agg [I 0,L none 0 0],I 1]) [⟨24,.lst [I 0,L none 0 0],2,true⟩] E else (a1=(0:Int)->False)/\bif bif false then true else decide (a2>WI (Int.tdiv 16384 a1)) then KK (SV.tup [SV.agg [I 0,L none 0 0],I 1]) [⟨24,.lst [I 0,L none 0 0],2,true⟩] E else Lp F9 8 Try.f33 [1,1,1,0,1,0] 0 KK { fr:=some (I a1)::oI a2::none::none::oc 0 0::oI 0::oc 1 0::oI 0::oI a1::oB (decide (a1<(1:Int)))::oB false::oI a1::oB (decide (a1>(1024:Int)))::oB (bif false then true else decide (a1>(1024:Int)))::oB false::oI a2::oB (decide (a2<(1:Int)))::oB (bif false then true else decide (a2<(1:Int)))::oB false::oI a2::oI a1::oI (WI (Int.tdiv 16384 a1))::oB (decide (a2>WI (Int.tdiv 16384 a1)))::oB (bif false then true else decide (a2>WI (Int.tdiv 16384 a1)))::none::oI a1::some (SV.agg [I a1,L none 0 0])::no8 (no4 (none::[])),bx:=[(⟨24,.lst [I 0,L none 0 0],2,true⟩:Box),⟨24,.lst [I a1,L none 0 0],2,true⟩],E:=E:St })
 delta WI no4 no8
 have bad:(a1<1\/a1>1024\/a2<1\/a2>16384 / a1)->(newF a1 a2).2≠0:=fun hb=>by unfold newF;rw [if_pos hb];decide
 refine condC (fun g=>herr _ (bad (.inl (by simpa using g)))) (fun g1=>?_)
 refine condC (fun g=>herr _ (bad (.inr (.inl (by simpa using g))))) (fun g2=>?_)
 refine condC (fun g=>herr _ (bad (.inr (.inr (.inl (by simpa using g)))))) (fun g3=>?_)
 have g1:1<=a1:=by simpa using g1
 have g2:a1<=1024:=by simpa using g2
 have g3:1<=a2:=by simpa using g3
 have hdv:Int.tdiv 16384 a1=16384 / a1:=Int.tdiv_eq_ediv_of_nonneg (by omega)
 have hd1:16384 / a1<=16384:=Int.ediv_le_self _ (by omega)
 have hd0:0<=16384 / a1:=Int.ediv_nonneg (by omega) (by omega)
 rw [hdv,wrap_i64 (x:=16384 / a1) (by omega)]
 refine ⟨by omega,condC (fun g=>herr _ (bad (.inr (.inr (.inr (by simpa using g)))))) (fun g4=>?_)⟩
 have g4:a2<=16384 / a1:=by simpa using g4
 have h8:a1*a2<=16384:=by
  have:=Int.mul_le_mul_of_nonneg_right g4 (show 0<=a1 by omega)
  have h2:=Int.ediv_mul_le 16384 (show a1≠0 by omega)
  rw [Int.mul_comm a1 a2];omega
 have h9:1<=a1*a2:=by
  have:=Int.mul_le_mul_of_nonneg_right g1 (show 0<=a2 by omega)
  omega
 obtain ⟨n,hn⟩:∃ n:Nat,a1*a2=n:=⟨(a1*a2).toNat,by omega⟩
 have eN:newF a1 a2=((a1,List.replicate n 255),0):=by unfold newF;rw [if_neg (by omega),hn,Int.toNat_natCast]
 refine Lp_re [some 0,some 1] (S:=_) (T:=sh12a a1 a2 0 E) ?_ (wkG mr_)
 exact Lp_ind (ι:=Unit) okF9 (fun _=>sh12a a1 a2 0 E) (fun _=>0) (fun _ _=>n27a hn (by omega) (by omega) fun cap tot hc=>hok n cap tot eN (by omega) hc) ()
theorem hidN_ex:∃ f:Int->Int->(Int×List Int)×Int,∀ a b,f a b=newF a b:=⟨newF,fun _ _=>rfl⟩
noncomputable def hidN:Int->Int->(Int×List Int)×Int:=hidN_ex.choose
theorem hidN_eq (a b:Int):hidN a b=newF a b:=hidN_ex.choose_spec a b
noncomputable def tabN:CallT:=fun f args bx E K=>match f with
 | 30=>d2 args fun x0 x1=>dI x0 fun a=>dI x1 fun b=>((Hyp ((hidN a b).2≠0)->K (.tup [.agg [I 0,L none 0 0],I 1]) bx E)/\∀ (n cap tot:Nat) (zs:List Int),Hyp (hidN a b=((a,List.replicate n 255),0))->n<=16384/\n<=zs.length/\zs.take n=List.replicate n 255/\n<=cap->K (.tup [.agg [I a,.slc bx.length 0 n cap],I 0]) (bx++[⟨5,.vals (vB zs),tot,true⟩]) E)
 | 33=>d2 args fun x0 x1=>dI x0 fun a=>dI x1 fun b=>((Hyp ((hidN a b).2≠0)->K (.tup [.agg [I 0,L none 0 0],I 1]) bx E)/\∀ (n cap tot:Nat) (zs:List Int),Hyp (hidN a b=((a,List.replicate n 255),0))->n<=16384/\n<=zs.length/\zs.take n=List.replicate n 255/\n<=cap->K (.tup [.agg [I a,.slc bx.length 0 n cap],I 0]) (bx++[⟨5,.vals (vB zs),tot,true⟩]) E)
 | _=>False
theorem tabN_ok:∀ f args bx E K,tabN f args bx E K->CallSem Try.prog f args bx E K:=by
 intro f args bx E K h
 unfold tabN at h
 split at h
 ·obtain ⟨x0,x1,rfl,h1⟩:=d2_elim h
  obtain ⟨a,rfl,h2⟩:=dI_elim h1
  obtain ⟨c,rfl,h3⟩:=dI_elim h2
  obtain ⟨kerr,kok⟩:=h3
  refine frame0 (K':=fun s' bx' E'=>K (s'.ren [] bx.length) (bx++bx'.map (Box.ren [] bx.length)) E') (vs:=[.int .i64 a,.int .i64 c]) rfl (CallSem.clo (bsm okF8 Try.func30 (n26 ?_ ?_))) (fun _ _ _ q=>q)
  ·intro bx1 ne
   refine cloK_intro [] (s':=.tup [.agg [I 0,L none 0 0],I 1]) (bx':=[]) (E':=E) ?_ (wkG mr_)
   have:=kerr (by rw [hidN_eq];exact ne)
   simpa [SV.ren,SV.renL] using this
  ·intro n tot zs r1 h16 hz ht
   refine cloK_intro [some 2] (s':=.tup [.agg [I a,.slc 0 0 n n],I 0]) (bx':=[⟨5,.vals (vB zs),tot,true⟩]) (E':=E) ?_ (wkG mr_)
   have:=kok n n tot zs (by rw [hidN_eq];exact r1) ⟨h16,hz,ht,Nat.le_refl _⟩
   simpa [SV.ren,SV.renL,Box.ren,Row.ren,renF] using this
 ·obtain ⟨x0,x1,rfl,h1⟩:=d2_elim h
  obtain ⟨a,rfl,h2⟩:=dI_elim h1
  obtain ⟨c,rfl,h3⟩:=dI_elim h2
  obtain ⟨kerr,kok⟩:=h3
  refine frame0 (K':=fun s' bx' E'=>K (s'.ren [] bx.length) (bx++bx'.map (Box.ren [] bx.length)) E') (vs:=[.int .i64 a,.int .i64 c]) rfl (CallSem.clo (bsm okF9 Try.func33 (n27 ?_ ?_))) (fun _ _ _ q=>q)
  ·intro bx1 ne
   refine cloK_intro [] (s':=.tup [.agg [I 0,L none 0 0],I 1]) (bx':=[]) (E':=E) ?_ (wkG mr_)
   have:=kerr (by rw [hidN_eq];exact ne)
   simpa [SV.ren,SV.renL] using this
  ·intro n cap tot r1 h16 hc
   refine cloK_intro [some 2] (s':=.tup [.agg [I a,.slc 0 0 n cap],I 0]) (bx':=[⟨5,.vals (vB (List.replicate n 255)),tot,true⟩]) (E':=E) ?_ (wkG mr_)
   have:=kok n cap tot (List.replicate n 255) (by rw [hidN_eq];exact r1) ⟨h16,by simp,by simp,hc⟩
   simpa [SV.ren,SV.renL,Box.ren,Row.ren,renF] using this
 ·exact h.elim
theorem layV_app {xs ys:List Int} {p:Nat} (h:p+ys.length<=xs.length):layV (vB xs) p (vB ys)=vB (xs.take p++(ys++xs.drop (p+ys.length))):=by
 unfold layV
 simp
theorem lay_get {xs ys:List Int} {p:Nat} (h:p+ys.length<=xs.length) (j:Nat):(xs.take p++(ys++xs.drop (p+ys.length))).getD j 0=if p<=j/\j<p+ys.length then ys.getD (j-p) 0 else xs.getD j 0:=by
 rw [getA,List.length_take,Nat.min_eq_left (by omega)]
 by_cases c:j<p
 ·rw [if_pos c,if_neg (by omega),getTake _ _ _ c]
 ·rw [if_neg c,getA]
  by_cases c2:j<p+ys.length
  ·rw [if_pos (by omega),if_pos (by omega)]
  ·rw [if_neg (by omega),if_neg (by omega),getDrop];congr 1;omega
theorem lay_len {xs ys:List Int} {p:Nat} (h:p+ys.length<=xs.length):(xs.take p++(ys++xs.drop (p+ys.length))).length=xs.length:=by
 simp only [List.length_append,List.length_take,List.length_drop];omega
theorem win_take {base:Option Addr} {W:List Int} {n cap:Nat} (hW:WinE E base (vB W)) (h1:n<=W.length) (hn:1<=n) (hc:n<=cap) (hb:∀ x∈W.take n,0<=x/\x<=255):Bs E (base.map fun x=>x.add 0) n cap (W.take n):=by
 have h2:=hW.2 0 n n cap (by simp;omega)
 rw [List.drop_zero,← List.map_take] at h2
 refine ⟨.inr h2,by rw [List.length_take];omega,hc,hb,fun e2=>?_⟩
 cases base with
 | none=>
  have:=hW.1 rfl
  have :W=[]:=by simpa using this
  subst this
  simp at h1;omega
 | some a=>cases e2
theorem fmt_get {v:Int} {p:List Int} (hp:p.length<=4096) (j:Nat):(hdrF v p++([80,0,0]++(List.replicate 15 255++(p++List.replicate (8416-p.length) 255)))).getD j 0=if j<14 then (hdrF v p).getD j 0 else if j<17 then [(80:Int),0,0].getD (j-14) 0 else if j<32 then 255 else if j<32+p.length then p.getD (j-32) 0 else if j<8448 then 255 else 0:=by
 have hh:=hdrF_len v p
 have gR:∀ n j:Nat,j<n->(List.replicate n (255:Int)).getD j 0=255:=fun n j h=>by
  rw [List.getD_eq_getElem?_getD,List.getElem?_replicate,if_pos h];rfl
 rw [getA,hh]
 by_cases c:j<14
 ·rw [if_pos c,if_pos c]
 rw [if_neg c,if_neg c,getA]
 simp only [List.length_cons,List.length_nil]
 by_cases c2:j<17
 ·rw [if_pos (by omega),if_pos c2]
 rw [if_neg (by omega),if_neg c2,getA,List.length_replicate]
 by_cases c3:j<32
 ·rw [if_pos (by omega),if_pos c3,gR _ _ (by omega)]
 rw [if_neg (by omega),if_neg c3,getA]
 by_cases c4:j<32+p.length
 ·rw [if_pos (by omega),if_pos c4];congr 1<;>omega
 rw [if_neg (by omega),if_neg c4]
 by_cases c5:j<8448
 ·rw [if_pos c5,gR _ _ (by omega)]
 ·rw [if_neg c5,List.getD_eq_getElem?_getD,List.getElem?_eq_none (by rw [List.length_replicate];omega)];rfl
theorem fmt_row {v:Int} {p zs:List Int} (hp:p.length<=4096) (hz:8448<=zs.length) (ht:zs.take 8448=List.replicate 8448 255):
  ∃ W,layV (layV (layV (vB zs) 0 (vB (hdrF v p))) 14 (vB [80,0,0])) 32 (vB p)=vB W/\W.length=zs.length/\W.take 8448=hdrF v p++([80,0,0]++(List.replicate 15 255++(p++List.replicate (8416-p.length) 255))):=by
 have hh:=hdrF_len v p
 have l1:=lay_len (xs:=zs) (ys:=hdrF v p) (p:=0) (by omega)
 have l2:=lay_len (xs:=zs.take 0++(hdrF v p++zs.drop (0+(hdrF v p).length))) (ys:=[80,0,0]) (p:=14) (by rw [l1];simp;omega)
 have g1:=lay_get (xs:=zs) (ys:=hdrF v p) (p:=0) (by omega)
 have g2:=lay_get (xs:=zs.take 0++(hdrF v p++zs.drop (0+(hdrF v p).length))) (ys:=[80,0,0]) (p:=14) (by rw [l1];simp;omega)
 rw [layV_app (by omega),layV_app (by rw [l1];simp;omega)]
 generalize zs.take 0++(hdrF v p++zs.drop (0+(hdrF v p).length))=X1 at *
 generalize X1.take 14++([80,0,0]++X1.drop (14+[(80:Int),0,0].length))=X2 at *
 have l3:=lay_len (xs:=X2) (ys:=p) (p:=32) (by rw [l2,l1];omega)
 have g3:=lay_get (xs:=X2) (ys:=p) (p:=32) (by rw [l2,l1];omega)
 rw [layV_app (by rw [l2,l1];omega)]
 refine ⟨_,rfl,by rw [l3,l2,l1],?_⟩
 generalize X2.take 32++(p++X2.drop (32+p.length))=X3 at *
 have gz:∀ j,j<8448->zs.getD j 0=255:=fun j hj=>by
  rw [← getTake zs 8448 j hj,ht,List.getD_eq_getElem?_getD,List.getElem?_replicate,if_pos hj];rfl
 apply ext_getD (by rw [List.length_take,l3,l2,l1];simp only [List.length_append,hh,List.length_cons,List.length_nil,List.length_replicate];omega)
 intro j hj
 rw [List.length_take,l3,l2,l1] at hj
 rw [getTake _ _ _ (by omega),fmt_get hp,g3]
 by_cases c1:32<=j/\j<32+p.length
 ·rw [if_pos c1,if_neg (by omega),if_neg (by omega),if_neg (by omega),if_pos c1.2]
 ·rw [if_neg c1,g2]
  by_cases c2:14<=j/\j<17
  ·rw [if_pos (by simp;omega),if_neg (by omega),if_pos c2.2]
  ·rw [if_neg (by simp;omega),g1,hh]
   by_cases c3:j<14
   ·rw [if_pos (by omega),if_pos c3,Nat.sub_zero]
   ·rw [if_neg (by omega),if_neg c3,if_neg (by omega),gz j (by omega)]
    by_cases c4:j<32
    ·rw [if_pos c4]
    ·rw [if_neg c4,if_neg (by omega),if_pos (by omega)]
theorem newB:newF 128 66=((128,List.replicate 8448 255),0):=by
 unfold newF
 rw [if_neg (by decide)]
 rfl
theorem new_n {n:Nat} (h:newF 128 66=((128,List.replicate n 255),0)):n=8448:=by
 rw [newB] at h
 have:=congrArg (fun x=>x.1.2.length) h
 simpa using this.symm
noncomputable def tabP6:FuncId->List SV->Mem->(SV->Mem->Prop)->Prop:=fun f args E K=>match f with
 | 31=>d2 args fun x0 x1=>dI x0 fun a1=>dS x1 fun b2 l3 c4=>∃ (zs:List Int),Bs E b2 l3 c4 zs/\0<=a1/\a1<=1000000000/\l3<=4096/\(∀ (b':Option Addr) (l' c':Nat) (ys:List Int) (E':Mem),Mem.le E E'->Hyp (ys=hidH a1 zs)->Bs E' b' l' c' ys->K (L b' l' c') E')
 | _=>False
theorem tabP6_ok:TabOK Try.prog tabP6:=by
 intro f args E K h
 unfold tabP6 at h
 split at h
 ·replace h:=d2_elim h
  obtain ⟨x0,x1,rfl,h⟩:=h
  replace h:=dI_elim h
  obtain ⟨a1,rfl,h⟩:=h
  replace h:=dS_elim h
  obtain ⟨b2,l3,c4,rfl,h⟩:=h
  obtain ⟨zs,g0,g1,g2,g3,h⟩:=h
  exact TabSem.congr (valL_cons rfl (valL_cons rfl rfl)) (esm okH1 Try.func31 rfl (q31 g0 g1 g2 g3 h))
 ·exact h.elim
noncomputable def P6:Cx:={ P:=Try.prog,inl:=fun f=>List.contains [29] f,tab:=tabP6,isB:=fun f=>f==30,tabB:=tabN,opt:={ unroll:=0,carry:=[] },muts:=mutsD }
theorem okP6:CxOK P6:=CxOK.four tabP6_ok (by kernel_rfl) (okInl (by kernel_rfl)) tabN_ok
theorem q11 {a1:Int} {b2:Option Addr} {l3:Nat} {c4:Nat} {zs:List Int} (h0:Bs E b2 l3 c4 zs) (h:∀ (s':Int) (b':Option Addr) (l' c':Nat) (ys:List Int) (e:Int) (E':Mem),Mem.le E E'->Hyp (formatB a1 zs=((s',ys),e))->Bs E' b' l' c' ys->K (.tup [.agg [I s',L b' l' c'],I e]) E'):
  Ent P6 8 Try.f11 [I a1,L b2 l3 c4] E K:=by
 refine sm_ (?_:bif decide (a1>=(1:Int)) then bif bif true then decide (a1<=(1000000000:Int)) else false then Mem.le E E/\bif !bif true then decide ((NI l3)<=4096) else false then Mem.le E E/\K (SV.tup [SV.agg [I 0,L none 0 0],I 1]) E else (Hyp ((hidN 128 66).snd≠(0:Int))->Mem.le E E/\Mem.le E E/\K (SV.tup [SV.agg [I 0,L none 0 0],I 1]) E)/\∀ (n cap tot:Nat) (zs:List Int),Hyp (hidN 128 (66:Int)=(((128:Int),List.replicate n 255),(0:Int)))->n<=16384/\n<=List.length zs/\List.take n zs=List.replicate n (255:Int)/\n<=cap->Mem.le E E/\∃ (zs_1:List Int),Bs E b2 l3 c4 zs_1/\(0:Int)<=a1/\a1<=(1000000000:Int)/\l3<=4096/\∀ (b':Option Addr) (l' c':Nat) (ys:List Int) (E':Mem),Mem.le E E'->Hyp (ys=hidH a1 zs_1)->Bs E' b' l' c' ys->Mem.le E E'/\∃ (cs:List Value),(cs=[]\/E' (VS b' l' c') cs)/\l'*1<=List.length cs/\(∀ (x:Value),List.Mem x cs->Value.oneCell' x=true)/\0+n*1<=List.length (vB zs)/\req ((0:Int)<=(14:Int)/\14<=(NI (toN none n))) ((if toN none cap=14 then 0 else 14)+(toN none n-14)*1<=List.length (layV (vB zs) 0 (List.take (min l' n*1) (List.take (l'*1) cs)))/\req ((0:Int)<=(32:Int)/\32<=(NI (toN none n))) (∃ (cs_1:List Value),(cs_1=[]\/E' (VS b2 l3 c4) cs_1)/\l3*1<=List.length cs_1/\(∀ (x:Value),List.Mem x cs_1->Value.oneCell' x=true)/\(if toN none cap=32 then 0 else 32)+(toN none n-32)*1<=List.length (layV (layV (vB zs) 0 (List.take (min l' n*1) (List.take (l'*1) cs))) (if toN none cap=14 then 0 else 14) (List.take (min 3 (toN none n-14)*1) [U8 80,U8 0,U8 0]))/\∀ (base:Option Addr) (E'_1:Mem),Mem.le E' E'_1->WinE E'_1 base (layV (layV (layV (vB zs) 0 (List.take (min l' n*1) (List.take (l'*1) cs))) (if toN none cap=14 then 0 else 14) (List.take (min 3 (toN none n-14)*1) [U8 80,U8 0,U8 0])) (if toN none cap=32 then 0 else 32) (List.take (min l3 (toN none n-32)*1) (List.take (l3*1) cs_1)))->Mem.le E E'_1/\K (SV.tup [SV.agg [I 128,L (Option.map (fun (x:Addr)=>Addr.add x 0) base) n cap],I 0]) E'_1)) else Mem.le E E/\Mem.le E E/\K (SV.tup [SV.agg [I 0,L none 0 0],I 1]) E else Mem.le E E/\Mem.le E E/\K (SV.tup [SV.agg [I 0,L none 0 0],I 1]) E)
 delta NI U8 VS
 have hl:=h0.2.1
 have bad:¬ fitsF a1 zs->Mem.le E E/\K (.tup [.agg [I 0,L none 0 0],I 1]) E:=fun q=>⟨mr_,h 0 none 0 0 [] 1 E mr_ (by show formatB a1 zs=_;unfold formatB;rw [if_neg q]) (Bs.nil _)⟩
 refine condC (fun q=>condC (fun q2=>⟨mr_,condC (fun q3=>bad (fun f=>?_)) (fun q3=>?_)⟩) (fun q2=>⟨mr_,bad (fun f=>?_)⟩)) (fun q=>⟨mr_,bad (fun f=>?_)⟩)
 ·have:=f.2.2;simp at q3;omega
 ·have q:1<=a1:=by simpa using q
  have q2:a1<=1000000000:=by simpa using q2
  have q3:l3<=4096:=by simp at q3;omega
  have fit:fitsF a1 zs:=⟨q,q2,by omega⟩
  refine ⟨fun w=>absurd (show (hidN 128 66).2≠0 from w) (by rw [hidN_eq,newB];decide),fun n cap tot row w=>?_⟩
  have w:hidN 128 66=((128,List.replicate n 255),0):=w
  rw [hidN_eq] at w
  have hn:=new_n w
  subst hn
  rintro ⟨_,hz,ht,hc⟩
  refine ⟨mr_,zs,h0,by omega,q2,q3,fun bH lH cH yH EH kH eH HH=>⟨kH,?_⟩⟩
  have eH:yH=hidH a1 zs:=eH
  rw [hidH_eq] at eH
  have lH14:lH=14:=by rw [← HH.2.1,eH,hdrF_len]
  subst lH14
  obtain ⟨t1,t2,t3⟩:=HH.src
  obtain ⟨u1,u2,u3⟩:=(h0.mono kH).src
  obtain ⟨W,w1,w2,w3⟩:=fmt_row (v:=a1) (p:=zs) (zs:=row) (by omega) hz ht
  have c14:(if toN none cap=14 then 0 else 14)=14:=if_neg (by show ¬ cap=14;omega)
  have c32:(if toN none cap=32 then 0 else 32)=32:=if_neg (by show ¬ cap=32;omega)
  have m1:List.take (min 14 8448*1) (List.take (14*1) (vB yH))=vB (hdrF a1 zs):=by
   rw [eH,List.take_of_length_le (l:=vB _) (by simp [hdrF_len]),List.take_of_length_le (by simp [hdrF_len])]
  have m2:List.take (min 3 (toN none 8448-14)*1) [Value.int IntKind.u8 (80:Int),Value.int IntKind.u8 (0:Int),Value.int IntKind.u8 (0:Int)]=vB [80,0,0]:=rfl
  have m3:List.take (min l3 (toN none 8448-32)*1) (List.take (l3*1) (vB zs))=vB zs:=by
   rw [List.take_of_length_le (l:=vB _) (by simp [hl]),List.take_of_length_le (by simp [hl];show l3<=min l3 (8448-32);omega)]
  have d1:(layV (vB row) 0 (vB (hdrF a1 zs))).length=row.length:=by unfold layV;simp [hdrF_len];omega
  have d2:(layV (layV (vB row) 0 (vB (hdrF a1 zs))) 14 (vB [80,0,0])).length=row.length:=by unfold layV;simp [hdrF_len];omega
  refine ⟨vB yH,t1,t2,t3,by simp;omega,req_intro (by show (0:Int)<=14/\(14:Int)<=((8448:Nat):Int);omega) ?_⟩
  rw [m1,m2,c14,c32]
  refine ⟨by rw [d1];show 14+(8448-14)*1<=_;omega,req_intro (by show (0:Int)<=32/\(32:Int)<=((8448:Nat):Int);omega) ⟨vB zs,u1,u2,u3,by rw [d2];show 32+(8448-32)*1<=_;omega,fun base EE kE wE=>⟨mt_ kH kE,?_⟩⟩⟩
  rw [m3,w1] at wE
  have hb:=win_take wE (by rw [w2];exact hz) (by decide) hc (by
   obtain ⟨y,y1,y2,y3,_⟩:=format_ok fit h0.2.2.2.1
   unfold formatB at y1
   rw [if_pos fit] at y1
   rw [w3,(Prod.mk.inj (Prod.mk.inj y1).1).2]
   exact y3)
  rw [w3] at hb
  exact h 128 _ 8448 cap _ 0 EE (mt_ kH kE) (by show formatB a1 zs=_;unfold formatB;rw [if_pos fit]) hb
 ·have:=f.2.1;simp at q2;omega
 ·have:=f.1;simp at q;omega
theorem q14H {a1:Int} {b2:Option Addr} {l3:Nat} {c4:Nat} {a5:Int} {b6:Option Addr} {l7:Nat} {c8:Nat} {zs:List Int} {ds:List Int} (h0:Bs E b2 l3 c4 zs) (h1:Bs E b6 l7 c8 ds) (h2:validF a1 l3) (h3:0<=a5) (h4:a5+l7<=l3) (h:∀ (b':Option Addr) (l' c':Nat) (ms:List (Int×List Int)) (E':Mem),Mem.le E E'->Hyp (progF a1 zs a5 ds=(ms,0))->FL E' b' l' c' ms->K (.tup [L b' l' c',I 0]) E'):
  Ent F3 6 Try.f51 [.agg [I a1,L b2 l3 c4],I a5,L b6 l7 c8] E K:=by
 refine s14 h0 h1 ?_
 intro b' l' c' ms e E' hE he hF
 have hl:=h0.2.1
 have hd:=h1.2.1
 have he:progF a1 zs a5 ds=(ms,e):=he
 have:=he.symm.trans (progF_mk (by rw [hl];exact h2) h3 (by omega))
 simp only [Prod.mk.injEq] at this
 obtain ⟨-,rfl⟩:=this
 exact h b' l' c' ms E' hE he hF
theorem q16H {a1:Int} {b2:Option Addr} {l3:Nat} {c4:Nat} {a5:Int} {zs:List Int} (h0:Bs E b2 l3 c4 zs) (h1:validF a1 l3) (h2:0<=a5) (h3:a5<(l3:Int) / a1) (h:∀ (b':Option Addr) (l' c':Nat) (ms:List (Int×List Int)) (E':Mem),Mem.le E E'->Hyp (erasF a1 zs a5=(ms,0))->FL E' b' l' c' ms->K (.tup [L b' l' c',I 0]) E'):
  Ent F4 6 Try.f71 [.agg [I a1,L b2 l3 c4],I a5] E K:=by
 refine s16 h0 ?_
 intro b' l' c' ms e E' hE he hF
 have hl:=h0.2.1
 have he:erasF a1 zs a5=(ms,e):=he
 have:=he.symm.trans (erasF_mk (by rw [hl];exact h1) h2 (by rw [hl];exact h3))
 simp only [Prod.mk.injEq] at this
 obtain ⟨-,rfl⟩:=this
 exact h b' l' c' ms E' hE he hF
noncomputable def G7:Cx:={ P:=Try.prog,inl:=fun f=>List.contains [69] f,tab:=fun _ _ _ _=>False,isB:=fun _=>false,tabB:=fun _ _ _ _ _=>False,opt:={ unroll:=0,carry:=[8] },muts:=mutsD }
theorem okG7:CxOK G7:=CxOK.four (fun _ _ _ _ h=>h.elim) (by kernel_rfl) (okInl (by kernel_rfl)) (fun _ _ _ _ _ h=>h.elim)
def sh85 (b:Option Addr) (l c i:Nat) (E:Mem):St:=⟨[oL b l c,some (.clo 69 [] []),none,none,none,none,oL b l c,oI (l:Nat),oI (i:Nat)]++List.replicate 10 none,[],E⟩
theorem r85 {b:Option Addr} {l c i:Nat} {zs:List Int} {E0:Mem} {K:SV->Mem->Prop} (h0:Bs E b l c zs) (h2:l<=100000) (hi:i<=l) (hp:∀ x∈zs.take i,x=255) (hE:Mem.le E0 E) (h:∀ r:Int,decide (0<=r)=zs.any (fun x=>decide (x≠255))->K (I r) E)
  (ih:i<l->(∀ x∈zs.take (i+1),x=255)->Lp G7 8 Try.f85 [1,0,1,0] 0 (pubK E0 K) (sh85 b l c (i+1) E)):
  Rnd G7 8 Try.f85 [1,0,1,0] 0 (pubK E0 K) (sh85 b l c i E):=by
 refine sm_ (?_:bif decide ((NI i)<(NI l)) then req (0<=(NI i)/\(NI i)<(NI l)) ((∃ (cs:List Value),E (VS b l c) cs/\(cs=[]->False))/\∃ (n:Int),LoadE G7.P E 5 (VS b l c) (Int.toNat (NI i)*1) (SV.raw (U8 n))/\Mem.le E E/\bif n !=(255:Int) then Mem.le E0 E/\K (I (NI i)) E else Lp G7 8 Try.f85 [1,0,1,0] 0 (pubK E0 K) { fr:=some (L b l c)::some (SV.clo 69 [] [])::none::none::none::none::oL b l c::oI (NI l)::oI (WI ((NI i)+1))::no8 (no2 []),bx:=[],E:=E:St }) else Mem.le E0 E/\K (I (-1)) E)
 delta WI NI U8 VS no2 no8
 have z0:=h0.2.1
 refine condC (fun g=>?_) (fun g=>?_)
 ·have g:i<l:=by simpa using g
  have ge:zs[i]'(by omega)=zs.getD i 0:=by rw [List.getD_eq_getElem?_getD,List.getElem?_eq_getElem (by omega)];rfl
  refine req_intro (by omega) ⟨h0.ne g,zs.getD i 0,h0.load rfl g,mr_,condC (fun q=>?_) (fun q=>?_)⟩
  ·have q:¬ zs.getD i 0=255:=by simpa using q
   refine ⟨hE,h i ?_⟩
   rw [decide_eq_true (by omega)]
   exact (List.any_eq_true.2 ⟨_,List.getElem_mem (by omega:i<zs.length),by rw [ge];simpa using q⟩).symm
  ·have q:zs.getD i 0=255:=by simpa using q
   rw [wrap_i64 (by omega),show (i:Int)+1=((i+1:Nat):Int) by simp]
   refine Lp_re [] (ih g fun x hx=>?_) (wkG mr_)
   rw [take_getD (by omega)] at hx
   rcases List.mem_append.1 hx with hx|hx
   ·exact hp x hx
   ·rw [List.mem_singleton] at hx;rw [hx];exact q
 ·have g:i=l:=by simp at g;omega
  subst g
  rw [List.take_of_length_le (by omega)] at hp
  refine ⟨hE,h (-1) ?_⟩
  rw [decide_eq_false (by decide)]
  symm
  rw [List.any_eq_false]
  intro x hx
  simp [hp x hx]
theorem lp85 {b:Option Addr} {l c i:Nat} {zs:List Int} {E0:Mem} {K:SV->Mem->Prop} (h0:Bs E b l c zs) (h2:l<=100000) (hi:i<=l) (hp:∀ x∈zs.take i,x=255) (hE:Mem.le E0 E) (h:∀ r:Int,decide (0<=r)=zs.any (fun x=>decide (x≠255))->K (I r) E):
  Lp G7 8 Try.f85 [1,0,1,0] 0 (pubK E0 K) (sh85 b l c i E):=
 Lp_ind okG7 (fun x:{i:Nat//i<=l/\∀ x∈zs.take i,x=255}=>sh85 b l c x.1 E) (fun x=>l-x.1) (fun x ih=>r85 h0 h2 x.2.1 x.2.2 hE h fun g q=>ih ⟨x.1+1,by omega,q⟩ (by show l-(_+1)<l-_;omega)) ⟨i,hi,hp⟩
theorem e85 {b:Option Addr} {l c:Nat} {zs:List Int} (h0:Bs E b l c zs) (h2:l<=100000) (h:∀ r:Int,decide (0<=r)=zs.any (fun x=>decide (x≠255))->K (I r) E):Ent G7 8 Try.f85 [L b l c,.clo 69 [] []] E K:=by
 refine sm_ (?_:Lp G7 8 Try.f85 [1,0,1,0] 0 (pubK E K) { fr:=[oL b l c,some (SV.clo 69 [] []),none,none,none,none,oL b l c,oI (↑l:Int),oI (0:Int),none,none,none,none,none,none,none,none,none,none],bx:=[],E:=E:St })
 exact Lp_re [] (lp85 (i:=0) h0 h2 (Nat.zero_le _) (fun x hx=>by simp at hx) mr_ h) (wkG mr_)
theorem tab_clo {P:Program} {f g:FuncId} {b:Option Addr} {l c:Nat} {bx:List Box} {KK:KT} (h:CallSemO none P f [L b l c,.clo g [] []] [] E (pubK E fun s E'=>KK s bx E')):CallSem P f [L b l c,.clo g [] []] bx E KK:=by
 have h2:CallSemO none P f [L b l c,.raw (.func (.func g) #[] #[])] [] E (pubK E fun s E'=>KK s bx E'):=h
 intro w0 mu ρ w vs hR hd
 exact (TabSem.intro rfl h2).call w0 mu ρ w vs hR hd
def tab85:CallT:=fun f args bx E K=>f=85/\∃ (b:Option Addr) (l c:Nat) (zs:List Int),args=[L b l c,.clo 69 [] []]/\Bs E b l c zs/\l<=100000/\∀ r:Int,decide (0<=r)=zs.any (fun x=>decide (x≠255))->K (I r) bx E
theorem tab85_ok (f:FuncId) (args:List SV) (bx:List Box) (E:Mem) (K:KT) (h:tab85 f args bx E K):CallSem Try.prog f args bx E K:=by
 obtain ⟨rfl,b,l,c,zs,rfl,h1,h2,h3⟩:=h
 exact tab_clo (EntB.semO (n:=8) okG7 Try.func85 ⟨by kernel_rfl,by kernel_rfl⟩ (by have h4:=e85 (K:=fun s E'=>K s bx E') h1 h2 h3;unfold Ent at h4;unfold EntB;exact h4))
noncomputable def G8:Cx:={ P:=Try.prog,inl:=fun f=>List.contains [] f,tab:=fun _ _ _ _=>False,isB:=fun f=>f==85,tabB:=tab85,opt:={ unroll:=0,carry:=[] },muts:=mutsD }
theorem okG8:CxOK G8:=CxOK.four (fun _ _ _ _ h=>h.elim) (by kernel_rfl) (okInl (by kernel_rfl)) tab85_ok
theorem e68 {b:Option Addr} {l c:Nat} {zs:List Int} (h0:Bs E b l c zs) (h2:l<=100000) (h:K (B (zs.any fun x=>decide (x≠255))) E):Ent G8 8 Try.f68 [L b l c,.clo 69 [] []] E K:=by
 refine sm_ (?_:85=85/\∃ (b_1:Option Addr),∃ (l_1:Nat),∃ (c_1:Nat),∃ (zs:List Int),[L b l c,SV.clo 69 [] []]=[L b_1 l_1 c_1,SV.clo 69 [] []]/\Bs E b_1 l_1 c_1 zs/\l_1<=100000/\∀ (r:Int),(decide ((0:Int)<=r)=List.any zs fun (x:Int)=>decide (x≠(255:Int)))->Mem.le E E/\K (B (decide (r>=(0:Int)))) E)
 refine ⟨rfl,b,l,c,zs,rfl,h0,h2,fun r hr=>?_⟩
 rw [← hr] at h
 exact ⟨mr_,h⟩
def tab68:CallT:=fun f args bx E K=>f=68/\∃ (b:Option Addr) (l c:Nat) (zs:List Int),args=[L b l c,.clo 69 [] []]/\Bs E b l c zs/\l<=100000/\K (B (zs.any fun x=>decide (x≠255))) bx E
theorem tab68_ok (f:FuncId) (args:List SV) (bx:List Box) (E:Mem) (K:KT) (h:tab68 f args bx E K):CallSem Try.prog f args bx E K:=by
 obtain ⟨rfl,b,l,c,zs,rfl,h1,h2,h3⟩:=h
 exact tab_clo (EntB.semO (n:=8) okG8 Try.func68 ⟨by kernel_rfl,by kernel_rfl⟩ (by have h4:=e68 (K:=fun s E'=>K s bx E') h1 h2 h3;unfold Ent at h4;unfold EntB;exact h4))
theorem FL.cap {E:Mem} {b:Option Addr} {n c:Nat} {ms:List (Int×List Int)} (h:FL E b n c ms):n<=c:=by
 obtain ⟨rs,h1,h2,h3,_⟩:=h;exact h3
theorem rows_one (rs:List FRow):∀ x:Value,List.Mem x (rs.flatMap rowV)->x.oneCell'=true:=fun x hx=>by
 obtain ⟨r,_,h⟩:=List.mem_flatMap.1 hx
 simp only [rowV,List.mem_cons,List.not_mem_nil,or_false] at h
 rcases h with rfl|rfl<;>rfl
theorem FL.src {E:Mem} {b:Option Addr} {n c:Nat} {ms:List (Int×List Int)} (h:FL E b n c ms):
  ∃ rs:List FRow,FLr E rs ms/\(rs.flatMap rowV=[]\/E (.slice b n c) (rs.flatMap rowV))/\n*2<=(rs.flatMap rowV).length/\(∀ x:Value,List.Mem x (rs.flatMap rowV)->x.oneCell'=true)/\rs.length=n:=by
 obtain ⟨rs,h1,h2,h3,h4,h5⟩:=h
 have hl:rs.length=n:=by rw [h1.1,h2]
 refine ⟨rs,h1,?_,by rw [rows_len,hl];exact Nat.le_refl _,rows_one rs,hl⟩
 rcases h4 with rfl|h4
 ·exact .inl (by rw [List.length_eq_zero_iff.1 hl];rfl)
 ·exact .inr h4
theorem rows_drop (rs:List FRow):(rs.flatMap rowV).drop 2=(rs.drop 1).flatMap rowV:=by
 cases rs with
 | nil=>rfl
 | cons r rs=>rfl
theorem FL.tail {E E':Mem} {b b':Option Addr} {n c:Nat} {ms:List (Int×List Int)} (h:FL E b n c ms) (he:Mem.le E E')
  (hF:∀ cs,E (.slice b n c) cs->E' (.slice b' (n-1) (c-1)) (List.take ((n-1)*2) (List.drop 2 cs))) (hN:b'.isNone=b.isNone) (hn:1<=n):FL E' b' (n-1) (c-1) (ms.drop 1):=by
 obtain ⟨rs,h1,h2,h3,h4,h5⟩:=h
 have hl:rs.length=n:=by rw [h1.1,h2]
 refine ⟨rs.drop 1,⟨by simp [h1.1],fun i r m g1 g2=>?_⟩,by simp [h2],by omega,.inr ?_,fun e=>?_⟩
 ·rw [List.getElem?_drop] at g1 g2
  exact ⟨(h1.2 _ r m g1 g2).1,((h1.2 _ r m g1 g2).2).mono he⟩
 ·have:=hF _ (h4.resolve_left (by omega))
  rw [rows_drop,List.take_of_length_le (by rw [rows_len];simp;omega)] at this
  exact this
 ·have:=h5 (by cases b with |none=>rfl|some x=>rw [e] at hN;cases hN)
  omega
theorem FLr.app {E:Mem} {rs rt:List FRow} {ms ns:List (Int×List Int)} (h:FLr E rs ms) (k:FLr E rt ns):FLr E (rs++rt) (ms++ns):=by
 refine ⟨by simp [h.1,k.1],fun i r m g1 g2=>?_⟩
 have hl:=h.1
 by_cases hi:i<rs.length
 ·rw [List.getElem?_append_left hi] at g1
  rw [List.getElem?_append_left (by omega)] at g2
  exact h.2 i r m g1 g2
 ·rw [List.getElem?_append_right (by omega)] at g1
  rw [List.getElem?_append_right (by omega),← hl] at g2
  exact k.2 _ r m g1 g2
theorem last_load {E:Mem} {rs:List FRow} {ms:List (Int×List Int)} {N:Nat} (R:FLr E rs ms) (hn:ms.length=N) (h1:1<=N) (hb:N<=1000000000000):
  (0<=IntKind.wrap .i64 ((N:Int)-1)/\IntKind.wrap .i64 ((N:Int)-1)<(N:Int))/\∃ (b':Option Addr) (l' c':Nat),LoadV Try.prog 24 (rs.flatMap rowV) (0+Int.toNat (IntKind.wrap .i64 ((N:Int)-1))*2) (.agg [I (lastM ms).1,L b' l' c'])/\Bs E b' l' c' (lastM ms).2:=by
 rw [wrap_i64 (x:=(N:Int)-1) (by omega)]
 have hrl:rs.length=N:=by rw [R.1,hn]
 obtain ⟨r,er⟩:∃ r,rs[N-1]? =some r:=⟨_,List.getElem?_eq_getElem (by omega)⟩
 obtain ⟨m,em⟩:∃ m,ms[N-1]? =some m:=⟨_,List.getElem?_eq_getElem (by omega)⟩
 have e:lastM ms=m:=by
  unfold lastM
  rw [List.getLastD_eq_getLast?,List.getLast?_eq_getElem?,hn,em];rfl
 obtain ⟨q1,q2⟩:=R.2 _ r m er em
 refine ⟨by omega,r.2.1,r.2.2.1,r.2.2.2,?_,by rw [e];exact q2⟩
 rw [e,← q1,show 0+Int.toNat ((N:Int)-1)*2=(N-1)*2 by omega]
 exact loadW_row er
theorem tail_app {E:Mem} {b':Option Addr} {l' c' N cap tot:Nat} {ms ms2:List (Int×List Int)} {rs:List FRow} (F:FL E b' l' c' ms2) (hl:1<=l') (R:FLr E rs ms) (hn:ms.length=N) (hc:N<=cap/\cap*2<=tot) (hb:N+l'<=1000000000000)
  {Q:Option Addr->Mem->List Value->Nat->Nat->Prop}
  (k:∀ (base':Option Addr) (E':Mem) (cs:List Value) (cap' tot':Nat) (rs':List FRow),List.take (N*2) (rs.flatMap rowV)++List.take ((toN none l'-1)*2) cs=rs'.flatMap rowV->Mem.le E E'->FLr E' rs' (chgF ms ms2)->(chgF ms ms2).length=N+(toN none l'-1)->N+(toN none l'-1)<=cap'->cap'*2<=tot'->Q base' E' cs cap' tot'):
  req (l'<=c') (req (0<=(1:Int)/\(1:Int)<=((toN none l':Nat):Int)) (∀ (base':Option Addr) (E':Mem),Mem.le E E'->(∀ cs:List Value,E (.slice b' l' c') cs->E' (.slice base' (toN none l'-1) (toN none c'-1)) (List.take ((toN none l'-1)*2) (List.drop 2 cs)))->base'.isNone=b'.isNone->
   ∃ cs:List Value,(cs=[]\/E' (.slice base' (toN none l'-1) (toN none c'-1)) cs)/\(toN none l'-1)*2<=List.length cs/\(∀ x:Value,List.Mem x cs->x.oneCell'=true)/\N*2<=List.length (Row.cells (Row.vals (rs.flatMap rowV)))/\cap*2<=tot/\N<=cap/\
    req ((N+(toN none l'-1))*32<=140737488355328) (∀ cap' tot':Nat,N+(toN none l'-1)<=cap'->cap'*2<=tot'->Q base' E' cs cap' tot'))):=by
 have hcap:=F.cap
 have e0:toN none l'=l':=rfl
 refine req_intro hcap (req_intro (by rw [e0];omega) fun base' E' q1 q2 q3=>?_)
 have T:=FL.tail F q1 q2 q3 hl
 obtain ⟨rt,u1,u2,u3,u4,u5⟩:=T.src
 have hrl:rs.length=N:=by rw [R.1,hn]
 refine ⟨_,u2,u3,u4,?_,hc.2,hc.1,req_intro (by rw [e0];omega) fun cap' tot' g1 g2=>k base' E' _ cap' tot' (rs++rt) ?_ q1 ((R.mono q1).app u1) ?_ g1 g2⟩
 ·show _<=(List.map SV.raw _).length
  rw [List.length_map,rows_len,hrl];exact Nat.le_refl _
 ·rw [List.take_of_length_le (by rw [rows_len,hrl];exact Nat.le_refl _),List.take_of_length_le (by rw [rows_len,u5];exact Nat.le_refl _),List.flatMap_append]
 ·rw [chgF_len,hn,F.len];rfl
structure LI (E:Mem) (rs:List FRow) (ms:List (Int×List Int)) (n cap tot N:Nat):Prop where
 R:FLr E rs ms
 hn:ms.length=n
 hc:n<=cap/\cap*2<=tot
 hb:1<=n/\n<=N
 l1:(lastM ms).1=128
 l2:(lastM ms).2.length=8448
theorem LI.mono {E E':Mem} {rs:List FRow} {ms:List (Int×List Int)} {n cap tot N:Nat} (I:LI E rs ms n cap tot N) (h:Mem.le E E'):LI E' rs ms n cap tot N:=⟨I.R.mono h,I.hn,I.hc,I.hb,I.l1,I.l2⟩
theorem LI.load {E:Mem} {rs:List FRow} {ms:List (Int×List Int)} {n cap tot N:Nat} (X:LI E rs ms n cap tot N) (hN:N<=100000):
  (0<=IntKind.wrap .i64 ((n:Int)-1)/\IntKind.wrap .i64 ((n:Int)-1)<(n:Int))/\∃ (b':Option Addr) (c':Nat),LoadV Try.prog 24 (rs.flatMap rowV) (0+Int.toNat (IntKind.wrap .i64 ((n:Int)-1))*2) (.agg [I 128,L b' 8448 c'])/\Bs E b' 8448 c' (lastM ms).2:=by
 have hb:=X.hb
 obtain ⟨h1,b',l',c',h2,h3⟩:=last_load X.R X.hn hb.1 (by omega)
 have e:l'=8448:=by rw [← h3.2.1,X.l2]
 subst e
 rw [X.l1] at h2
 exact ⟨h1,b',c',h2,h3⟩
theorem LI.app {E E2:Mem} {rs:List FRow} {ms m2 ms':List (Int×List Int)} {n cap tot N k:Nat} {b':Option Addr} {l' c':Nat} (I:LI E rs ms n cap tot N) (hE:Mem.le E E2) (F:FL E2 b' l' c' m2) (h2:m2.length=k+1) (hN:N+k<=100000)
  (e:chgF ms m2=ms') (e1:(lastM ms').1=128) (e2:(lastM ms').2.length=8448)
  {Q:Option Addr->Mem->List Value->Nat->Nat->Prop}
  (q:∀ (base':Option Addr) (E':Mem) (cs:List Value) (cap' tot':Nat) (rs':List FRow),List.take (n*2) (rs.flatMap rowV)++List.take ((toN none l'-1)*2) cs=rs'.flatMap rowV->Mem.le E2 E'->LI E' rs' ms' (n+(toN none l'-1)) cap' tot' (N+k)->Q base' E' cs cap' tot'):
  req (l'<=c') (req (0<=(1:Int)/\(1:Int)<=((toN none l':Nat):Int)) (∀ (base':Option Addr) (E':Mem),Mem.le E2 E'->(∀ cs:List Value,E2 (.slice b' l' c') cs->E' (.slice base' (toN none l'-1) (toN none c'-1)) (List.take ((toN none l'-1)*2) (List.drop 2 cs)))->base'.isNone=b'.isNone->
   ∃ cs:List Value,(cs=[]\/E' (.slice base' (toN none l'-1) (toN none c'-1)) cs)/\(toN none l'-1)*2<=List.length cs/\(∀ x:Value,List.Mem x cs->x.oneCell'=true)/\n*2<=List.length (Row.cells (Row.vals (rs.flatMap rowV)))/\cap*2<=tot/\n<=cap/\
    req ((n+(toN none l'-1))*32<=140737488355328) (∀ cap' tot':Nat,n+(toN none l'-1)<=cap'->cap'*2<=tot'->Q base' E' cs cap' tot'))):=by
 have hb:=I.hb
 have hl':=F.len
 rw [h2] at hl'
 have e0:toN none l'=l':=rfl
 refine tail_app F (by omega) (I.R.mono hE) I.hn I.hc (by omega) fun base' E' cs cap' tot' rs' h1 h2 h3 h4 h5 h6=>q base' E' cs cap' tot' rs' h1 h2 ⟨e ▸ h3,e ▸ h4,⟨h5,h6⟩,⟨by omega,by omega⟩,e1,e2⟩
theorem prog_li {ms m2:List (Int×List Int)} {a:Nat} {ds:List Int} (l1:(lastM ms).1=128) (l2:(lastM ms).2.length=8448) (ha:a+ds.length<=8448) (h:progF 128 (lastM ms).2 (a:Int) ds=(m2,0)):
  m2.length=ds.length+1/\chgF ms m2=progL ms a ds/\(lastM (progL ms a ds)).1=128/\(lastM (progL ms a ds)).2.length=8448:=by
 have hl:lastM ms=(128,(lastM ms).2):=Prod.ext l1 rfl
 have h0:=h
 rw [progF_mk (by rw [l2];exact validB) (by omega) (by omega)] at h
 have e:=(Prod.mk.inj h).1
 have ee:chgF ms m2=progL ms a ds:=by unfold progL;rw [l1,h0]
 refine ⟨by rw [← e,mems_len],ee,?_⟩
 by_cases q:ds.length=0
 ·have :ds=[]:=List.length_eq_zero_iff.1 q
  subst this
  rw [progL_nil (s:=128) validB hl l2 (by omega)]
  exact ⟨l1,l2⟩
 ·rw [← ee,← e,mems_last (by omega)]
  exact ⟨rfl,by simp only [stp_len];exact l2⟩
theorem eras_li {ms m2:List (Int×List Int)} {k:Nat} (l1:(lastM ms).1=128) (l2:(lastM ms).2.length=8448) (hk:k<66) (h:erasF 128 (lastM ms).2 (k:Int)=(m2,0)):
  m2.length=128+1/\chgF ms m2=erasL ms k/\(lastM (erasL ms k)).1=128/\(lastM (erasL ms k)).2.length=8448:=by
 have h0:=h
 rw [erasF_mk (by rw [l2];exact validB) (by omega) (by rw [l2];omega)] at h
 have e:=(Prod.mk.inj h).1
 have ee:chgF ms m2=erasL ms k:=by unfold erasL;rw [l1,h0]
 refine ⟨by rw [← e,mems_len];rfl,ee,?_⟩
 rw [← ee,← e]
 have:=mems_last (s:=128) (g:=gE) (a:=((k:Int)*128).toNat) (n:=128) (zs:=(lastM ms).2) (l:=ms) (by decide)
 rw [show (128:Int).toNat+1=128+1 from rfl,this]
 exact ⟨rfl,by simp only [stp_len];exact l2⟩
structure HI (E:Mem) (s v:Int) (b b0 b1 pb:Option Addr) (l c pl pc:Nat) (z p:List Int):Prop where
 hs:s=128
 hl:l=8448
 hz:Bs E b l c z
 h0:Bs E b0 4224 4224 (bankF z 0)
 h1:Bs E b1 4224 4224 (bankF z 1)
 hp:Bs E pb pl pc p
 hv:0<=v/\v<=1000000000
 hpl:pl<=4096
theorem HI.mono {E E':Mem} {s v:Int} {b b0 b1 pb:Option Addr} {l c pl pc:Nat} {z p:List Int} (h:HI E s v b b0 b1 pb l c pl pc z p) (he:Mem.le E E'):HI E' s v b b0 b1 pb l c pl pc z p:=
 ⟨h.hs,h.hl,h.hz.mono he,h.h0.mono he,h.h1.mono he,h.hp.mono he,h.hv,h.hpl⟩
noncomputable def tabCH:FuncId->List SV->Mem->(SV->Mem->Prop)->Prop:=fun f args E K=>match f with
 | 51=>d3 args fun x0 x1 x2=>dC x0 fun l1=>d2 l1 fun x0_0 x0_1=>dI x0_0 fun a1=>dS x0_1 fun b2 l3 c4=>dI x1 fun a5=>dS x2 fun b6 l7 c8=>∃ (zs:List Int) (ds:List Int),Bs E b2 l3 c4 zs/\Bs E b6 l7 c8 ds/\validF a1 l3/\0<=a5/\a5+l7<=l3/\(∀ (b':Option Addr) (l' c':Nat) (ms:List (Int×List Int)) (E':Mem),Mem.le E E'->Hyp (progF a1 zs a5 ds=(ms,0))->FL E' b' l' c' ms->K (.tup [L b' l' c',I 0]) E')
 | 71=>d2 args fun x0 x1=>dC x0 fun l1=>d2 l1 fun x0_0 x0_1=>dI x0_0 fun a1=>dS x0_1 fun b2 l3 c4=>dI x1 fun a5=>∃ (zs:List Int),Bs E b2 l3 c4 zs/\validF a1 l3/\0<=a5/\a5<(l3:Int) / a1/\(∀ (b':Option Addr) (l' c':Nat) (ms:List (Int×List Int)) (E':Mem),Mem.le E E'->Hyp (erasF a1 zs a5=(ms,0))->FL E' b' l' c' ms->K (.tup [L b' l' c',I 0]) E')
 | _=>False
theorem tabCH_ok:TabOK Try.prog tabCH:=by
 intro f args E K h
 unfold tabCH at h
 split at h
 ·replace h:=d3_elim h
  obtain ⟨x0,x1,x2,rfl,h⟩:=h
  replace h:=dC_elim h
  obtain ⟨l1,hl1,h⟩:=h
  replace h:=d2_elim h
  obtain ⟨x0_0,x0_1,rfl,h⟩:=h
  replace h:=dI_elim h
  obtain ⟨a1,rfl,h⟩:=h
  replace h:=dS_elim h
  obtain ⟨b2,l3,c4,rfl,h⟩:=h
  replace h:=dI_elim h
  obtain ⟨a5,rfl,h⟩:=h
  replace h:=dS_elim h
  obtain ⟨b6,l7,c8,rfl,h⟩:=h
  obtain ⟨zs,ds,g0,g1,g2,g3,g4,h⟩:=h
  exact TabSem.congr (valL_cons (asCells_val hl1) (valL_cons rfl (valL_cons rfl rfl))) (esm okF3 Try.func51 rfl (q14H g0 g1 g2 g3 g4 h))
 ·replace h:=d2_elim h
  obtain ⟨x0,x1,rfl,h⟩:=h
  replace h:=dC_elim h
  obtain ⟨l1,hl1,h⟩:=h
  replace h:=d2_elim h
  obtain ⟨x0_0,x0_1,rfl,h⟩:=h
  replace h:=dI_elim h
  obtain ⟨a1,rfl,h⟩:=h
  replace h:=dS_elim h
  obtain ⟨b2,l3,c4,rfl,h⟩:=h
  replace h:=dI_elim h
  obtain ⟨a5,rfl,h⟩:=h
  obtain ⟨zs,g0,g1,g2,g3,h⟩:=h
  exact TabSem.congr (valL_cons (asCells_val hl1) (valL_cons rfl rfl)) (esm okF4 Try.func71 rfl (q16H g0 g1 g2 g3 h))
 ·exact h.elim
noncomputable def CH:Cx:={ P:=Try.prog,inl:=fun f=>List.contains [66,70] f,tab:=tabCH,isB:=fun _=>false,tabB:=fun _ _ _ _ _=>False,opt:={ unroll:=0,carry:=[],cuts:=[8] },muts:=(fun o=>match o with | .call _=>true|o=>mutsD o) }
theorem okCH:CxOK CH:=CxOK.four tabCH_ok (by kernel_rfl) (okInl (by kernel_rfl)) (fun _ _ _ _ _ h=>h.elim)
abbrev fr42 (s:Int) (b:Option Addr) (l c:Nat):List (Option SV):=[some (.agg [I s,L b l c]),some (.clo 43 [] [.loc 3 0,.loc 4 0,.loc 5 0,.loc 2 0,.loc 1 0]),oc 6 0,none,oc 7 0,oc 8 0,oc 10 0,none,none,none,some (.agg [I s,L b l c]),os 9 0 1 1,some (.clo 43 [] [.loc 3 0,.loc 4 0,.loc 5 0,.loc 2 0,.loc 1 0])]++List.replicate 20 none
noncomputable def tabGI:FuncId->List SV->Mem->(SV->Mem->Prop)->Prop:=fun f args E K=>match f with
 | 31=>d2 args fun x0 x1=>dI x0 fun a1=>dS x1 fun b2 l3 c4=>∃ (zs:List Int),Bs E b2 l3 c4 zs/\0<=a1/\a1<=1000000000/\l3<=4096/\(∀ (b':Option Addr) (l' c':Nat) (ys:List Int) (E':Mem),Mem.le E E'->Hyp (ys=hidH a1 zs)->Bs E' b' l' c' ys->K (L b' l' c') E')
 | _=>False
theorem tabGI_ok:TabOK Try.prog tabGI:=by
 intro f args E K h
 unfold tabGI at h
 split at h
 ·replace h:=d2_elim h
  obtain ⟨x0,x1,rfl,h⟩:=h
  replace h:=dI_elim h
  obtain ⟨a1,rfl,h⟩:=h
  replace h:=dS_elim h
  obtain ⟨b2,l3,c4,rfl,h⟩:=h
  obtain ⟨zs,g0,g1,g2,g3,h⟩:=h
  exact TabSem.congr (valL_cons rfl (valL_cons rfl rfl)) (esm okH1 Try.func31 rfl (q31 g0 g1 g2 g3 h))
 ·exact h.elim
noncomputable def GI:Cx:={ P:=Try.prog,inl:=fun f=>List.contains [44,45] f,tab:=tabGI,isB:=fun _=>false,tabB:=fun _ _ _ _ _=>False,opt:={ unroll:=0,carry:=[50],cuts:=[1,2,5] },muts:=(fun o=>match o with | .call { args:=#[.tmp 45,.tmp 46],.. }=>true| .call { args:=#[.tmp 19,.tmp 20],.. }=>true| .call { args:=#[.tmp 21],.. }=>true|o=>mutsD o) }
theorem okGI:CxOK GI:=CxOK.four tabGI_ok (by kernel_rfl) (okInl (by kernel_rfl)) (fun _ _ _ _ _ h=>h.elim)
noncomputable def CI (s:Int) (b:Option Addr) (l c:Nat) (rc:Rc):Cx:=YCx GI CH 8 (fr42 s b l c) (sub (bodyOf Try.f42) [1,1,0,1,0]) rc
theorem bank_at {z:List Int} {k i:Nat} (h:i<4224):(bankF z k).getD i 0=z.getD (4224*k+i) 0:=bank_get h
def shA_0 (s v:Int) (b b0 b1 pb:Option Addr) (l c pl pc:Nat) (rc:Rc) (n cap tot:Nat) (rs:List FRow) (E:Mem):St:=⟨[some (.raw (.func (.yield rc.l) #[] #[])),oc 3 0,oc 4 0,oc 5 0,oc 2 0,oc 1 0,oc 11 0]++List.replicate 52 none,[⟨24,.lst [I s,L b l c],2,true⟩,⟨3,.lst [I v],1,true⟩,⟨22,.lst [L pb pl pc],1,true⟩,⟨56,.lst [L b0 4224 4224,L b1 4224 4224],2,true⟩,⟨3,.lst [I 0],1,true⟩,⟨3,.lst [I 0],1,true⟩,⟨24,.lst [I s,L b l c],2,true⟩,⟨33,.lst [L none 0 0],1,true⟩,⟨26,.lst [I 0],1,true⟩,⟨24,.lst [],0,false⟩,⟨33,.lst [.slc 12 0 n cap],1,true⟩,⟨68,.lst [.raw (.func (.yield rc.l) #[] #[])],1,true⟩,⟨24,.vals (rs.flatMap rowV),tot,true⟩],E⟩
theorem y1_0 {s v:Int} {b b0 b1 pb:Option Addr} {l c pl pc:Nat} {z p:List Int} {rc:Rc} {n cap tot N:Nat} {rs:List FRow} {ms:List (Int×List Int)} {KK:KT} (H:HI E s v b b0 b1 pb l c pl pc z p) (X:LI E rs ms n cap tot N) (hN:N<=50000)
  (h:∀ (E':Mem) (n' cap' tot':Nat) (rs':List FRow),Mem.le E E'->LI E' rs' (if z.getD (0+14) 0≠255 then progL ms (0+14) [0] else ms) n' cap' tot' (N+1)->Ct (CI s b l c rc) 8 Try.f43 [1,1] 11 KK (shA_0 s v b b0 b1 pb l c pl pc rc n' cap' tot' rs' E')):
  Pc (CI s b l c rc) 8 Try.f43 [1] 11 KK (shA_0 s v b b0 b1 pb l c pl pc rc n cap tot rs E):=by
 refine sm_ (?_:(∃ (cs:List Value),E (VS b0 4224 4224) cs/\(cs=[]->False))/\∃ (n_1:Int),LoadE (CI s b l c rc).P E 5 (VS b0 4224 4224) 14 (SV.raw (U8 n_1))/\bif n_1 !=(255:Int) then Sx.Alike (AlikeT.n AlikeT.l al2) (rc.l=rc.l/\req ((0:Int)<=WI ((NI n)-1)/\WI ((NI n)-1)<(NI n)) (∃ (n_2:Int),∃ (base:Option Addr),∃ (len:Nat),∃ (cap_1:Nat),LoadV CH.P 24 (List.flatMap rowV rs) (0+Int.toNat (WI ((NI n)-1))*2) (SV.agg [I n_2,L base len cap_1])/\∀ (base_1:Option Addr) (E':Mem),Mem.le E E'->WinE E' base_1 [U8 0]->∃ (zs:List Int),∃ (ds:List Int),Bs E' base len cap_1 zs/\Bs E' (Option.map (fun (x:Addr)=>Addr.add x 0) base_1) 1 1 ds/\validF n_2 len/\(0:Int)<=(14:Int)/\15<=(NI len)/\∀ (b':Option Addr) (l' c':Nat) (ms:List (Int×List Int)) (E'_1:Mem),Mem.le E' E'_1->Hyp (progF n_2 zs 14 ds=(ms,(0:Int)))->FL E'_1 b' l' c' ms->req (l'<=c') (req ((0:Int)<=(1:Int)/\1<=(NI (toN none l'))) (∀ (base':Option Addr) (E':Mem),Mem.le E'_1 E'->(∀ (cs:List Value),E'_1 (VS b' l' c') cs->E' (VS base' (toN none l'-1) (toN none c'-1)) (List.take ((toN none l'-1)*2) (List.drop 2 cs)))->Option.isNone base'=Option.isNone b'->∃ (cs:List Value),(cs=[]\/E' (VS base' (toN none l'-1) (toN none c'-1)) cs)/\(toN none l'-1)*2<=List.length cs/\(∀ (x:Value),List.Mem x cs->Value.oneCell' x=true)/\n*2<=List.length (Row.cells (Row.vals (List.flatMap rowV rs)))/\cap*2<=tot/\n<=cap/\req ((n+(toN none l'-1))*32<=140737488355328) (∀ (cap' tot':Nat),n+(toN none l'-1)<=cap'->cap'*2<=tot'->Ct (CI s b l c rc) 8 Try.f43 [1,1] 11 KK { fr:=some (SV.raw (Value.func (Fn.yield rc.l) #[] #[]))::oc 3 0::oc 4 0::oc 5 0::oc 2 0::oc 1 0::oc 11 0::none::none::none::oI 0::oc 3 0::oL b0 4224 4224::some (SV.rp (VS b0 4224 4224) 14)::some (SV.raw (U8 n_1))::oB (n_1 !=(255:Int))::oB true::some (SV.raw (Value.func (Fn.yield rc.l) #[] #[]))::oI 0::oI 14::os 13 0 1 1::some (SV.clo 66 [] [SV.loc 14 0,SV.loc 15 0])::oB true::oB false::oB false::no32 (no2 []),bx:=[(⟨24,.lst [I s,L b l c],2,true⟩:Box),⟨3,.lst [I v],1,true⟩,⟨22,.lst [L pb pl pc],1,true⟩,⟨56,.lst [L b0 4224 4224,L b1 4224 4224],2,true⟩,⟨3,.lst [I 0],1,true⟩,⟨3,.lst [I 0],1,true⟩,⟨24,.lst [I s,L b l c],2,true⟩,⟨33,.lst [L none 0 0],1,true⟩,⟨26,.lst [I 0],1,true⟩,⟨24,.lst [],0,false⟩,⟨33,.lst [SV.slc 17 0 (n+(toN none l'-1)) cap'],1,true⟩,⟨68,.lst [SV.raw (Value.func (Fn.yield rc.l) #[] #[])],1,true⟩,⟨24,.lst [],0,false⟩,⟨5,.lst [SV.raw (U8 0)],1,false⟩,⟨3,.lst [I 14],1,true⟩,⟨22,.lst [L (Option.map (fun (x:Addr)=>Addr.add x 0) base_1) 1 1],1,true⟩,⟨24,.lst [I n_2,L base len cap_1],2,true⟩,⟨24,.vals (List.take (n*2) (List.flatMap rowV rs)++List.take ((toN none l'-1)*2) cs),tot',true⟩],E:=E':St }))))) else Sx.Alike (AlikeT.n AlikeT.l al2) (Ct (CI s b l c rc) 8 Try.f43 [1,1] 11 KK { fr:=some (SV.raw (Value.func (Fn.yield rc.l) #[] #[]))::oc 3 0::oc 4 0::oc 5 0::oc 2 0::oc 1 0::oc 11 0::none::none::none::oI 0::oc 3 0::oL b0 4224 4224::some (SV.rp (VS b0 4224 4224) 14)::some (SV.raw (U8 n_1))::oB (n_1 !=(255:Int))::oB false::oU::oU::oU::oU::oU::oU::oU::oB false::no32 (no2 []),bx:=[(⟨24,.lst [I s,L b l c],2,true⟩:Box),⟨3,.lst [I v],1,true⟩,⟨22,.lst [L pb pl pc],1,true⟩,⟨56,.lst [L b0 4224 4224,L b1 4224 4224],2,true⟩,⟨3,.lst [I 0],1,true⟩,⟨3,.lst [I 0],1,true⟩,⟨24,.lst [I s,L b l c],2,true⟩,⟨33,.lst [L none 0 0],1,true⟩,⟨26,.lst [I 0],1,true⟩,⟨24,.lst [],0,false⟩,⟨33,.lst [SV.slc 12 0 n cap],1,true⟩,⟨68,.lst [SV.raw (Value.func (Fn.yield rc.l) #[] #[])],1,true⟩,⟨24,.vals (List.flatMap rowV rs),tot,true⟩],E:=E:St }))
 delta WI NI U8 VS no2 no32
 have hb:=H.h0
 have hg:(bankF z 0).getD 14 0=z.getD (0+14) 0:=bank_at (k:=0) (by decide)
 refine ⟨hb.ne (i:=14) (by decide),(bankF z 0).getD 14 0,hb.load rfl (i:=14) (by decide),condC (fun g=>?_) (fun g=>?_)⟩
 ·have g:z.getD (0+14) 0≠255:=by rw [hg] at g;simpa using g
  rw [if_pos g] at h
  obtain ⟨q1,b2,c2,q2,q3⟩:=X.load (by omega)
  refine alike ⟨rfl,req_intro q1 ⟨128,b2,8448,c2,q2,fun bw Ew kw ww=>⟨_,[0],q3.mono kw,Bs.win (zs:=[0]) ww rfl rfl (Nat.le_refl _) (by decide),validB,by decide,by decide,fun b3 l3 c3 m3 E3 k3 r3 F3=>?_⟩⟩⟩
  have r3:progF 128 (lastM ms).2 ((0+14:Nat):Int) [0]=(m3,0):=r3
  obtain ⟨p1,p2,p3,p4⟩:=prog_li X.l1 X.l2 (by simp) r3
  refine X.app (mt_ kw k3) F3 p1 (by show N+1<=_;omega) p2 p3 p4 fun base' E' cs cap' tot' rs' e1 e2 e3=>?_
  rw [e1]
  exact Ct_re [some 0,some 1,some 2,some 3,some 4,some 5,some 6,some 7,some 8,some 9,some 10,some 11,some 17] (h E' _ cap' tot' rs' (mt_ kw (mt_ k3 e2)) e3) (wkG mr_ (h6:=(by repeat' first|exact True.intro|exact rfl|exact Or.inl rfl|exact (by decide:9<18)|refine And.intro ?_ ?_)))
 ·have g:z.getD (0+14) 0=255:=by rw [hg] at g;simpa using g
  rw [if_neg (fun q=>q g)] at h
  refine alike ?_
  exact Ct_re [some 0,some 1,some 2,some 3,some 4,some 5,some 6,some 7,some 8,some 9,some 10,some 11,some 12] (h E n cap tot rs mr_ ⟨X.R,X.hn,X.hc,⟨X.hb.1,Nat.le_succ_of_le X.hb.2⟩,X.l1,X.l2⟩) (wkG mr_ (h6:=(by repeat' first|exact True.intro|exact rfl|exact Or.inl rfl|exact (by decide:9<13)|refine And.intro ?_ ?_)))
def shA_1 (s v:Int) (b b0 b1 pb:Option Addr) (l c pl pc:Nat) (rc:Rc) (n cap tot:Nat) (rs:List FRow) (E:Mem):St:=⟨[some (.raw (.func (.yield rc.l) #[] #[])),oc 3 0,oc 4 0,oc 5 0,oc 2 0,oc 1 0,oc 11 0]++List.replicate 52 none,[⟨24,.lst [I s,L b l c],2,true⟩,⟨3,.lst [I v],1,true⟩,⟨22,.lst [L pb pl pc],1,true⟩,⟨56,.lst [L b0 4224 4224,L b1 4224 4224],2,true⟩,⟨3,.lst [I 1],1,true⟩,⟨3,.lst [I 4224],1,true⟩,⟨24,.lst [I s,L b l c],2,true⟩,⟨33,.lst [L none 0 0],1,true⟩,⟨26,.lst [I 0],1,true⟩,⟨24,.lst [],0,false⟩,⟨33,.lst [.slc 12 0 n cap],1,true⟩,⟨68,.lst [.raw (.func (.yield rc.l) #[] #[])],1,true⟩,⟨24,.vals (rs.flatMap rowV),tot,true⟩],E⟩
theorem y1_1 {s v:Int} {b b0 b1 pb:Option Addr} {l c pl pc:Nat} {z p:List Int} {rc:Rc} {n cap tot N:Nat} {rs:List FRow} {ms:List (Int×List Int)} {KK:KT} (H:HI E s v b b0 b1 pb l c pl pc z p) (X:LI E rs ms n cap tot N) (hN:N<=50000)
  (h:∀ (E':Mem) (n' cap' tot':Nat) (rs':List FRow),Mem.le E E'->LI E' rs' (if z.getD (4224+14) 0≠255 then progL ms (4224+14) [0] else ms) n' cap' tot' (N+1)->Ct (CI s b l c rc) 8 Try.f43 [1,1] 11 KK (shA_1 s v b b0 b1 pb l c pl pc rc n' cap' tot' rs' E')):
  Pc (CI s b l c rc) 8 Try.f43 [1] 11 KK (shA_1 s v b b0 b1 pb l c pl pc rc n cap tot rs E):=by
 refine sm_ (?_:(∃ (cs:List Value),E (VS b1 4224 4224) cs/\(cs=[]->False))/\∃ (n_1:Int),LoadE (CI s b l c rc).P E 5 (VS b1 4224 4224) 14 (SV.raw (U8 n_1))/\bif n_1 !=(255:Int) then Sx.Alike (AlikeT.n AlikeT.l al2) (rc.l=rc.l/\req ((0:Int)<=WI ((NI n)-1)/\WI ((NI n)-1)<(NI n)) (∃ (n_2:Int),∃ (base:Option Addr),∃ (len:Nat),∃ (cap_1:Nat),LoadV CH.P 24 (List.flatMap rowV rs) (0+Int.toNat (WI ((NI n)-1))*2) (SV.agg [I n_2,L base len cap_1])/\∀ (base_1:Option Addr) (E':Mem),Mem.le E E'->WinE E' base_1 [U8 0]->∃ (zs:List Int),∃ (ds:List Int),Bs E' base len cap_1 zs/\Bs E' (Option.map (fun (x:Addr)=>Addr.add x 0) base_1) 1 1 ds/\validF n_2 len/\(0:Int)<=(4238:Int)/\4239<=(NI len)/\∀ (b':Option Addr) (l' c':Nat) (ms:List (Int×List Int)) (E'_1:Mem),Mem.le E' E'_1->Hyp (progF n_2 zs 4238 ds=(ms,(0:Int)))->FL E'_1 b' l' c' ms->req (l'<=c') (req ((0:Int)<=(1:Int)/\1<=(NI (toN none l'))) (∀ (base':Option Addr) (E':Mem),Mem.le E'_1 E'->(∀ (cs:List Value),E'_1 (VS b' l' c') cs->E' (VS base' (toN none l'-1) (toN none c'-1)) (List.take ((toN none l'-1)*2) (List.drop 2 cs)))->Option.isNone base'=Option.isNone b'->∃ (cs:List Value),(cs=[]\/E' (VS base' (toN none l'-1) (toN none c'-1)) cs)/\(toN none l'-1)*2<=List.length cs/\(∀ (x:Value),List.Mem x cs->Value.oneCell' x=true)/\n*2<=List.length (Row.cells (Row.vals (List.flatMap rowV rs)))/\cap*2<=tot/\n<=cap/\req ((n+(toN none l'-1))*32<=140737488355328) (∀ (cap' tot':Nat),n+(toN none l'-1)<=cap'->cap'*2<=tot'->Ct (CI s b l c rc) 8 Try.f43 [1,1] 11 KK { fr:=some (SV.raw (Value.func (Fn.yield rc.l) #[] #[]))::oc 3 0::oc 4 0::oc 5 0::oc 2 0::oc 1 0::oc 11 0::none::none::none::oI 1::oc 3 1::oL b1 4224 4224::some (SV.rp (VS b1 4224 4224) 14)::some (SV.raw (U8 n_1))::oB (n_1 !=(255:Int))::oB true::some (SV.raw (Value.func (Fn.yield rc.l) #[] #[]))::oI 4224::oI 4238::os 13 0 1 1::some (SV.clo 66 [] [SV.loc 14 0,SV.loc 15 0])::oB true::oB false::oB false::no32 (no2 []),bx:=[(⟨24,.lst [I s,L b l c],2,true⟩:Box),⟨3,.lst [I v],1,true⟩,⟨22,.lst [L pb pl pc],1,true⟩,⟨56,.lst [L b0 4224 4224,L b1 4224 4224],2,true⟩,⟨3,.lst [I 1],1,true⟩,⟨3,.lst [I 4224],1,true⟩,⟨24,.lst [I s,L b l c],2,true⟩,⟨33,.lst [L none 0 0],1,true⟩,⟨26,.lst [I 0],1,true⟩,⟨24,.lst [],0,false⟩,⟨33,.lst [SV.slc 17 0 (n+(toN none l'-1)) cap'],1,true⟩,⟨68,.lst [SV.raw (Value.func (Fn.yield rc.l) #[] #[])],1,true⟩,⟨24,.lst [],0,false⟩,⟨5,.lst [SV.raw (U8 0)],1,false⟩,⟨3,.lst [I 4238],1,true⟩,⟨22,.lst [L (Option.map (fun (x:Addr)=>Addr.add x 0) base_1) 1 1],1,true⟩,⟨24,.lst [I n_2,L base len cap_1],2,true⟩,⟨24,.vals (List.take (n*2) (List.flatMap rowV rs)++List.take ((toN none l'-1)*2) cs),tot',true⟩],E:=E':St }))))) else Sx.Alike (AlikeT.n AlikeT.l al2) (Ct (CI s b l c rc) 8 Try.f43 [1,1] 11 KK { fr:=some (SV.raw (Value.func (Fn.yield rc.l) #[] #[]))::oc 3 0::oc 4 0::oc 5 0::oc 2 0::oc 1 0::oc 11 0::none::none::none::oI 1::oc 3 1::oL b1 4224 4224::some (SV.rp (VS b1 4224 4224) 14)::some (SV.raw (U8 n_1))::oB (n_1 !=(255:Int))::oB false::oU::oU::oU::oU::oU::oU::oU::oB false::no32 (no2 []),bx:=[(⟨24,.lst [I s,L b l c],2,true⟩:Box),⟨3,.lst [I v],1,true⟩,⟨22,.lst [L pb pl pc],1,true⟩,⟨56,.lst [L b0 4224 4224,L b1 4224 4224],2,true⟩,⟨3,.lst [I 1],1,true⟩,⟨3,.lst [I 4224],1,true⟩,⟨24,.lst [I s,L b l c],2,true⟩,⟨33,.lst [L none 0 0],1,true⟩,⟨26,.lst [I 0],1,true⟩,⟨24,.lst [],0,false⟩,⟨33,.lst [SV.slc 12 0 n cap],1,true⟩,⟨68,.lst [SV.raw (Value.func (Fn.yield rc.l) #[] #[])],1,true⟩,⟨24,.vals (List.flatMap rowV rs),tot,true⟩],E:=E:St }))
 delta WI NI U8 VS no2 no32
 have hb:=H.h1
 have hg:(bankF z 1).getD 14 0=z.getD (4224+14) 0:=bank_at (k:=1) (by decide)
 refine ⟨hb.ne (i:=14) (by decide),(bankF z 1).getD 14 0,hb.load rfl (i:=14) (by decide),condC (fun g=>?_) (fun g=>?_)⟩
 ·have g:z.getD (4224+14) 0≠255:=by rw [hg] at g;simpa using g
  rw [if_pos g] at h
  obtain ⟨q1,b2,c2,q2,q3⟩:=X.load (by omega)
  refine alike ⟨rfl,req_intro q1 ⟨128,b2,8448,c2,q2,fun bw Ew kw ww=>⟨_,[0],q3.mono kw,Bs.win (zs:=[0]) ww rfl rfl (Nat.le_refl _) (by decide),validB,by decide,by decide,fun b3 l3 c3 m3 E3 k3 r3 F3=>?_⟩⟩⟩
  have r3:progF 128 (lastM ms).2 ((4224+14:Nat):Int) [0]=(m3,0):=r3
  obtain ⟨p1,p2,p3,p4⟩:=prog_li X.l1 X.l2 (by simp) r3
  refine X.app (mt_ kw k3) F3 p1 (by show N+1<=_;omega) p2 p3 p4 fun base' E' cs cap' tot' rs' e1 e2 e3=>?_
  rw [e1]
  exact Ct_re [some 0,some 1,some 2,some 3,some 4,some 5,some 6,some 7,some 8,some 9,some 10,some 11,some 17] (h E' _ cap' tot' rs' (mt_ kw (mt_ k3 e2)) e3) (wkG mr_ (h6:=(by repeat' first|exact True.intro|exact rfl|exact Or.inl rfl|exact (by decide:9<18)|refine And.intro ?_ ?_)))
 ·have g:z.getD (4224+14) 0=255:=by rw [hg] at g;simpa using g
  rw [if_neg (fun q=>q g)] at h
  refine alike ?_
  exact Ct_re [some 0,some 1,some 2,some 3,some 4,some 5,some 6,some 7,some 8,some 9,some 10,some 11,some 12] (h E n cap tot rs mr_ ⟨X.R,X.hn,X.hc,⟨X.hb.1,Nat.le_succ_of_le X.hb.2⟩,X.l1,X.l2⟩) (wkG mr_ (h6:=(by repeat' first|exact True.intro|exact rfl|exact Or.inl rfl|exact (by decide:9<13)|refine And.intro ?_ ?_)))
noncomputable def GC:Cx:={ P:=Try.prog,inl:=fun f=>List.contains [] f,tab:=fun _ _ _ _=>False,isB:=fun f=>f==68,tabB:=tab68,opt:={ unroll:=0,carry:=[10] },muts:=(fun o=>match o with | .call _=>true|o=>mutsD o) }
theorem okGC:CxOK GC:=CxOK.four (fun _ _ _ _ h=>h.elim) (by kernel_rfl) (okInl (by kernel_rfl)) tab68_ok
abbrev fr43 (rc:Rc) (K:Int) (k:Nat) (bb:Option Addr):List (Option SV):=[some (.raw (.func (.yield rc.l) #[] #[])),oc 3 0,oc 4 0,oc 5 0,oc 2 0,oc 1 0,oc 11 0]++List.replicate 18 none++[oI K,oI K,oc 3 k,oL bb 4224 4224,some (.clo 67 [] [.loc 13 0,.loc 14 0])]++List.replicate 29 none
noncomputable def CC (s:Int) (b:Option Addr) (l c:Nat) (rc:Rc) (K:Int) (k:Nat) (bb:Option Addr) (rd:Rc):Cx:=YCx GC (CI s b l c rc) 8 (fr43 rc K k bb) (sub (bodyOf Try.f43) [1,1,0,1,0]) rd
abbrev KC (s:Int) (b:Option Addr) (l c:Nat) (rc:Rc) (K:Int) (k:Nat) (bb:Option Addr) (KK:KT):KT:=fun _ bx E=>Cn (CI s b l c rc) 8 Try.f43 [1,1,0,1,0] 11 KK { fr:=fr43 rc K k bb,bx:=bx,E:=E }
theorem sec_eq {z:List Int} {k i:Nat} (h:i<33):((bankF z k).drop (128*i)).take 128=(z.drop (4224*k+128*i)).take 128:=by
 unfold bankF
 rw [List.drop_take,List.take_take,List.drop_drop,Nat.min_eq_left (by omega)]
theorem Bs.cutc {E E':Mem} {b b':Option Addr} {l c lo hi:Nat} {zs:List Int} (h:Bs E b l c zs)
  (hF:∀ cs,E (.slice b l c) cs->E' (.slice b' (hi-lo) (c-lo)) (List.take ((hi-lo)*1) (List.drop (lo*1) cs))) (hN:b'.isNone=b.isNone) (h1:lo<=hi) (h2:hi<=l):Bs E' b' (hi-lo) (c-lo) ((zs.drop lo).take (hi-lo)):=by
 have hlen:=h.2.1
 have hc:=h.2.2.1
 refine ⟨?_,by rw [List.length_take,List.length_drop,hlen];omega,by omega,fun z hz=>h.2.2.2.1 z (List.drop_subset _ _ (List.take_subset _ _ hz)),fun e=>?_⟩
 ·rcases h.1 with q|q
  ·exact .inl (by rw [q];simp)
  ·refine .inr ?_
   have:=hF _ q
   rw [Nat.mul_one,Nat.mul_one,← List.map_drop,← List.map_take] at this
   exact this
 ·have :zs=[]:=h.2.2.2.2 (by cases b with |none=>rfl|some x=>rw [e] at hN;cases hN)
  rw [this];simp
def shC_0 (s v:Int) (b b0 b1 pb:Option Addr) (l c pl pc:Nat) (rc rd:Rc) (i:Nat) (n cap tot:Nat) (rs:List FRow) (E:Mem):St:=⟨[some (.raw (.func (.yield rd.l) #[] #[])),oc 13 0,oc 14 0,none,oc 15 0,none,none,none,none,none,oI (i:Nat)]++List.replicate 17 none,[⟨24,.lst [I s,L b l c],2,true⟩,⟨3,.lst [I v],1,true⟩,⟨22,.lst [L pb pl pc],1,true⟩,⟨56,.lst [L b0 4224 4224,L b1 4224 4224],2,true⟩,⟨3,.lst [I 0],1,true⟩,⟨3,.lst [I 0],1,true⟩,⟨24,.lst [I s,L b l c],2,true⟩,⟨33,.lst [L none 0 0],1,true⟩,⟨26,.lst [I 0],1,true⟩,⟨24,.lst [],0,false⟩,⟨33,.lst [.slc 16 0 n cap],1,true⟩,⟨68,.lst [.raw (.func (.yield rc.l) #[] #[])],1,true⟩,⟨24,.lst [],0,false⟩,⟨3,.lst [I 0],1,true⟩,⟨55,.lst [L b0 4224 4224],1,true⟩,⟨3,.lst [I 0],1,true⟩,⟨24,.vals (rs.flatMap rowV),tot,true⟩],E⟩
theorem cn_0 {s v:Int} {b b0 b1 pb:Option Addr} {l c pl pc:Nat} {rc:Rc} {n cap tot:Nat} {rs:List FRow} {KK:KT} (h:Ct (CI s b l c rc) 8 Try.f43 [1,1,1] 11 KK (shA_0 s v b b0 b1 pb l c pl pc rc n cap tot rs E)):Pn (CI s b l c rc) 8 Try.f43 [1,1,0,1,0] 11 KK ⟨fr43 rc 0 0 b0,[⟨24,.lst [I s,L b l c],2,true⟩,⟨3,.lst [I v],1,true⟩,⟨22,.lst [L pb pl pc],1,true⟩,⟨56,.lst [L b0 4224 4224,L b1 4224 4224],2,true⟩,⟨3,.lst [I 0],1,true⟩,⟨3,.lst [I 0],1,true⟩,⟨24,.lst [I s,L b l c],2,true⟩,⟨33,.lst [L none 0 0],1,true⟩,⟨26,.lst [I 0],1,true⟩,⟨24,.lst [],0,false⟩,⟨33,.lst [.slc 16 0 n cap],1,true⟩,⟨68,.lst [.raw (.func (.yield rc.l) #[] #[])],1,true⟩,⟨24,.lst [],0,false⟩,⟨3,.lst [I 0],1,true⟩,⟨55,.lst [L b0 4224 4224],1,true⟩,⟨3,.lst [I 0],1,true⟩,⟨24,.vals (rs.flatMap rowV),tot,true⟩],E⟩:=by
 refine sm_ (?_:Ct (CI s b l c rc) 8 Try.f43 [1,1,1] 11 KK { fr:=some (SV.raw (Value.func (Fn.yield rc.l) #[] #[]))::oc 3 0::oc 4 0::oc 5 0::oc 2 0::oc 1 0::oc 11 0::no16 (no2 (oI 0::oI 0::oc 3 0::oL b0 4224 4224::some (SV.clo 67 [] [SV.loc 13 0,SV.loc 14 0])::no16 (no8 (no4 (none::[]))))),bx:=[(⟨24,.lst [I s,L b l c],2,true⟩:Box),⟨3,.lst [I v],1,true⟩,⟨22,.lst [L pb pl pc],1,true⟩,⟨56,.lst [L b0 4224 4224,L b1 4224 4224],2,true⟩,⟨3,.lst [I 0],1,true⟩,⟨3,.lst [I 0],1,true⟩,⟨24,.lst [I s,L b l c],2,true⟩,⟨33,.lst [L none 0 0],1,true⟩,⟨26,.lst [I 0],1,true⟩,⟨24,.lst [],0,false⟩,⟨33,.lst [SV.slc 16 0 n cap],1,true⟩,⟨68,.lst [SV.raw (Value.func (Fn.yield rc.l) #[] #[])],1,true⟩,⟨24,.lst [],0,false⟩,⟨3,.lst [I 0],1,true⟩,⟨55,.lst [L b0 4224 4224],1,true⟩,⟨3,.lst [I 0],1,true⟩,⟨24,.vals (List.flatMap rowV rs),tot,true⟩],E:=E:St })
 delta no2 no4 no8 no16
 exact Ct_re [some 0,some 1,some 2,some 3,some 4,some 5,some 6,some 7,some 8,some 9,some 10,some 11,some 16] h (wkG mr_ (h6:=(by repeat' first|exact True.intro|exact rfl|exact Or.inl rfl|exact (by decide:9<17)|refine And.intro ?_ ?_)))
theorem r67_0 {s v:Int} {b b0 b1 pb:Option Addr} {l c pl pc:Nat} {z p:List Int} {rc rd:Rc} {i:Nat} {n cap tot N:Nat} {rs:List FRow} {ms:List (Int×List Int)} {KK:KT} (H:HI E s v b b0 b1 pb l c pl pc z p) (X:LI E rs (cleanL z 0 ms i) n cap tot (N+128*i)) (hN:N<=50000) (hi:i<=33)
  (h:i=33->Ct (CI s b l c rc) 8 Try.f43 [1,1,1] 11 KK (shA_0 s v b b0 b1 pb l c pl pc rc n cap tot rs E))
  (ih:∀ (E':Mem) (n' cap' tot':Nat) (rs':List FRow),i<33->Mem.le E E'->LI E' rs' (cleanL z 0 ms (i+1)) n' cap' tot' (N+128*(i+1))->Lp (CC s b l c rc 0 0 b0 rd) 8 Try.f67 [1,1,0] 15 (KC s b l c rc 0 0 b0 KK) (shC_0 s v b b0 b1 pb l c pl pc rc rd (i+1) n' cap' tot' rs' E')):
  Rnd (CC s b l c rc 0 0 b0 rd) 8 Try.f67 [1,1,0] 15 (KC s b l c rc 0 0 b0 KK) (shC_0 s v b b0 b1 pb l c pl pc rc rd i n cap tot rs E):=by
 refine sm_ (?_:bif decide ((NI i)<33) then req ((0:Int)<=WI (WI ((NI i)+1)*(128:Int))/\WI (WI ((NI i)+1)*(128:Int))<=(4224:Int)) (req ((0:Int)<=WI ((NI i)*128)/\WI ((NI i)*128)<=(NI (toN (some (WI (WI ((NI i)+1)*(128:Int)))) 4224))) (∀ (base':Option Addr) (E':Mem),Mem.le E E'->(∀ (cs:List Value),E (VS b0 4224 4224) cs->E' (VS base' (toN (some (WI (WI ((NI i)+1)*(128:Int)))) 4224-toN (some (WI ((NI i)*128))) 0) (4224-toN (some (WI ((NI i)*128))) 0)) (List.take ((toN (some (WI (WI ((NI i)+1)*(128:Int)))) 4224-toN (some (WI ((NI i)*128))) 0)*1) (List.drop (toN (some (WI ((NI i)*128))) 0*1) cs)))->Option.isNone base'=Option.isNone b0->68=68/\∃ (b_1:Option Addr),∃ (l_1:Nat),∃ (c_1:Nat),∃ (zs:List Int),[L base' (toN (some (WI (WI ((NI i)+1)*(128:Int)))) 4224-toN (some (WI ((NI i)*128))) 0) (4224-toN (some (WI ((NI i)*128))) 0),SV.clo 69 [] []]=[L b_1 l_1 c_1,SV.clo 69 [] []]/\Bs E' b_1 l_1 c_1 zs/\l_1<=100000/\bif !List.any zs fun (x:Int)=>decide (x≠(255:Int)) then Lp (CC s b l c rc 0 0 b0 rd) 8 Try.f67 [1,1,0] 15 (KC s b l c rc 0 0 b0 KK) { fr:=some (SV.raw (Value.func (Fn.yield rd.l) #[] #[]))::oc 13 0::oc 14 0::none::oc 15 0::none::none::none::none::none::oI (WI ((NI i)+1))::no16 (none::[]),bx:=[(⟨24,.lst [I s,L b l c],2,true⟩:Box),⟨3,.lst [I v],1,true⟩,⟨22,.lst [L pb pl pc],1,true⟩,⟨56,.lst [L b0 4224 4224,L b1 4224 4224],2,true⟩,⟨3,.lst [I 0],1,true⟩,⟨3,.lst [I 0],1,true⟩,⟨24,.lst [I s,L b l c],2,true⟩,⟨33,.lst [L none 0 0],1,true⟩,⟨26,.lst [I 0],1,true⟩,⟨24,.lst [],0,false⟩,⟨33,.lst [SV.slc 16 0 n cap],1,true⟩,⟨68,.lst [SV.raw (Value.func (Fn.yield rc.l) #[] #[])],1,true⟩,⟨24,.lst [],0,false⟩,⟨3,.lst [I 0],1,true⟩,⟨55,.lst [L b0 4224 4224],1,true⟩,⟨3,.lst [I 0],1,true⟩,⟨24,.vals (List.flatMap rowV rs),tot,true⟩,⟨3,.lst [I (NI i)],1,true⟩],E:=E':St } else rd.l=rd.l/\rc.l=rc.l/\req ((0:Int)<=WI ((NI n)-1)/\WI ((NI n)-1)<(NI n)) (∃ (n_1:Int),∃ (base:Option Addr),∃ (len:Nat),∃ (cap_1:Nat),LoadV CH.P 24 (List.flatMap rowV rs) (0+Int.toNat (WI ((NI n)-1))*2) (SV.agg [I n_1,L base len cap_1])/\∃ (zs:List Int),Bs E' base len cap_1 zs/\validF n_1 len/\(0:Int)<=WI ((0:Int)+(NI i))/\WI ((0:Int)+(NI i))<(NI len) / n_1/\∀ (b':Option Addr) (l' c':Nat) (ms:List (Int×List Int)) (E'_1:Mem),Mem.le E' E'_1->Hyp (erasF n_1 zs (WI ((0:Int)+(NI i)))=(ms,(0:Int)))->FL E'_1 b' l' c' ms->Mem.le E' E'_1/\req (l'<=c') (req ((0:Int)<=(1:Int)/\1<=(NI (toN none l'))) (∀ (base':Option Addr) (E':Mem),Mem.le E'_1 E'->(∀ (cs:List Value),E'_1 (VS b' l' c') cs->E' (VS base' (toN none l'-1) (toN none c'-1)) (List.take ((toN none l'-1)*2) (List.drop 2 cs)))->Option.isNone base'=Option.isNone b'->∃ (cs:List Value),(cs=[]\/E' (VS base' (toN none l'-1) (toN none c'-1)) cs)/\(toN none l'-1)*2<=List.length cs/\(∀ (x:Value),List.Mem x cs->Value.oneCell' x=true)/\n*2<=List.length (Row.cells (Row.vals (List.flatMap rowV rs)))/\cap*2<=tot/\n<=cap/\req ((n+(toN none l'-1))*32<=(140737488355328:Nat)) (∀ (cap' tot':Nat),n+(toN none l'-1)<=cap'->cap'*2<=tot'->Lp (CC s b l c rc 0 0 b0 rd) 8 Try.f67 [1,1,0] 15 (KC s b l c rc 0 0 b0 KK) { fr:=some (SV.raw (Value.func (Fn.yield rd.l) #[] #[]))::oc 13 0::oc 14 0::none::oc 15 0::none::none::none::none::none::oI (WI ((NI i)+1))::no16 (none::[]),bx:=[(⟨(24:Nat),Row.lst [I s,L b l c],(2:Nat),true⟩:Box),⟨(3:Nat),Row.lst [I v],(1:Nat),true⟩,⟨(22:Nat),Row.lst [L pb pl pc],(1:Nat),true⟩,⟨(56:Nat),Row.lst [L b0 4224 4224,L b1 4224 4224],(2:Nat),true⟩,⟨(3:Nat),Row.lst [I 0],(1:Nat),true⟩,⟨(3:Nat),Row.lst [I 0],(1:Nat),true⟩,⟨(24:Nat),Row.lst [I s,L b l c],(2:Nat),true⟩,⟨(33:Nat),Row.lst [L none 0 0],(1:Nat),true⟩,⟨(26:Nat),Row.lst [I 0],(1:Nat),true⟩,⟨(24:Nat),Row.lst [],(0:Nat),false⟩,⟨(33:Nat),Row.lst [SV.slc 19 0 (n+(toN none l'-(1:Nat))) cap'],(1:Nat),true⟩,⟨(68:Nat),Row.lst [SV.raw (Value.func (Fn.yield rc.l) #[] #[])],(1:Nat),true⟩,⟨(24:Nat),Row.lst [],(0:Nat),false⟩,⟨(3:Nat),Row.lst [I 0],(1:Nat),true⟩,⟨(55:Nat),Row.lst [L b0 4224 4224],(1:Nat),true⟩,⟨(3:Nat),Row.lst [I 0],(1:Nat),true⟩,⟨(24:Nat),Row.lst [],(0:Nat),false⟩,⟨(3:Nat),Row.lst [I (NI i)],(1:Nat),true⟩,⟨(24:Nat),Row.lst [I n_1,L base len cap_1],(2:Nat),true⟩,⟨(24:Nat),Row.vals (List.take (n*(2:Nat)) (List.flatMap rowV rs)++List.take ((toN none l'-(1:Nat))*(2:Nat)) cs),tot',true⟩],E:=E':St })))))) else Cn (CI s b l c rc) 8 Try.f43 [1,1,0,1,0] 11 KK { fr:=some (SV.raw (Value.func (Fn.yield rc.l) #[] #[]))::oc 3 0::oc 4 0::oc 5 0::oc 2 0::oc 1 0::oc 11 0::no16 (no2 (oI 0::oI 0::oc 3 0::oL b0 4224 4224::some (SV.clo 67 [] [SV.loc 13 0,SV.loc 14 0])::no16 (no8 (no4 (none::[]))))),bx:=[(⟨24,.lst [I s,L b l c],2,true⟩:Box),⟨3,.lst [I v],1,true⟩,⟨22,.lst [L pb pl pc],1,true⟩,⟨56,.lst [L b0 4224 4224,L b1 4224 4224],2,true⟩,⟨3,.lst [I 0],1,true⟩,⟨3,.lst [I 0],1,true⟩,⟨24,.lst [I s,L b l c],2,true⟩,⟨33,.lst [L none 0 0],1,true⟩,⟨26,.lst [I 0],1,true⟩,⟨24,.lst [],0,false⟩,⟨33,.lst [SV.slc 16 0 n cap],1,true⟩,⟨68,.lst [SV.raw (Value.func (Fn.yield rc.l) #[] #[])],1,true⟩,⟨24,.lst [],0,false⟩,⟨3,.lst [I 0],1,true⟩,⟨55,.lst [L b0 4224 4224],1,true⟩,⟨3,.lst [I 0],1,true⟩,⟨24,.vals (List.flatMap rowV rs),tot,true⟩],E:=E:St })
 delta WI NI VS no2 no4 no8 no16
 refine condC (fun g=>?_) (fun g=>?_)
 ·have g:i<33:=by simp at g;omega
  have w1:IntKind.wrap .i64 ((i:Int)*128)=((128*i:Nat):Int):=by rw [wrap_i64 (by omega)];omega
  have w2:IntKind.wrap .i64 (IntKind.wrap .i64 ((i:Int)+1)*128)=((128*i+128:Nat):Int):=by rw [wrap_i64 (x:=(i:Int)+1) (by omega),wrap_i64 (by omega)];omega
  have w3:IntKind.wrap .i64 ((0:Int)+(i:Int))=((33*0+i:Nat):Int):=by rw [wrap_i64 (by omega)];omega
  have w4:IntKind.wrap .i64 ((i:Int)+1)=((i+1:Nat):Int):=by rw [wrap_i64 (by omega)];omega
  have t1:toN (some ((128*i+128:Nat):Int)) 4224=128*i+128:=Int.toNat_natCast _
  have t2:toN (some ((128*i:Nat):Int)) 0=128*i:=Int.toNat_natCast _
  rw [w1,w2,w3,w4,t1,t2]
  refine req_intro (by omega) (req_intro (by omega) fun b2 E2 k2 f2 n2=>?_)
  have eu:((bankF z 0).drop (128*i)).take 128=(z.drop (4224*0+128*i)).take 128:=sec_eq g
  have HB:Bs E2 b2 (128*i+128-128*i) (4224-128*i) ((bankF z 0).drop (128*i)|>.take 128):=by
   have:=Bs.cutc (lo:=128*i) (hi:=128*i+128) H.h0 f2 n2 (by omega) (by omega)
   rwa [show 128*i+128-128*i=128 by omega] at this ⊢
  refine ⟨rfl,b2,_,_,_,rfl,HB,by omega,?_⟩
  rw [eu,show ((z.drop (4224*0+128*i)).take 128).any (fun x=>decide (x≠255))=usedS z 0 i from rfl]
  have X2:=X.mono k2
  refine condC (fun u=>?_) (fun u=>?_)
  ·have u:¬ usedS z 0 i=true:=by simpa using u
   have ce:cleanL z 0 ms (i+1)=cleanL z 0 ms i:=by rw [cleanL,if_neg u]
   exact Lp_re [some 0,some 1,some 2,some 3,some 4,some 5,some 6,some 7,some 8,some 9,some 10,some 11,some 12,some 13,some 14,some 15,some 16] (ih E2 n cap tot rs g k2 (by rw [ce];exact ⟨X2.R,X2.hn,X2.hc,⟨X2.hb.1,by have:=X2.hb.2;omega⟩,X2.l1,X2.l2⟩)) (wkG mr_ (h6:=(by repeat' first|exact True.intro|exact rfl|exact Or.inl rfl|exact (by decide:9<18)|exact (by decide:12<18)|refine And.intro ?_ ?_)))
  ·have u:usedS z 0 i=true:=by simpa using u
   have ce:cleanL z 0 ms (i+1)=erasL (cleanL z 0 ms i) (33*0+i):=by rw [cleanL,if_pos u]
   obtain ⟨q1,b3,c3,q2,q3⟩:=X2.load (by omega)
   refine ⟨rfl,rfl,req_intro q1 ⟨128,b3,8448,c3,q2,_,q3,validB,by omega,by omega,fun b4 l4 c4 m4 E4 k4 r4 F4=>⟨k4,?_⟩⟩⟩
   have r4:erasF 128 (lastM (cleanL z 0 ms i)).2 ((33*0+i:Nat):Int)=(m4,0):=r4
   obtain ⟨p1,p2,p3,p4⟩:=eras_li X2.l1 X2.l2 (by omega) r4
   refine X2.app k4 F4 p1 (by omega) p2 p3 p4 fun base' E' cs cap' tot' rs' e1 e2 e3=>?_
   rw [e1]
   exact Lp_re [some 0,some 1,some 2,some 3,some 4,some 5,some 6,some 7,some 8,some 9,some 10,some 11,some 12,some 13,some 14,some 15,some 19] (ih E' _ cap' tot' rs' g (mt_ k2 (mt_ k4 e2)) (by rw [ce];exact ⟨e3.R,e3.hn,e3.hc,⟨e3.hb.1,by have:=e3.hb.2;omega⟩,e3.l1,e3.l2⟩)) (wkG mr_ (h6:=(by repeat' first|exact True.intro|exact rfl|exact Or.inl rfl|exact (by decide:9<20)|exact (by decide:12<20)|refine And.intro ?_ ?_)))
 ·have g:i=33:=by simp at g;omega
  exact Cn_intro (cn_0 (h g))
theorem lp67_0 {s v:Int} {b b0 b1 pb:Option Addr} {l c pl pc:Nat} {z p:List Int} {rc rd:Rc} {i:Nat} {n cap tot N:Nat} {rs:List FRow} {E0:Mem} {ms:List (Int×List Int)} {KK:KT} (hC:CxOK (CC s b l c rc 0 0 b0 rd)) (H:HI E0 s v b b0 b1 pb l c pl pc z p) (hE:Mem.le E0 E) (X:LI E rs (cleanL z 0 ms i) n cap tot (N+128*i)) (hN:N<=40000) (hi:i<=33)
  (h:∀ (E':Mem) (n' cap' tot':Nat) (rs':List FRow),Mem.le E0 E'->LI E' rs' (cleanL z 0 ms 33) n' cap' tot' (N+128*33)->Ct (CI s b l c rc) 8 Try.f43 [1,1,1] 11 KK (shA_0 s v b b0 b1 pb l c pl pc rc n' cap' tot' rs' E')):
  Lp (CC s b l c rc 0 0 b0 rd) 8 Try.f67 [1,1,0] 15 (KC s b l c rc 0 0 b0 KK) (shC_0 s v b b0 b1 pb l c pl pc rc rd i n cap tot rs E):=
 Lp_ind hC (fun x:{x:Mem×Nat×Nat×Nat×Nat×List FRow//Mem.le E0 x.1/\x.2.1<=33/\LI x.1 x.2.2.2.2.2 (cleanL z 0 ms x.2.1) x.2.2.1 x.2.2.2.1 x.2.2.2.2.1 (N+128*x.2.1)}=>shC_0 s v b b0 b1 pb l c pl pc rc rd x.1.2.1 x.1.2.2.1 x.1.2.2.2.1 x.1.2.2.2.2.1 x.1.2.2.2.2.2 x.1.1) (fun x=>33-x.1.2.1)
  (fun x ih=>r67_0 (H.mono x.2.1) x.2.2.2 (by have:=x.2.2.1;omega) x.2.2.1 (fun e=>h _ _ _ _ _ x.2.1 (by have:=x.2.2.2;rw [e] at this;exact this)) fun E' n' cap' tot' rs' hlt hle X'=>ih ⟨⟨E',x.1.2.1+1,n',cap',tot',rs'⟩,mt_ x.2.1 hle,hlt,X'⟩ (by show 33-(_+1)<33-_;omega)) ⟨⟨E,i,n,cap,tot,rs⟩,hE,hi,X⟩
theorem e67_0 {s v:Int} {b b0 b1 pb:Option Addr} {l c pl pc:Nat} {z p:List Int} {rc rd:Rc} {n cap tot N:Nat} {rs:List FRow} {ms:List (Int×List Int)} {KK:KT} (hC:CxOK (CC s b l c rc 0 0 b0 rd)) (H:HI E s v b b0 b1 pb l c pl pc z p) (X:LI E rs ms n cap tot N) (hN:N<=40000)
  (h:∀ (E':Mem) (n' cap' tot':Nat) (rs':List FRow),Mem.le E E'->LI E' rs' (cleanL z 0 ms 33) n' cap' tot' (N+128*33)->Ct (CI s b l c rc) 8 Try.f43 [1,1,1] 11 KK (shA_0 s v b b0 b1 pb l c pl pc rc n' cap' tot' rs' E')):
  EntB (CC s b l c rc 0 0 b0 rd) 8 Try.f67 [.raw (.func (.yield rd.l) #[] #[]),.loc 13 0,.loc 14 0] [⟨24,.lst [I s,L b l c],2,true⟩,⟨3,.lst [I v],1,true⟩,⟨22,.lst [L pb pl pc],1,true⟩,⟨56,.lst [L b0 4224 4224,L b1 4224 4224],2,true⟩,⟨3,.lst [I 0],1,true⟩,⟨3,.lst [I 0],1,true⟩,⟨24,.lst [I s,L b l c],2,true⟩,⟨33,.lst [L none 0 0],1,true⟩,⟨26,.lst [I 0],1,true⟩,⟨24,.lst [],0,false⟩,⟨33,.lst [.slc 12 0 n cap],1,true⟩,⟨68,.lst [.raw (.func (.yield rc.l) #[] #[])],1,true⟩,⟨24,.vals (rs.flatMap rowV),tot,true⟩,⟨3,.lst [I 0],1,true⟩,⟨55,.lst [L b0 4224 4224],1,true⟩] E (KC s b l c rc 0 0 b0 KK):=by
 refine sm_ (?_:((128:Int)=(0:Int)->False)/\Lp (CC s b l c rc 0 0 b0 rd) 8 Try.f67 [1,1,0] 15 (KC s b l c rc 0 0 b0 KK) { fr:=some (SV.raw (Value.func (Fn.yield rd.l) #[] #[]))::oc 13 0::oc 14 0::none::oc 15 0::none::none::oI 0::oI 0::oI 0::oI 0::no16 (none::[]),bx:=[(⟨24,.lst [I s,L b l c],2,true⟩:Box),⟨3,.lst [I v],1,true⟩,⟨22,.lst [L pb pl pc],1,true⟩,⟨56,.lst [L b0 4224 4224,L b1 4224 4224],2,true⟩,⟨3,.lst [I 0],1,true⟩,⟨3,.lst [I 0],1,true⟩,⟨24,.lst [I s,L b l c],2,true⟩,⟨33,.lst [L none 0 0],1,true⟩,⟨26,.lst [I 0],1,true⟩,⟨24,.lst [],0,false⟩,⟨33,.lst [SV.slc 12 0 n cap],1,true⟩,⟨68,.lst [SV.raw (Value.func (Fn.yield rc.l) #[] #[])],1,true⟩,⟨24,.vals (List.flatMap rowV rs),tot,true⟩,⟨3,.lst [I 0],1,true⟩,⟨55,.lst [L b0 4224 4224],1,true⟩,⟨3,.lst [I 0],1,true⟩],E:=E:St })
 delta no16
 refine ⟨by decide,?_⟩
 exact Lp_re [some 0,some 1,some 2,some 3,some 4,some 5,some 6,some 7,some 8,some 9,some 10,some 11,some 12,some 13,some 14,some 15,some 12] (lp67_0 (i:=0) hC H mr_ X hN (Nat.zero_le _) h) (wkG mr_ (h6:=(by repeat' first|exact True.intro|exact rfl|exact Or.inl rfl|exact (by decide:9<16)|exact (by decide:12<16)|refine And.intro ?_ ?_)))
theorem y2_0 {s v:Int} {b b0 b1 pb:Option Addr} {l c pl pc:Nat} {z p:List Int} {rc:Rc} {n cap tot N:Nat} {rs:List FRow} {ms:List (Int×List Int)} {KK:KT} (hC:CxOK (CI s b l c rc)) (hup:rc.up=none) (H:HI E s v b b0 b1 pb l c pl pc z p) (X:LI E rs ms n cap tot N) (hN:N<=40000)
  (h:∀ (E':Mem) (n' cap' tot':Nat) (rs':List FRow),Mem.le E E'->LI E' rs' (cleanL z 0 ms 33) n' cap' tot' (N+128*33)->Ct (CI s b l c rc) 8 Try.f43 [1,1,1] 11 KK (shA_0 s v b b0 b1 pb l c pl pc rc n' cap' tot' rs' E')):
  Pc (CI s b l c rc) 8 Try.f43 [1,1] 11 KK (shA_0 s v b b0 b1 pb l c pl pc rc n cap tot rs E):=by
 refine sm_ (?_:Mem.le E E/\Ct (CI s b l c rc) 8 Try.f43 [1,1,0,1,0] 11 KK { fr:=some (SV.raw (Value.func (Fn.yield rc.l) #[] #[]))::oc 3 0::oc 4 0::oc 5 0::oc 2 0::oc 1 0::oc 11 0::no16 (no2 (oI 0::oI 0::oc 3 0::oL b0 4224 4224::some (SV.clo 67 [] [SV.loc 13 0,SV.loc 14 0])::no16 (no8 (no4 (none::[]))))),bx:=[(⟨24,.lst [I s,L b l c],2,true⟩:Box),⟨3,.lst [I v],1,true⟩,⟨22,.lst [L pb pl pc],1,true⟩,⟨56,.lst [L b0 4224 4224,L b1 4224 4224],2,true⟩,⟨3,.lst [I 0],1,true⟩,⟨3,.lst [I 0],1,true⟩,⟨24,.lst [I s,L b l c],2,true⟩,⟨33,.lst [L none 0 0],1,true⟩,⟨26,.lst [I 0],1,true⟩,⟨24,.lst [],0,false⟩,⟨33,.lst [SV.slc 12 0 n cap],1,true⟩,⟨68,.lst [SV.raw (Value.func (Fn.yield rc.l) #[] #[])],1,true⟩,⟨24,.vals (List.flatMap rowV rs),tot,true⟩,⟨3,.lst [I 0],1,true⟩,⟨55,.lst [L b0 4224 4224],1,true⟩],E:=E:St })
 delta no2 no4 no8 no16
 refine ⟨mr_,?_⟩
 exact RfN hC okGC (by kernel_rfl) (by kernel_rfl) Try.func67 ⟨by kernel_rfl,by kernel_rfl⟩ (gf:=67) (gfn:=Try.f67) (first:=[]) (caps:=[.loc 13 0,.loc 14 0]) (m:=8) (fun rd hrd _=>e67_0 hrd H X hN h) (fun c0 e=>by cases e;exact hup) rfl
def shC_1 (s v:Int) (b b0 b1 pb:Option Addr) (l c pl pc:Nat) (rc rd:Rc) (i:Nat) (n cap tot:Nat) (rs:List FRow) (E:Mem):St:=⟨[some (.raw (.func (.yield rd.l) #[] #[])),oc 13 0,oc 14 0,none,oc 15 0,none,none,none,none,none,oI (i:Nat)]++List.replicate 17 none,[⟨24,.lst [I s,L b l c],2,true⟩,⟨3,.lst [I v],1,true⟩,⟨22,.lst [L pb pl pc],1,true⟩,⟨56,.lst [L b0 4224 4224,L b1 4224 4224],2,true⟩,⟨3,.lst [I 1],1,true⟩,⟨3,.lst [I 4224],1,true⟩,⟨24,.lst [I s,L b l c],2,true⟩,⟨33,.lst [L none 0 0],1,true⟩,⟨26,.lst [I 0],1,true⟩,⟨24,.lst [],0,false⟩,⟨33,.lst [.slc 16 0 n cap],1,true⟩,⟨68,.lst [.raw (.func (.yield rc.l) #[] #[])],1,true⟩,⟨24,.lst [],0,false⟩,⟨3,.lst [I 1],1,true⟩,⟨55,.lst [L b1 4224 4224],1,true⟩,⟨3,.lst [I 33],1,true⟩,⟨24,.vals (rs.flatMap rowV),tot,true⟩],E⟩
theorem cn_1 {s v:Int} {b b0 b1 pb:Option Addr} {l c pl pc:Nat} {rc:Rc} {n cap tot:Nat} {rs:List FRow} {KK:KT} (h:Ct (CI s b l c rc) 8 Try.f43 [1,1,1] 11 KK (shA_1 s v b b0 b1 pb l c pl pc rc n cap tot rs E)):Pn (CI s b l c rc) 8 Try.f43 [1,1,0,1,0] 11 KK ⟨fr43 rc 1 1 b1,[⟨24,.lst [I s,L b l c],2,true⟩,⟨3,.lst [I v],1,true⟩,⟨22,.lst [L pb pl pc],1,true⟩,⟨56,.lst [L b0 4224 4224,L b1 4224 4224],2,true⟩,⟨3,.lst [I 1],1,true⟩,⟨3,.lst [I 4224],1,true⟩,⟨24,.lst [I s,L b l c],2,true⟩,⟨33,.lst [L none 0 0],1,true⟩,⟨26,.lst [I 0],1,true⟩,⟨24,.lst [],0,false⟩,⟨33,.lst [.slc 16 0 n cap],1,true⟩,⟨68,.lst [.raw (.func (.yield rc.l) #[] #[])],1,true⟩,⟨24,.lst [],0,false⟩,⟨3,.lst [I 1],1,true⟩,⟨55,.lst [L b1 4224 4224],1,true⟩,⟨3,.lst [I 33],1,true⟩,⟨24,.vals (rs.flatMap rowV),tot,true⟩],E⟩:=by
 refine sm_ (?_:Ct (CI s b l c rc) 8 Try.f43 [1,1,1] 11 KK { fr:=some (SV.raw (Value.func (Fn.yield rc.l) #[] #[]))::oc 3 0::oc 4 0::oc 5 0::oc 2 0::oc 1 0::oc 11 0::no16 (no2 (oI 1::oI 1::oc 3 1::oL b1 4224 4224::some (SV.clo 67 [] [SV.loc 13 0,SV.loc 14 0])::no16 (no8 (no4 (none::[]))))),bx:=[(⟨24,.lst [I s,L b l c],2,true⟩:Box),⟨3,.lst [I v],1,true⟩,⟨22,.lst [L pb pl pc],1,true⟩,⟨56,.lst [L b0 4224 4224,L b1 4224 4224],2,true⟩,⟨3,.lst [I 1],1,true⟩,⟨3,.lst [I 4224],1,true⟩,⟨24,.lst [I s,L b l c],2,true⟩,⟨33,.lst [L none 0 0],1,true⟩,⟨26,.lst [I 0],1,true⟩,⟨24,.lst [],0,false⟩,⟨33,.lst [SV.slc 16 0 n cap],1,true⟩,⟨68,.lst [SV.raw (Value.func (Fn.yield rc.l) #[] #[])],1,true⟩,⟨24,.lst [],0,false⟩,⟨3,.lst [I 1],1,true⟩,⟨55,.lst [L b1 4224 4224],1,true⟩,⟨3,.lst [I 33],1,true⟩,⟨24,.vals (List.flatMap rowV rs),tot,true⟩],E:=E:St })
 delta no2 no4 no8 no16
 exact Ct_re [some 0,some 1,some 2,some 3,some 4,some 5,some 6,some 7,some 8,some 9,some 10,some 11,some 16] h (wkG mr_ (h6:=(by repeat' first|exact True.intro|exact rfl|exact Or.inl rfl|exact (by decide:9<17)|refine And.intro ?_ ?_)))
theorem r67_1 {s v:Int} {b b0 b1 pb:Option Addr} {l c pl pc:Nat} {z p:List Int} {rc rd:Rc} {i:Nat} {n cap tot N:Nat} {rs:List FRow} {ms:List (Int×List Int)} {KK:KT} (H:HI E s v b b0 b1 pb l c pl pc z p) (X:LI E rs (cleanL z 1 ms i) n cap tot (N+128*i)) (hN:N<=50000) (hi:i<=33)
  (h:i=33->Ct (CI s b l c rc) 8 Try.f43 [1,1,1] 11 KK (shA_1 s v b b0 b1 pb l c pl pc rc n cap tot rs E))
  (ih:∀ (E':Mem) (n' cap' tot':Nat) (rs':List FRow),i<33->Mem.le E E'->LI E' rs' (cleanL z 1 ms (i+1)) n' cap' tot' (N+128*(i+1))->Lp (CC s b l c rc 1 1 b1 rd) 8 Try.f67 [1,1,0] 15 (KC s b l c rc 1 1 b1 KK) (shC_1 s v b b0 b1 pb l c pl pc rc rd (i+1) n' cap' tot' rs' E')):
  Rnd (CC s b l c rc 1 1 b1 rd) 8 Try.f67 [1,1,0] 15 (KC s b l c rc 1 1 b1 KK) (shC_1 s v b b0 b1 pb l c pl pc rc rd i n cap tot rs E):=by
 refine sm_ (?_:bif decide ((NI i)<33) then req ((0:Int)<=WI (WI ((NI i)+1)*(128:Int))/\WI (WI ((NI i)+1)*(128:Int))<=(4224:Int)) (req ((0:Int)<=WI ((NI i)*128)/\WI ((NI i)*128)<=(NI (toN (some (WI (WI ((NI i)+1)*(128:Int)))) 4224))) (∀ (base':Option Addr) (E':Mem),Mem.le E E'->(∀ (cs:List Value),E (VS b1 4224 4224) cs->E' (VS base' (toN (some (WI (WI ((NI i)+1)*(128:Int)))) 4224-toN (some (WI ((NI i)*128))) 0) (4224-toN (some (WI ((NI i)*128))) 0)) (List.take ((toN (some (WI (WI ((NI i)+1)*(128:Int)))) 4224-toN (some (WI ((NI i)*128))) 0)*1) (List.drop (toN (some (WI ((NI i)*128))) 0*1) cs)))->Option.isNone base'=Option.isNone b1->68=68/\∃ (b_1:Option Addr),∃ (l_1:Nat),∃ (c_1:Nat),∃ (zs:List Int),[L base' (toN (some (WI (WI ((NI i)+1)*(128:Int)))) 4224-toN (some (WI ((NI i)*128))) 0) (4224-toN (some (WI ((NI i)*128))) 0),SV.clo 69 [] []]=[L b_1 l_1 c_1,SV.clo 69 [] []]/\Bs E' b_1 l_1 c_1 zs/\l_1<=100000/\bif !List.any zs fun (x:Int)=>decide (x≠(255:Int)) then Lp (CC s b l c rc 1 1 b1 rd) 8 Try.f67 [1,1,0] 15 (KC s b l c rc 1 1 b1 KK) { fr:=some (SV.raw (Value.func (Fn.yield rd.l) #[] #[]))::oc 13 0::oc 14 0::none::oc 15 0::none::none::none::none::none::oI (WI ((NI i)+1))::no16 (none::[]),bx:=[(⟨24,.lst [I s,L b l c],2,true⟩:Box),⟨3,.lst [I v],1,true⟩,⟨22,.lst [L pb pl pc],1,true⟩,⟨56,.lst [L b0 4224 4224,L b1 4224 4224],2,true⟩,⟨3,.lst [I 1],1,true⟩,⟨3,.lst [I 4224],1,true⟩,⟨24,.lst [I s,L b l c],2,true⟩,⟨33,.lst [L none 0 0],1,true⟩,⟨26,.lst [I 0],1,true⟩,⟨24,.lst [],0,false⟩,⟨33,.lst [SV.slc 16 0 n cap],1,true⟩,⟨68,.lst [SV.raw (Value.func (Fn.yield rc.l) #[] #[])],1,true⟩,⟨24,.lst [],0,false⟩,⟨3,.lst [I 1],1,true⟩,⟨55,.lst [L b1 4224 4224],1,true⟩,⟨3,.lst [I 33],1,true⟩,⟨24,.vals (List.flatMap rowV rs),tot,true⟩,⟨3,.lst [I (NI i)],1,true⟩],E:=E':St } else rd.l=rd.l/\rc.l=rc.l/\req ((0:Int)<=WI ((NI n)-1)/\WI ((NI n)-1)<(NI n)) (∃ (n_1:Int),∃ (base:Option Addr),∃ (len:Nat),∃ (cap_1:Nat),LoadV CH.P 24 (List.flatMap rowV rs) (0+Int.toNat (WI ((NI n)-1))*2) (SV.agg [I n_1,L base len cap_1])/\∃ (zs:List Int),Bs E' base len cap_1 zs/\validF n_1 len/\(0:Int)<=WI ((33:Int)+(NI i))/\WI ((33:Int)+(NI i))<(NI len) / n_1/\∀ (b':Option Addr) (l' c':Nat) (ms:List (Int×List Int)) (E'_1:Mem),Mem.le E' E'_1->Hyp (erasF n_1 zs (WI ((33:Int)+(NI i)))=(ms,(0:Int)))->FL E'_1 b' l' c' ms->Mem.le E' E'_1/\req (l'<=c') (req ((0:Int)<=(1:Int)/\1<=(NI (toN none l'))) (∀ (base':Option Addr) (E':Mem),Mem.le E'_1 E'->(∀ (cs:List Value),E'_1 (VS b' l' c') cs->E' (VS base' (toN none l'-1) (toN none c'-1)) (List.take ((toN none l'-1)*2) (List.drop 2 cs)))->Option.isNone base'=Option.isNone b'->∃ (cs:List Value),(cs=[]\/E' (VS base' (toN none l'-1) (toN none c'-1)) cs)/\(toN none l'-1)*2<=List.length cs/\(∀ (x:Value),List.Mem x cs->Value.oneCell' x=true)/\n*2<=List.length (Row.cells (Row.vals (List.flatMap rowV rs)))/\cap*2<=tot/\n<=cap/\req ((n+(toN none l'-1))*32<=(140737488355328:Nat)) (∀ (cap' tot':Nat),n+(toN none l'-1)<=cap'->cap'*2<=tot'->Lp (CC s b l c rc 1 1 b1 rd) 8 Try.f67 [1,1,0] 15 (KC s b l c rc 1 1 b1 KK) { fr:=some (SV.raw (Value.func (Fn.yield rd.l) #[] #[]))::oc 13 0::oc 14 0::none::oc 15 0::none::none::none::none::none::oI (WI ((NI i)+1))::no16 (none::[]),bx:=[(⟨(24:Nat),Row.lst [I s,L b l c],(2:Nat),true⟩:Box),⟨(3:Nat),Row.lst [I v],(1:Nat),true⟩,⟨(22:Nat),Row.lst [L pb pl pc],(1:Nat),true⟩,⟨(56:Nat),Row.lst [L b0 4224 4224,L b1 4224 4224],(2:Nat),true⟩,⟨(3:Nat),Row.lst [I 1],(1:Nat),true⟩,⟨(3:Nat),Row.lst [I 4224],(1:Nat),true⟩,⟨(24:Nat),Row.lst [I s,L b l c],(2:Nat),true⟩,⟨(33:Nat),Row.lst [L none 0 0],(1:Nat),true⟩,⟨(26:Nat),Row.lst [I 0],(1:Nat),true⟩,⟨(24:Nat),Row.lst [],(0:Nat),false⟩,⟨(33:Nat),Row.lst [SV.slc 19 0 (n+(toN none l'-(1:Nat))) cap'],(1:Nat),true⟩,⟨(68:Nat),Row.lst [SV.raw (Value.func (Fn.yield rc.l) #[] #[])],(1:Nat),true⟩,⟨(24:Nat),Row.lst [],(0:Nat),false⟩,⟨(3:Nat),Row.lst [I 1],(1:Nat),true⟩,⟨(55:Nat),Row.lst [L b1 4224 4224],(1:Nat),true⟩,⟨(3:Nat),Row.lst [I 33],(1:Nat),true⟩,⟨(24:Nat),Row.lst [],(0:Nat),false⟩,⟨(3:Nat),Row.lst [I (NI i)],(1:Nat),true⟩,⟨(24:Nat),Row.lst [I n_1,L base len cap_1],(2:Nat),true⟩,⟨(24:Nat),Row.vals (List.take (n*(2:Nat)) (List.flatMap rowV rs)++List.take ((toN none l'-(1:Nat))*(2:Nat)) cs),tot',true⟩],E:=E':St })))))) else Cn (CI s b l c rc) 8 Try.f43 [1,1,0,1,0] 11 KK { fr:=some (SV.raw (Value.func (Fn.yield rc.l) #[] #[]))::oc 3 0::oc 4 0::oc 5 0::oc 2 0::oc 1 0::oc 11 0::no16 (no2 (oI 1::oI 1::oc 3 1::oL b1 4224 4224::some (SV.clo 67 [] [SV.loc 13 0,SV.loc 14 0])::no16 (no8 (no4 (none::[]))))),bx:=[(⟨24,.lst [I s,L b l c],2,true⟩:Box),⟨3,.lst [I v],1,true⟩,⟨22,.lst [L pb pl pc],1,true⟩,⟨56,.lst [L b0 4224 4224,L b1 4224 4224],2,true⟩,⟨3,.lst [I 1],1,true⟩,⟨3,.lst [I 4224],1,true⟩,⟨24,.lst [I s,L b l c],2,true⟩,⟨33,.lst [L none 0 0],1,true⟩,⟨26,.lst [I 0],1,true⟩,⟨24,.lst [],0,false⟩,⟨33,.lst [SV.slc 16 0 n cap],1,true⟩,⟨68,.lst [SV.raw (Value.func (Fn.yield rc.l) #[] #[])],1,true⟩,⟨24,.lst [],0,false⟩,⟨3,.lst [I 1],1,true⟩,⟨55,.lst [L b1 4224 4224],1,true⟩,⟨3,.lst [I 33],1,true⟩,⟨24,.vals (List.flatMap rowV rs),tot,true⟩],E:=E:St })
 delta WI NI VS no2 no4 no8 no16
 refine condC (fun g=>?_) (fun g=>?_)
 ·have g:i<33:=by simp at g;omega
  have w1:IntKind.wrap .i64 ((i:Int)*128)=((128*i:Nat):Int):=by rw [wrap_i64 (by omega)];omega
  have w2:IntKind.wrap .i64 (IntKind.wrap .i64 ((i:Int)+1)*128)=((128*i+128:Nat):Int):=by rw [wrap_i64 (x:=(i:Int)+1) (by omega),wrap_i64 (by omega)];omega
  have w3:IntKind.wrap .i64 ((33:Int)+(i:Int))=((33*1+i:Nat):Int):=by rw [wrap_i64 (by omega)];omega
  have w4:IntKind.wrap .i64 ((i:Int)+1)=((i+1:Nat):Int):=by rw [wrap_i64 (by omega)];omega
  have t1:toN (some ((128*i+128:Nat):Int)) 4224=128*i+128:=Int.toNat_natCast _
  have t2:toN (some ((128*i:Nat):Int)) 0=128*i:=Int.toNat_natCast _
  rw [w1,w2,w3,w4,t1,t2]
  refine req_intro (by omega) (req_intro (by omega) fun b2 E2 k2 f2 n2=>?_)
  have eu:((bankF z 1).drop (128*i)).take 128=(z.drop (4224*1+128*i)).take 128:=sec_eq g
  have HB:Bs E2 b2 (128*i+128-128*i) (4224-128*i) ((bankF z 1).drop (128*i)|>.take 128):=by
   have:=Bs.cutc (lo:=128*i) (hi:=128*i+128) H.h1 f2 n2 (by omega) (by omega)
   rwa [show 128*i+128-128*i=128 by omega] at this ⊢
  refine ⟨rfl,b2,_,_,_,rfl,HB,by omega,?_⟩
  rw [eu,show ((z.drop (4224*1+128*i)).take 128).any (fun x=>decide (x≠255))=usedS z 1 i from rfl]
  have X2:=X.mono k2
  refine condC (fun u=>?_) (fun u=>?_)
  ·have u:¬ usedS z 1 i=true:=by simpa using u
   have ce:cleanL z 1 ms (i+1)=cleanL z 1 ms i:=by rw [cleanL,if_neg u]
   exact Lp_re [some 0,some 1,some 2,some 3,some 4,some 5,some 6,some 7,some 8,some 9,some 10,some 11,some 12,some 13,some 14,some 15,some 16] (ih E2 n cap tot rs g k2 (by rw [ce];exact ⟨X2.R,X2.hn,X2.hc,⟨X2.hb.1,by have:=X2.hb.2;omega⟩,X2.l1,X2.l2⟩)) (wkG mr_ (h6:=(by repeat' first|exact True.intro|exact rfl|exact Or.inl rfl|exact (by decide:9<18)|exact (by decide:12<18)|refine And.intro ?_ ?_)))
  ·have u:usedS z 1 i=true:=by simpa using u
   have ce:cleanL z 1 ms (i+1)=erasL (cleanL z 1 ms i) (33*1+i):=by rw [cleanL,if_pos u]
   obtain ⟨q1,b3,c3,q2,q3⟩:=X2.load (by omega)
   refine ⟨rfl,rfl,req_intro q1 ⟨128,b3,8448,c3,q2,_,q3,validB,by omega,by omega,fun b4 l4 c4 m4 E4 k4 r4 F4=>⟨k4,?_⟩⟩⟩
   have r4:erasF 128 (lastM (cleanL z 1 ms i)).2 ((33*1+i:Nat):Int)=(m4,0):=r4
   obtain ⟨p1,p2,p3,p4⟩:=eras_li X2.l1 X2.l2 (by omega) r4
   refine X2.app k4 F4 p1 (by omega) p2 p3 p4 fun base' E' cs cap' tot' rs' e1 e2 e3=>?_
   rw [e1]
   exact Lp_re [some 0,some 1,some 2,some 3,some 4,some 5,some 6,some 7,some 8,some 9,some 10,some 11,some 12,some 13,some 14,some 15,some 19] (ih E' _ cap' tot' rs' g (mt_ k2 (mt_ k4 e2)) (by rw [ce];exact ⟨e3.R,e3.hn,e3.hc,⟨e3.hb.1,by have:=e3.hb.2;omega⟩,e3.l1,e3.l2⟩)) (wkG mr_ (h6:=(by repeat' first|exact True.intro|exact rfl|exact Or.inl rfl|exact (by decide:9<20)|exact (by decide:12<20)|refine And.intro ?_ ?_)))
 ·have g:i=33:=by simp at g;omega
  exact Cn_intro (cn_1 (h g))
theorem lp67_1 {s v:Int} {b b0 b1 pb:Option Addr} {l c pl pc:Nat} {z p:List Int} {rc rd:Rc} {i:Nat} {n cap tot N:Nat} {rs:List FRow} {E0:Mem} {ms:List (Int×List Int)} {KK:KT} (hC:CxOK (CC s b l c rc 1 1 b1 rd)) (H:HI E0 s v b b0 b1 pb l c pl pc z p) (hE:Mem.le E0 E) (X:LI E rs (cleanL z 1 ms i) n cap tot (N+128*i)) (hN:N<=40000) (hi:i<=33)
  (h:∀ (E':Mem) (n' cap' tot':Nat) (rs':List FRow),Mem.le E0 E'->LI E' rs' (cleanL z 1 ms 33) n' cap' tot' (N+128*33)->Ct (CI s b l c rc) 8 Try.f43 [1,1,1] 11 KK (shA_1 s v b b0 b1 pb l c pl pc rc n' cap' tot' rs' E')):
  Lp (CC s b l c rc 1 1 b1 rd) 8 Try.f67 [1,1,0] 15 (KC s b l c rc 1 1 b1 KK) (shC_1 s v b b0 b1 pb l c pl pc rc rd i n cap tot rs E):=
 Lp_ind hC (fun x:{x:Mem×Nat×Nat×Nat×Nat×List FRow//Mem.le E0 x.1/\x.2.1<=33/\LI x.1 x.2.2.2.2.2 (cleanL z 1 ms x.2.1) x.2.2.1 x.2.2.2.1 x.2.2.2.2.1 (N+128*x.2.1)}=>shC_1 s v b b0 b1 pb l c pl pc rc rd x.1.2.1 x.1.2.2.1 x.1.2.2.2.1 x.1.2.2.2.2.1 x.1.2.2.2.2.2 x.1.1) (fun x=>33-x.1.2.1)
  (fun x ih=>r67_1 (H.mono x.2.1) x.2.2.2 (by have:=x.2.2.1;omega) x.2.2.1 (fun e=>h _ _ _ _ _ x.2.1 (by have:=x.2.2.2;rw [e] at this;exact this)) fun E' n' cap' tot' rs' hlt hle X'=>ih ⟨⟨E',x.1.2.1+1,n',cap',tot',rs'⟩,mt_ x.2.1 hle,hlt,X'⟩ (by show 33-(_+1)<33-_;omega)) ⟨⟨E,i,n,cap,tot,rs⟩,hE,hi,X⟩
theorem e67_1 {s v:Int} {b b0 b1 pb:Option Addr} {l c pl pc:Nat} {z p:List Int} {rc rd:Rc} {n cap tot N:Nat} {rs:List FRow} {ms:List (Int×List Int)} {KK:KT} (hC:CxOK (CC s b l c rc 1 1 b1 rd)) (H:HI E s v b b0 b1 pb l c pl pc z p) (X:LI E rs ms n cap tot N) (hN:N<=40000)
  (h:∀ (E':Mem) (n' cap' tot':Nat) (rs':List FRow),Mem.le E E'->LI E' rs' (cleanL z 1 ms 33) n' cap' tot' (N+128*33)->Ct (CI s b l c rc) 8 Try.f43 [1,1,1] 11 KK (shA_1 s v b b0 b1 pb l c pl pc rc n' cap' tot' rs' E')):
  EntB (CC s b l c rc 1 1 b1 rd) 8 Try.f67 [.raw (.func (.yield rd.l) #[] #[]),.loc 13 0,.loc 14 0] [⟨24,.lst [I s,L b l c],2,true⟩,⟨3,.lst [I v],1,true⟩,⟨22,.lst [L pb pl pc],1,true⟩,⟨56,.lst [L b0 4224 4224,L b1 4224 4224],2,true⟩,⟨3,.lst [I 1],1,true⟩,⟨3,.lst [I 4224],1,true⟩,⟨24,.lst [I s,L b l c],2,true⟩,⟨33,.lst [L none 0 0],1,true⟩,⟨26,.lst [I 0],1,true⟩,⟨24,.lst [],0,false⟩,⟨33,.lst [.slc 12 0 n cap],1,true⟩,⟨68,.lst [.raw (.func (.yield rc.l) #[] #[])],1,true⟩,⟨24,.vals (rs.flatMap rowV),tot,true⟩,⟨3,.lst [I 1],1,true⟩,⟨55,.lst [L b1 4224 4224],1,true⟩] E (KC s b l c rc 1 1 b1 KK):=by
 refine sm_ (?_:((128:Int)=(0:Int)->False)/\Lp (CC s b l c rc 1 1 b1 rd) 8 Try.f67 [1,1,0] 15 (KC s b l c rc 1 1 b1 KK) { fr:=some (SV.raw (Value.func (Fn.yield rd.l) #[] #[]))::oc 13 0::oc 14 0::none::oc 15 0::none::none::oI 1::oI 4224::oI 33::oI 0::no16 (none::[]),bx:=[(⟨24,.lst [I s,L b l c],2,true⟩:Box),⟨3,.lst [I v],1,true⟩,⟨22,.lst [L pb pl pc],1,true⟩,⟨56,.lst [L b0 4224 4224,L b1 4224 4224],2,true⟩,⟨3,.lst [I 1],1,true⟩,⟨3,.lst [I 4224],1,true⟩,⟨24,.lst [I s,L b l c],2,true⟩,⟨33,.lst [L none 0 0],1,true⟩,⟨26,.lst [I 0],1,true⟩,⟨24,.lst [],0,false⟩,⟨33,.lst [SV.slc 12 0 n cap],1,true⟩,⟨68,.lst [SV.raw (Value.func (Fn.yield rc.l) #[] #[])],1,true⟩,⟨24,.vals (List.flatMap rowV rs),tot,true⟩,⟨3,.lst [I 1],1,true⟩,⟨55,.lst [L b1 4224 4224],1,true⟩,⟨3,.lst [I 33],1,true⟩],E:=E:St })
 delta no16
 refine ⟨by decide,?_⟩
 exact Lp_re [some 0,some 1,some 2,some 3,some 4,some 5,some 6,some 7,some 8,some 9,some 10,some 11,some 12,some 13,some 14,some 15,some 12] (lp67_1 (i:=0) hC H mr_ X hN (Nat.zero_le _) h) (wkG mr_ (h6:=(by repeat' first|exact True.intro|exact rfl|exact Or.inl rfl|exact (by decide:9<16)|exact (by decide:12<16)|refine And.intro ?_ ?_)))
theorem y2_1 {s v:Int} {b b0 b1 pb:Option Addr} {l c pl pc:Nat} {z p:List Int} {rc:Rc} {n cap tot N:Nat} {rs:List FRow} {ms:List (Int×List Int)} {KK:KT} (hC:CxOK (CI s b l c rc)) (hup:rc.up=none) (H:HI E s v b b0 b1 pb l c pl pc z p) (X:LI E rs ms n cap tot N) (hN:N<=40000)
  (h:∀ (E':Mem) (n' cap' tot':Nat) (rs':List FRow),Mem.le E E'->LI E' rs' (cleanL z 1 ms 33) n' cap' tot' (N+128*33)->Ct (CI s b l c rc) 8 Try.f43 [1,1,1] 11 KK (shA_1 s v b b0 b1 pb l c pl pc rc n' cap' tot' rs' E')):
  Pc (CI s b l c rc) 8 Try.f43 [1,1] 11 KK (shA_1 s v b b0 b1 pb l c pl pc rc n cap tot rs E):=by
 refine sm_ (?_:Mem.le E E/\Ct (CI s b l c rc) 8 Try.f43 [1,1,0,1,0] 11 KK { fr:=some (SV.raw (Value.func (Fn.yield rc.l) #[] #[]))::oc 3 0::oc 4 0::oc 5 0::oc 2 0::oc 1 0::oc 11 0::no16 (no2 (oI 1::oI 1::oc 3 1::oL b1 4224 4224::some (SV.clo 67 [] [SV.loc 13 0,SV.loc 14 0])::no16 (no8 (no4 (none::[]))))),bx:=[(⟨24,.lst [I s,L b l c],2,true⟩:Box),⟨3,.lst [I v],1,true⟩,⟨22,.lst [L pb pl pc],1,true⟩,⟨56,.lst [L b0 4224 4224,L b1 4224 4224],2,true⟩,⟨3,.lst [I 1],1,true⟩,⟨3,.lst [I 4224],1,true⟩,⟨24,.lst [I s,L b l c],2,true⟩,⟨33,.lst [L none 0 0],1,true⟩,⟨26,.lst [I 0],1,true⟩,⟨24,.lst [],0,false⟩,⟨33,.lst [SV.slc 12 0 n cap],1,true⟩,⟨68,.lst [SV.raw (Value.func (Fn.yield rc.l) #[] #[])],1,true⟩,⟨24,.vals (List.flatMap rowV rs),tot,true⟩,⟨3,.lst [I 1],1,true⟩,⟨55,.lst [L b1 4224 4224],1,true⟩],E:=E:St })
 delta no2 no4 no8 no16
 refine ⟨mr_,?_⟩
 exact RfN hC okGC (by kernel_rfl) (by kernel_rfl) Try.func67 ⟨by kernel_rfl,by kernel_rfl⟩ (gf:=67) (gfn:=Try.f67) (first:=[]) (caps:=[.loc 13 0,.loc 14 0]) (m:=8) (fun rd hrd _=>e67_1 hrd H X hN h) (fun c0 e=>by cases e;exact hup) rfl
def shW_0_0 (s v:Int) (b b0 b1 pb:Option Addr) (l c pl pc:Nat) (rc:Rc) (bh:Option Addr) (ch:Nat) (n cap tot:Nat) (rs:List FRow) (E:Mem):St:=⟨[some (.raw (.func (.yield rc.l) #[] #[])),oc 3 0,oc 4 0,oc 5 0,oc 2 0,oc 1 0,oc 11 0]++List.replicate 41 none++[os 19 0 3 3,oI 3,oI 0]++List.replicate 8 none,[⟨24,.lst [I s,L b l c],2,true⟩,⟨3,.lst [I v],1,true⟩,⟨22,.lst [L pb pl pc],1,true⟩,⟨56,.lst [L b0 4224 4224,L b1 4224 4224],2,true⟩,⟨3,.lst [I 0],1,true⟩,⟨3,.lst [I 0],1,true⟩,⟨24,.lst [I s,L b l c],2,true⟩,⟨33,.lst [L none 0 0],1,true⟩,⟨26,.lst [I 0],1,true⟩,⟨24,.lst [],0,false⟩,⟨33,.lst [.slc 20 0 n cap],1,true⟩,⟨68,.lst [.raw (.func (.yield rc.l) #[] #[])],1,true⟩,⟨3,.lst [I 32],1,true⟩,⟨22,.lst [L pb pl pc],1,true⟩,⟨3,.lst [I 0],1,true⟩,⟨22,.lst [L bh 14 ch],1,true⟩,⟨5,.lst [.raw (.int .u8 80)],1,true⟩,⟨3,.lst [I 14],1,true⟩,⟨22,.lst [.slc 16 0 1 1],1,true⟩,⟨70,.lst [.clo 66 [] [.loc 12 0,.loc 13 0],.clo 66 [] [.loc 14 0,.loc 15 0],.clo 66 [] [.loc 17 0,.loc 18 0]],3,true⟩,⟨24,.vals (rs.flatMap rowV),tot,true⟩],E⟩
def shW_0_1 (s v:Int) (b b0 b1 pb:Option Addr) (l c pl pc:Nat) (rc:Rc) (bh:Option Addr) (ch:Nat) (n cap tot:Nat) (rs:List FRow) (E:Mem):St:=⟨[some (.raw (.func (.yield rc.l) #[] #[])),oc 3 0,oc 4 0,oc 5 0,oc 2 0,oc 1 0,oc 11 0]++List.replicate 41 none++[os 19 0 3 3,oI 3,oI 1]++List.replicate 8 none,[⟨24,.lst [I s,L b l c],2,true⟩,⟨3,.lst [I v],1,true⟩,⟨22,.lst [L pb pl pc],1,true⟩,⟨56,.lst [L b0 4224 4224,L b1 4224 4224],2,true⟩,⟨3,.lst [I 0],1,true⟩,⟨3,.lst [I 0],1,true⟩,⟨24,.lst [I s,L b l c],2,true⟩,⟨33,.lst [L none 0 0],1,true⟩,⟨26,.lst [I 0],1,true⟩,⟨24,.lst [],0,false⟩,⟨33,.lst [.slc 20 0 n cap],1,true⟩,⟨68,.lst [.raw (.func (.yield rc.l) #[] #[])],1,true⟩,⟨3,.lst [I 32],1,true⟩,⟨22,.lst [L pb pl pc],1,true⟩,⟨3,.lst [I 0],1,true⟩,⟨22,.lst [L bh 14 ch],1,true⟩,⟨5,.lst [.raw (.int .u8 80)],1,true⟩,⟨3,.lst [I 14],1,true⟩,⟨22,.lst [.slc 16 0 1 1],1,true⟩,⟨70,.lst [.clo 66 [] [.loc 12 0,.loc 13 0],.clo 66 [] [.loc 14 0,.loc 15 0],.clo 66 [] [.loc 17 0,.loc 18 0]],3,true⟩,⟨24,.vals (rs.flatMap rowV),tot,true⟩],E⟩
def shW_0_2 (s v:Int) (b b0 b1 pb:Option Addr) (l c pl pc:Nat) (rc:Rc) (bh:Option Addr) (ch:Nat) (n cap tot:Nat) (rs:List FRow) (E:Mem):St:=⟨[some (.raw (.func (.yield rc.l) #[] #[])),oc 3 0,oc 4 0,oc 5 0,oc 2 0,oc 1 0,oc 11 0]++List.replicate 41 none++[os 19 0 3 3,oI 3,oI 2]++List.replicate 8 none,[⟨24,.lst [I s,L b l c],2,true⟩,⟨3,.lst [I v],1,true⟩,⟨22,.lst [L pb pl pc],1,true⟩,⟨56,.lst [L b0 4224 4224,L b1 4224 4224],2,true⟩,⟨3,.lst [I 0],1,true⟩,⟨3,.lst [I 0],1,true⟩,⟨24,.lst [I s,L b l c],2,true⟩,⟨33,.lst [L none 0 0],1,true⟩,⟨26,.lst [I 0],1,true⟩,⟨24,.lst [],0,false⟩,⟨33,.lst [.slc 20 0 n cap],1,true⟩,⟨68,.lst [.raw (.func (.yield rc.l) #[] #[])],1,true⟩,⟨3,.lst [I 32],1,true⟩,⟨22,.lst [L pb pl pc],1,true⟩,⟨3,.lst [I 0],1,true⟩,⟨22,.lst [L bh 14 ch],1,true⟩,⟨5,.lst [.raw (.int .u8 80)],1,true⟩,⟨3,.lst [I 14],1,true⟩,⟨22,.lst [.slc 16 0 1 1],1,true⟩,⟨70,.lst [.clo 66 [] [.loc 12 0,.loc 13 0],.clo 66 [] [.loc 14 0,.loc 15 0],.clo 66 [] [.loc 17 0,.loc 18 0]],3,true⟩,⟨24,.vals (rs.flatMap rowV),tot,true⟩],E⟩
def shX_0 (s v:Int) (b b0 b1 pb:Option Addr) (l c pl pc:Nat) (rc:Rc) (n cap tot:Nat) (rs:List FRow) (E:Mem):St:=⟨[some (.raw (.func (.yield rc.l) #[] #[])),oc 3 0,oc 4 0,oc 5 0,oc 2 0,oc 1 0,oc 11 0]++List.replicate 41 none++[none,oI 3,oI 3]++List.replicate 8 none,[⟨24,.lst [I s,L b l c],2,true⟩,⟨3,.lst [I v],1,true⟩,⟨22,.lst [L pb pl pc],1,true⟩,⟨56,.lst [L b0 4224 4224,L b1 4224 4224],2,true⟩,⟨3,.lst [I 0],1,true⟩,⟨3,.lst [I 0],1,true⟩,⟨24,.lst [I s,L b l c],2,true⟩,⟨33,.lst [L none 0 0],1,true⟩,⟨26,.lst [I 0],1,true⟩,⟨24,.lst [],0,false⟩,⟨33,.lst [.slc 12 0 n cap],1,true⟩,⟨68,.lst [.raw (.func (.yield rc.l) #[] #[])],1,true⟩,⟨24,.vals (rs.flatMap rowV),tot,true⟩],E⟩
theorem rx_0 {s v:Int} {b b0 b1 pb:Option Addr} {l c pl pc:Nat} {rc:Rc} {n cap tot:Nat} {rs:List FRow} {KK:KT} (h:KK (.tup []) [⟨24,.lst [I s,L b l c],2,true⟩,⟨3,.lst [I v],1,true⟩,⟨22,.lst [L pb pl pc],1,true⟩,⟨56,.lst [L b0 4224 4224,L b1 4224 4224],2,true⟩,⟨3,.lst [I 0],1,true⟩,⟨3,.lst [I 0],1,true⟩,⟨24,.lst [I s,L b l c],2,true⟩,⟨33,.lst [L none 0 0],1,true⟩,⟨26,.lst [I 0],1,true⟩,⟨24,.lst [],0,false⟩,⟨33,.lst [.slc 12 0 n cap],1,true⟩,⟨68,.lst [.raw (.func (.yield rc.l) #[] #[])],1,true⟩,⟨24,.vals (rs.flatMap rowV),tot,true⟩] E):Rnd (CI s b l c rc) 8 Try.f43 [1,1,1,1,0] 11 KK (shX_0 s v b b0 b1 pb l c pl pc rc n cap tot rs E):=by
 refine sm_ (?_:KK (SV.tup []) [⟨24,Row.lst [I s,L b l c],2,true⟩,⟨3,Row.lst [I v],1,true⟩,⟨22,Row.lst [L pb pl pc],1,true⟩,⟨56,Row.lst [L b0 4224 4224,L b1 4224 4224],2,true⟩,⟨3,Row.lst [I (0:Int)],1,true⟩,⟨3,Row.lst [I (0:Int)],1,true⟩,⟨24,Row.lst [I s,L b l c],2,true⟩,⟨33,Row.lst [L none 0 0],1,true⟩,⟨26,Row.lst [I (0:Int)],1,true⟩,⟨24,Row.lst [],0,false⟩,⟨33,Row.lst [SV.slc 12 0 n cap],1,true⟩,⟨68,Row.lst [SV.raw (Value.func (Fn.yield rc.l) #[] #[])],1,true⟩,⟨24,Row.vals (List.flatMap rowV rs),tot,true⟩] E)
 exact h
theorem rw_0_2 {s v:Int} {b b0 b1 pb:Option Addr} {l c pl pc:Nat} {z p:List Int} {rc:Rc} {bh:Option Addr} {ch:Nat} {n cap tot N:Nat} {ys:List Int} {rs:List FRow} {ms:List (Int×List Int)} {KK:KT} (H:HI E s v b b0 b1 pb l c pl pc z p) (hh:Bs E bh 14 ch ys) (X:LI E rs ms n cap tot N) (hN:N<=60000)
  (h:∀ (E':Mem) (n' cap' tot':Nat) (rs':List FRow),Mem.le E E'->LI E' rs' (progL ms 14 [80]) n' cap' tot' (N+[80].length)->Lp (CI s b l c rc) 8 Try.f43 [1,1,1,1,0] 11 KK (shX_0 s v b b0 b1 pb l c pl pc rc n' cap' tot' rs' E')):
  Rnd (CI s b l c rc) 8 Try.f43 [1,1,1,1,0] 11 KK (shW_0_2 s v b b0 b1 pb l c pl pc rc bh ch n cap tot rs E):=by
 refine sm_ (?_:rc.l=rc.l/\req ((0:Int)<=WI ((NI n)-1)/\WI ((NI n)-1)<(NI n)) (∃ (n_1:Int),∃ (base:Option Addr),∃ (len:Nat),∃ (cap_1:Nat),LoadV CH.P 24 (List.flatMap rowV rs) (0+Int.toNat (WI ((NI n)-1))*2) (SV.agg [I n_1,L base len cap_1])/\∀ (base_1:Option Addr) (E':Mem),Mem.le E E'->WinE E' base_1 [U8 80]->∃ (zs:List Int),∃ (ds:List Int),Bs E' base len cap_1 zs/\Bs E' (Option.map (fun (x:Addr)=>Addr.add x 0) base_1) 1 1 ds/\validF n_1 len/\(0:Int)<=(14:Int)/\15<=(NI len)/\∀ (b':Option Addr) (l' c':Nat) (ms:List (Int×List Int)) (E'_1:Mem),Mem.le E' E'_1->Hyp (progF n_1 zs 14 ds=(ms,(0:Int)))->FL E'_1 b' l' c' ms->req (l'<=c') (req ((0:Int)<=(1:Int)/\1<=(NI (toN none l'))) (∀ (base':Option Addr) (E':Mem),Mem.le E'_1 E'->(∀ (cs:List Value),E'_1 (VS b' l' c') cs->E' (VS base' (toN none l'-1) (toN none c'-1)) (List.take ((toN none l'-1)*2) (List.drop 2 cs)))->Option.isNone base'=Option.isNone b'->∃ (cs:List Value),(cs=[]\/E' (VS base' (toN none l'-1) (toN none c'-1)) cs)/\(toN none l'-1)*2<=List.length cs/\(∀ (x:Value),List.Mem x cs->Value.oneCell' x=true)/\n*2<=List.length (Row.cells (Row.vals (List.flatMap rowV rs)))/\cap*2<=tot/\n<=cap/\req ((n+(toN none l'-1))*32<=140737488355328) (∀ (cap' tot':Nat),n+(toN none l'-1)<=cap'->cap'*2<=tot'->Lp (CI s b l c rc) 8 Try.f43 [1,1,1,1,0] 11 KK { fr:=some (SV.raw (Value.func (Fn.yield rc.l) #[] #[]))::oc 3 0::oc 4 0::oc 5 0::oc 2 0::oc 1 0::oc 11 0::no32 (no8 (none::(os 19 0 3 3::oI 3::oI 3::no8 []))),bx:=[(⟨24,.lst [I s,L b l c],2,true⟩:Box),⟨3,.lst [I v],1,true⟩,⟨22,.lst [L pb pl pc],1,true⟩,⟨56,.lst [L b0 4224 4224,L b1 4224 4224],2,true⟩,⟨3,.lst [I 0],1,true⟩,⟨3,.lst [I 0],1,true⟩,⟨24,.lst [I s,L b l c],2,true⟩,⟨33,.lst [L none 0 0],1,true⟩,⟨26,.lst [I 0],1,true⟩,⟨24,.lst [],0,false⟩,⟨33,.lst [SV.slc 22 0 (n+(toN none l'-1)) cap'],1,true⟩,⟨68,.lst [SV.raw (Value.func (Fn.yield rc.l) #[] #[])],1,true⟩,⟨3,.lst [I 32],1,true⟩,⟨22,.lst [L pb pl pc],1,true⟩,⟨3,.lst [I 0],1,true⟩,⟨22,.lst [L bh 14 ch],1,true⟩,⟨5,.lst [SV.raw (U8 80)],1,false⟩,⟨3,.lst [I 14],1,true⟩,⟨22,.lst [L (Option.map (fun (x:Addr)=>Addr.add x 0) base_1) 1 1],1,true⟩,⟨70,.lst [SV.clo 66 [] [SV.loc 12 0,SV.loc 13 0],SV.clo 66 [] [SV.loc 14 0,SV.loc 15 0],SV.clo 66 [] [SV.loc 17 0,SV.loc 18 0]],3,true⟩,⟨24,.lst [],0,false⟩,⟨24,.lst [I n_1,L base len cap_1],2,true⟩,⟨24,.vals (List.take (n*2) (List.flatMap rowV rs)++List.take ((toN none l'-1)*2) cs),tot',true⟩],E:=E':St })))))
 delta WI NI U8 VS no8 no32
 obtain ⟨q1,b2,c2,q2,q3⟩:=X.load (by omega)
 have pl1:p.length=pl:=H.hp.2.1
 have pl2:=H.hpl
 have yl:ys.length=14:=hh.2.1
 refine ⟨rfl,req_intro q1 ⟨128,b2,8448,c2,q2,fun bw Ew kw ww=>⟨_,[80],q3.mono kw,Bs.win (zs:=[80]) ww rfl rfl (Nat.le_refl _) (by decide),validB,by decide,by decide,fun b3 l3 c3 m3 E3 k3 r3 F3=>?_⟩⟩⟩
 have r3:progF 128 (lastM ms).2 ((14:Nat):Int) [80]=(m3,0):=r3
 obtain ⟨p1,p2,p3,p4⟩:=prog_li X.l1 X.l2 (by first|omega|(show 14+1<=8448;omega)) r3
 refine X.app (mt_ kw k3) F3 p1 (by first|omega|(show N+1<=_;omega)) p2 p3 p4 fun base' E' cs cap' tot' rs' e1 e2 e3=>?_
 rw [e1]
 exact Lp_re [some 0,some 1,some 2,some 3,some 4,some 5,some 6,some 7,some 8,some 9,some 10,some 11,some 22] (h E' _ cap' tot' rs' (mt_ kw (mt_ k3 e2)) e3) (wkG mr_ (h6:=(by repeat' first|exact True.intro|exact rfl|exact Or.inl rfl|exact (by decide:9<23)|refine And.intro ?_ ?_)))
theorem rw_0_1 {s v:Int} {b b0 b1 pb:Option Addr} {l c pl pc:Nat} {z p:List Int} {rc:Rc} {bh:Option Addr} {ch:Nat} {n cap tot N:Nat} {ys:List Int} {rs:List FRow} {ms:List (Int×List Int)} {KK:KT} (H:HI E s v b b0 b1 pb l c pl pc z p) (hh:Bs E bh 14 ch ys) (X:LI E rs ms n cap tot N) (hN:N<=60000)
  (h:∀ (E':Mem) (n' cap' tot':Nat) (rs':List FRow),Mem.le E E'->LI E' rs' (progL ms 0 ys) n' cap' tot' (N+ys.length)->Lp (CI s b l c rc) 8 Try.f43 [1,1,1,1,0] 11 KK (shW_0_2 s v b b0 b1 pb l c pl pc rc bh ch n' cap' tot' rs' E')):
  Rnd (CI s b l c rc) 8 Try.f43 [1,1,1,1,0] 11 KK (shW_0_1 s v b b0 b1 pb l c pl pc rc bh ch n cap tot rs E):=by
 refine sm_ (?_:rc.l=rc.l/\req ((0:Int)<=WI ((NI n)-1)/\WI ((NI n)-1)<(NI n)) (∃ (n_1:Int),∃ (base:Option Addr),∃ (len:Nat),∃ (cap_1:Nat),LoadV CH.P 24 (List.flatMap rowV rs) (0+Int.toNat (WI ((NI n)-1))*2) (SV.agg [I n_1,L base len cap_1])/\∃ (zs:List Int),∃ (ds:List Int),Bs E base len cap_1 zs/\Bs E bh 14 ch ds/\validF n_1 len/\(0:Int)<=(0:Int)/\14<=(NI len)/\∀ (b':Option Addr) (l' c':Nat) (ms:List (Int×List Int)) (E':Mem),Mem.le E E'->Hyp (progF n_1 zs 0 ds=(ms,(0:Int)))->FL E' b' l' c' ms->Mem.le E E'/\req (l'<=c') (req ((0:Int)<=(1:Int)/\1<=(NI (toN none l'))) (∀ (base':Option Addr) (E'_1:Mem),Mem.le E' E'_1->(∀ (cs:List Value),E' (VS b' l' c') cs->E'_1 (VS base' (toN none l'-1) (toN none c'-1)) (List.take ((toN none l'-1)*2) (List.drop 2 cs)))->Option.isNone base'=Option.isNone b'->∃ (cs:List Value),(cs=[]\/E'_1 (VS base' (toN none l'-1) (toN none c'-1)) cs)/\(toN none l'-1)*2<=List.length cs/\(∀ (x:Value),List.Mem x cs->Value.oneCell' x=true)/\n*2<=List.length (Row.cells (Row.vals (List.flatMap rowV rs)))/\cap*2<=tot/\n<=cap/\req ((n+(toN none l'-1))*32<=140737488355328) (∀ (cap' tot':Nat),n+(toN none l'-1)<=cap'->cap'*2<=tot'->Lp (CI s b l c rc) 8 Try.f43 [1,1,1,1,0] 11 KK { fr:=some (SV.raw (Value.func (Fn.yield rc.l) #[] #[]))::oc 3 0::oc 4 0::oc 5 0::oc 2 0::oc 1 0::oc 11 0::no32 (no8 (none::(os 19 0 3 3::oI 3::oI 2::no8 []))),bx:=[(⟨24,.lst [I s,L b l c],2,true⟩:Box),⟨3,.lst [I v],1,true⟩,⟨22,.lst [L pb pl pc],1,true⟩,⟨56,.lst [L b0 4224 4224,L b1 4224 4224],2,true⟩,⟨3,.lst [I 0],1,true⟩,⟨3,.lst [I 0],1,true⟩,⟨24,.lst [I s,L b l c],2,true⟩,⟨33,.lst [L none 0 0],1,true⟩,⟨26,.lst [I 0],1,true⟩,⟨24,.lst [],0,false⟩,⟨33,.lst [SV.slc 22 0 (n+(toN none l'-1)) cap'],1,true⟩,⟨68,.lst [SV.raw (Value.func (Fn.yield rc.l) #[] #[])],1,true⟩,⟨3,.lst [I 32],1,true⟩,⟨22,.lst [L pb pl pc],1,true⟩,⟨3,.lst [I 0],1,true⟩,⟨22,.lst [L bh 14 ch],1,true⟩,⟨5,.lst [SV.raw (U8 80)],1,true⟩,⟨3,.lst [I 14],1,true⟩,⟨22,.lst [SV.slc 16 0 1 1],1,true⟩,⟨70,.lst [SV.clo 66 [] [SV.loc 12 0,SV.loc 13 0],SV.clo 66 [] [SV.loc 14 0,SV.loc 15 0],SV.clo 66 [] [SV.loc 17 0,SV.loc 18 0]],3,true⟩,⟨24,.lst [],0,false⟩,⟨24,.lst [I n_1,L base len cap_1],2,true⟩,⟨24,.vals (List.take (n*2) (List.flatMap rowV rs)++List.take ((toN none l'-1)*2) cs),tot',true⟩],E:=E'_1:St })))))
 delta WI NI U8 VS no8 no32
 obtain ⟨q1,b2,c2,q2,q3⟩:=X.load (by omega)
 have pl1:p.length=pl:=H.hp.2.1
 have pl2:=H.hpl
 have yl:ys.length=14:=hh.2.1
 have kw:Mem.le E E:=Mem.le_refl E
 refine ⟨rfl,req_intro q1 ⟨128,b2,8448,c2,q2,_,_,q3,hh,validB,by decide,by omega,fun b3 l3 c3 m3 E3 k3 r3 F3=>⟨k3,?_⟩⟩⟩
 have r3:progF 128 (lastM ms).2 ((0:Nat):Int) ys=(m3,0):=r3
 obtain ⟨p1,p2,p3,p4⟩:=prog_li X.l1 X.l2 (by first|omega|(show 0+1<=8448;omega)) r3
 refine X.app (mt_ kw k3) F3 p1 (by first|omega|(show N+1<=_;omega)) p2 p3 p4 fun base' E' cs cap' tot' rs' e1 e2 e3=>?_
 rw [e1]
 exact Lp_re [some 0,some 1,some 2,some 3,some 4,some 5,some 6,some 7,some 8,some 9,some 10,some 11,some 12,some 13,some 14,some 15,some 16,some 17,some 18,some 19,some 22] (h E' _ cap' tot' rs' (mt_ kw (mt_ k3 e2)) e3) (wkG mr_ (h6:=(by repeat' first|exact True.intro|exact rfl|exact Or.inl rfl|exact (by decide:9<23)|refine And.intro ?_ ?_)))
theorem rw_0_0 {s v:Int} {b b0 b1 pb:Option Addr} {l c pl pc:Nat} {z p:List Int} {rc:Rc} {bh:Option Addr} {ch:Nat} {n cap tot N:Nat} {ys:List Int} {rs:List FRow} {ms:List (Int×List Int)} {KK:KT} (H:HI E s v b b0 b1 pb l c pl pc z p) (hh:Bs E bh 14 ch ys) (X:LI E rs ms n cap tot N) (hN:N<=60000)
  (h:∀ (E':Mem) (n' cap' tot':Nat) (rs':List FRow),Mem.le E E'->LI E' rs' (progL ms 32 p) n' cap' tot' (N+p.length)->Lp (CI s b l c rc) 8 Try.f43 [1,1,1,1,0] 11 KK (shW_0_1 s v b b0 b1 pb l c pl pc rc bh ch n' cap' tot' rs' E')):
  Rnd (CI s b l c rc) 8 Try.f43 [1,1,1,1,0] 11 KK (shW_0_0 s v b b0 b1 pb l c pl pc rc bh ch n cap tot rs E):=by
 refine sm_ (?_:rc.l=rc.l/\req ((0:Int)<=WI ((NI n)-1)/\WI ((NI n)-1)<(NI n)) (∃ (n_1:Int),∃ (base:Option Addr),∃ (len:Nat),∃ (cap_1:Nat),LoadV CH.P 24 (List.flatMap rowV rs) (0+Int.toNat (WI ((NI n)-1))*2) (SV.agg [I n_1,L base len cap_1])/\∃ (zs:List Int),∃ (ds:List Int),Bs E base len cap_1 zs/\Bs E pb pl pc ds/\validF n_1 len/\(0:Int)<=(32:Int)/\(32:Int)+(NI pl)<=(NI len)/\∀ (b':Option Addr) (l' c':Nat) (ms:List (Int×List Int)) (E':Mem),Mem.le E E'->Hyp (progF n_1 zs 32 ds=(ms,(0:Int)))->FL E' b' l' c' ms->Mem.le E E'/\req (l'<=c') (req ((0:Int)<=(1:Int)/\1<=(NI (toN none l'))) (∀ (base':Option Addr) (E'_1:Mem),Mem.le E' E'_1->(∀ (cs:List Value),E' (VS b' l' c') cs->E'_1 (VS base' (toN none l'-1) (toN none c'-1)) (List.take ((toN none l'-1)*2) (List.drop 2 cs)))->Option.isNone base'=Option.isNone b'->∃ (cs:List Value),(cs=[]\/E'_1 (VS base' (toN none l'-1) (toN none c'-1)) cs)/\(toN none l'-1)*2<=List.length cs/\(∀ (x:Value),List.Mem x cs->Value.oneCell' x=true)/\n*2<=List.length (Row.cells (Row.vals (List.flatMap rowV rs)))/\cap*2<=tot/\n<=cap/\req ((n+(toN none l'-1))*32<=140737488355328) (∀ (cap' tot':Nat),n+(toN none l'-1)<=cap'->cap'*2<=tot'->Lp (CI s b l c rc) 8 Try.f43 [1,1,1,1,0] 11 KK { fr:=some (SV.raw (Value.func (Fn.yield rc.l) #[] #[]))::oc 3 0::oc 4 0::oc 5 0::oc 2 0::oc 1 0::oc 11 0::no32 (no8 (none::(os 19 0 3 3::oI 3::oI 1::no8 []))),bx:=[(⟨24,.lst [I s,L b l c],2,true⟩:Box),⟨3,.lst [I v],1,true⟩,⟨22,.lst [L pb pl pc],1,true⟩,⟨56,.lst [L b0 4224 4224,L b1 4224 4224],2,true⟩,⟨3,.lst [I 0],1,true⟩,⟨3,.lst [I 0],1,true⟩,⟨24,.lst [I s,L b l c],2,true⟩,⟨33,.lst [L none 0 0],1,true⟩,⟨26,.lst [I 0],1,true⟩,⟨24,.lst [],0,false⟩,⟨33,.lst [SV.slc 22 0 (n+(toN none l'-1)) cap'],1,true⟩,⟨68,.lst [SV.raw (Value.func (Fn.yield rc.l) #[] #[])],1,true⟩,⟨3,.lst [I 32],1,true⟩,⟨22,.lst [L pb pl pc],1,true⟩,⟨3,.lst [I 0],1,true⟩,⟨22,.lst [L bh 14 ch],1,true⟩,⟨5,.lst [SV.raw (U8 80)],1,true⟩,⟨3,.lst [I 14],1,true⟩,⟨22,.lst [SV.slc 16 0 1 1],1,true⟩,⟨70,.lst [SV.clo 66 [] [SV.loc 12 0,SV.loc 13 0],SV.clo 66 [] [SV.loc 14 0,SV.loc 15 0],SV.clo 66 [] [SV.loc 17 0,SV.loc 18 0]],3,true⟩,⟨24,.lst [],0,false⟩,⟨24,.lst [I n_1,L base len cap_1],2,true⟩,⟨24,.vals (List.take (n*2) (List.flatMap rowV rs)++List.take ((toN none l'-1)*2) cs),tot',true⟩],E:=E'_1:St })))))
 delta WI NI U8 VS no8 no32
 obtain ⟨q1,b2,c2,q2,q3⟩:=X.load (by omega)
 have pl1:p.length=pl:=H.hp.2.1
 have pl2:=H.hpl
 have yl:ys.length=14:=hh.2.1
 have kw:Mem.le E E:=Mem.le_refl E
 refine ⟨rfl,req_intro q1 ⟨128,b2,8448,c2,q2,_,_,q3,H.hp,validB,by decide,by omega,fun b3 l3 c3 m3 E3 k3 r3 F3=>⟨k3,?_⟩⟩⟩
 have r3:progF 128 (lastM ms).2 ((32:Nat):Int) p=(m3,0):=r3
 obtain ⟨p1,p2,p3,p4⟩:=prog_li X.l1 X.l2 (by first|omega|(show 32+1<=8448;omega)) r3
 refine X.app (mt_ kw k3) F3 p1 (by first|omega|(show N+1<=_;omega)) p2 p3 p4 fun base' E' cs cap' tot' rs' e1 e2 e3=>?_
 rw [e1]
 exact Lp_re [some 0,some 1,some 2,some 3,some 4,some 5,some 6,some 7,some 8,some 9,some 10,some 11,some 12,some 13,some 14,some 15,some 16,some 17,some 18,some 19,some 22] (h E' _ cap' tot' rs' (mt_ kw (mt_ k3 e2)) e3) (wkG mr_ (h6:=(by repeat' first|exact True.intro|exact rfl|exact Or.inl rfl|exact (by decide:9<23)|refine And.intro ?_ ?_)))
theorem lw_0 {s v:Int} {b b0 b1 pb:Option Addr} {l c pl pc:Nat} {z p:List Int} {rc:Rc} {bh:Option Addr} {ch:Nat} {n cap tot N:Nat} {ys:List Int} {rs:List FRow} {ms:List (Int×List Int)} {KK:KT} (hC:CxOK (CI s b l c rc)) (H:HI E s v b b0 b1 pb l c pl pc z p) (hh:Bs E bh 14 ch ys) (X:LI E rs ms n cap tot N) (hN:N<=50000)
  (h:∀ (E':Mem) (n' cap' tot':Nat) (rs':List FRow),Mem.le E E'->LI E' rs' (progL (progL (progL ms 32 p) 0 ys) 14 [80]) n' cap' tot' (N+5000)->KK (.tup []) [⟨24,.lst [I s,L b l c],2,true⟩,⟨3,.lst [I v],1,true⟩,⟨22,.lst [L pb pl pc],1,true⟩,⟨56,.lst [L b0 4224 4224,L b1 4224 4224],2,true⟩,⟨3,.lst [I 0],1,true⟩,⟨3,.lst [I 0],1,true⟩,⟨24,.lst [I s,L b l c],2,true⟩,⟨33,.lst [L none 0 0],1,true⟩,⟨26,.lst [I 0],1,true⟩,⟨24,.lst [],0,false⟩,⟨33,.lst [.slc 12 0 n' cap'],1,true⟩,⟨68,.lst [.raw (.func (.yield rc.l) #[] #[])],1,true⟩,⟨24,.vals (rs'.flatMap rowV),tot',true⟩] E'):
  Lp (CI s b l c rc) 8 Try.f43 [1,1,1,1,0] 11 KK (shW_0_0 s v b b0 b1 pb l c pl pc rc bh ch n cap tot rs E):=by
 have pl1:p.length=pl:=H.hp.2.1
 have pl2:=H.hpl
 have yl:ys.length=14:=hh.2.1
 refine Lp_ind (ι:=Unit) hC (fun _=>shW_0_0 s v b b0 b1 pb l c pl pc rc bh ch n cap tot rs E) (fun _=>0) (fun _ _=>rw_0_0 H hh X (by omega) fun E1 n1 cap1 tot1 rs1 k1 X1=>?_) ()
 refine Lp_ind (ι:=Unit) hC (fun _=>shW_0_1 s v b b0 b1 pb l c pl pc rc bh ch n1 cap1 tot1 rs1 E1) (fun _=>0) (fun _ _=>rw_0_1 (H.mono k1) (hh.mono k1) X1 (by omega) fun E2 n2 cap2 tot2 rs2 k2 X2=>?_) ()
 have k2:=mt_ k1 k2
 refine Lp_ind (ι:=Unit) hC (fun _=>shW_0_2 s v b b0 b1 pb l c pl pc rc bh ch n2 cap2 tot2 rs2 E2) (fun _=>0) (fun _ _=>rw_0_2 (H.mono k2) (hh.mono k2) X2 (by omega) fun E3 n3 cap3 tot3 rs3 k3 X3=>?_) ()
 have k3:=mt_ k2 k3
 have X3b:=X3.hb.2
 have e80:[(80:Int)].length=1:=rfl
 refine Lp_ind (ι:=Unit) hC (fun _=>shX_0 s v b b0 b1 pb l c pl pc rc n3 cap3 tot3 rs3 E3) (fun _=>0) (fun _ _=>rx_0 (h E3 n3 cap3 tot3 rs3 k3 ⟨X3.R,X3.hn,X3.hc,⟨X3.hb.1,by omega⟩,X3.l1,X3.l2⟩)) ()
theorem y5_0 {s v:Int} {b b0 b1 pb:Option Addr} {l c pl pc:Nat} {z p:List Int} {rc:Rc} {n cap tot N:Nat} {rs:List FRow} {ms:List (Int×List Int)} {KK:KT} (hC:CxOK (CI s b l c rc)) (H:HI E s v b b0 b1 pb l c pl pc z p) (X:LI E rs ms n cap tot N) (hN:N<=50000)
  (h:∀ (E':Mem) (n' cap' tot':Nat) (rs':List FRow),Mem.le E E'->LI E' rs' (progL (progL (progL ms 32 p) 0 (hdrF v p)) 14 [80]) n' cap' tot' (N+5000)->KK (.tup []) [⟨24,.lst [I s,L b l c],2,true⟩,⟨3,.lst [I v],1,true⟩,⟨22,.lst [L pb pl pc],1,true⟩,⟨56,.lst [L b0 4224 4224,L b1 4224 4224],2,true⟩,⟨3,.lst [I 0],1,true⟩,⟨3,.lst [I 0],1,true⟩,⟨24,.lst [I s,L b l c],2,true⟩,⟨33,.lst [L none 0 0],1,true⟩,⟨26,.lst [I 0],1,true⟩,⟨24,.lst [],0,false⟩,⟨33,.lst [.slc 12 0 n' cap'],1,true⟩,⟨68,.lst [.raw (.func (.yield rc.l) #[] #[])],1,true⟩,⟨24,.vals (rs'.flatMap rowV),tot',true⟩] E'):
  Pc (CI s b l c rc) 8 Try.f43 [1,1,1] 11 KK (shA_0 s v b b0 b1 pb l c pl pc rc n cap tot rs E):=by
 refine sm_ (?_:(Mem.le E E/\(∃ (zs:List Int),Bs E pb pl pc zs/\(0:Int)<=v/\v<=(1000000000:Int)/\pl<=4096/\∀ (b':Option Addr) (l' c':Nat) (ys:List Int) (E':Mem),Mem.le E E'->Hyp (ys=hidH v zs)->Bs E' b' l' c' ys->Mem.le E E'/\(Mem.le E' E'/\Lp (CI s b l c rc) 8 Try.f43 [1,1,1,1,0] 11 KK { fr:=some (SV.raw (Value.func (Fn.yield rc.l) #[] #[]))::oc 3 0::oc 4 0::oc 5 0::oc 2 0::oc 1 0::oc 11 0::no16 (no8 (no4 (oI 0::oI 32::oL pb pl pc::some (SV.clo 66 [] [SV.loc 13 0,SV.loc 14 0])::oI 0::oI v::oL pb pl pc::oL b' l' c'::some (SV.clo 66 [] [SV.loc 15 0,SV.loc 16 0])::oI 0::oI 14::os 17 0 1 1::some (SV.clo 66 [] [SV.loc 18 0,SV.loc 19 0])::os 20 0 3 3::oI 3::oI 0::no8 []))),bx:=[(⟨24,.lst [I s,L b l c],2,true⟩:Box),⟨3,.lst [I v],1,true⟩,⟨22,.lst [L pb pl pc],1,true⟩,⟨56,.lst [L b0 4224 4224,L b1 4224 4224],2,true⟩,⟨3,.lst [I 0],1,true⟩,⟨3,.lst [I 0],1,true⟩,⟨24,.lst [I s,L b l c],2,true⟩,⟨33,.lst [L none 0 0],1,true⟩,⟨26,.lst [I 0],1,true⟩,⟨24,.lst [],0,false⟩,⟨33,.lst [SV.slc 12 0 n cap],1,true⟩,⟨68,.lst [SV.raw (Value.func (Fn.yield rc.l) #[] #[])],1,true⟩,⟨24,.vals (List.flatMap rowV rs),tot,true⟩,⟨3,.lst [I 32],1,true⟩,⟨22,.lst [L pb pl pc],1,true⟩,⟨3,.lst [I 0],1,true⟩,⟨22,.lst [L b' l' c'],1,true⟩,⟨5,.lst [SV.raw (U8 80)],1,true⟩,⟨3,.lst [I 14],1,true⟩,⟨22,.lst [SV.slc 17 0 1 1],1,true⟩,⟨70,.lst [SV.clo 66 [] [SV.loc 13 0,SV.loc 14 0],SV.clo 66 [] [SV.loc 15 0,SV.loc 16 0],SV.clo 66 [] [SV.loc 18 0,SV.loc 19 0]],3,true⟩],E:=E':St })/\Mem.le E' E'/\Lp (CI s b l c rc) 8 Try.f43 [1,1,1,1,0] 11 KK { fr:=some (SV.raw (Value.func (Fn.yield rc.l) #[] #[]))::oc 3 0::oc 4 0::oc 5 0::oc 2 0::oc 1 0::oc 11 0::no16 (no8 (no4 (oI 0::oI 32::oL pb pl pc::some (SV.clo 66 [] [SV.loc 13 0,SV.loc 14 0])::oI 0::oI v::oL pb pl pc::oL b' l' c'::some (SV.clo 66 [] [SV.loc 16 0,SV.loc 17 0])::oI 0::oI 14::os 15 0 1 1::some (SV.clo 66 [] [SV.loc 18 0,SV.loc 19 0])::os 20 0 3 3::oI 3::oI 0::no8 []))),bx:=[(⟨24,.lst [I s,L b l c],2,true⟩:Box),⟨3,.lst [I v],1,true⟩,⟨22,.lst [L pb pl pc],1,true⟩,⟨56,.lst [L b0 4224 4224,L b1 4224 4224],2,true⟩,⟨3,.lst [I 0],1,true⟩,⟨3,.lst [I 0],1,true⟩,⟨24,.lst [I s,L b l c],2,true⟩,⟨33,.lst [L none 0 0],1,true⟩,⟨26,.lst [I 0],1,true⟩,⟨24,.lst [],0,false⟩,⟨33,.lst [SV.slc 12 0 n cap],1,true⟩,⟨68,.lst [SV.raw (Value.func (Fn.yield rc.l) #[] #[])],1,true⟩,⟨24,.vals (List.flatMap rowV rs),tot,true⟩,⟨3,.lst [I 32],1,true⟩,⟨22,.lst [L pb pl pc],1,true⟩,⟨5,.lst [SV.raw (U8 80)],1,true⟩,⟨3,.lst [I 0],1,true⟩,⟨22,.lst [L b' l' c'],1,true⟩,⟨3,.lst [I 14],1,true⟩,⟨22,.lst [SV.slc 15 0 1 1],1,true⟩,⟨70,.lst [SV.clo 66 [] [SV.loc 13 0,SV.loc 14 0],SV.clo 66 [] [SV.loc 16 0,SV.loc 17 0],SV.clo 66 [] [SV.loc 18 0,SV.loc 19 0]],3,true⟩],E:=E':St })/\∃ (zs:List Int),Bs E pb pl pc zs/\(0:Int)<=v/\v<=(1000000000:Int)/\pl<=4096/\∀ (b':Option Addr) (l' c':Nat) (ys:List Int) (E':Mem),Mem.le E E'->Hyp (ys=hidH v zs)->Bs E' b' l' c' ys->Mem.le E E'/\Mem.le E' E'/\Lp (CI s b l c rc) 8 Try.f43 [1,1,1,1,0] 11 KK { fr:=some (SV.raw (Value.func (Fn.yield rc.l) #[] #[]))::oc 3 0::oc 4 0::oc 5 0::oc 2 0::oc 1 0::oc 11 0::no16 (no8 (no4 (oI 0::oI 32::oL pb pl pc::some (SV.clo 66 [] [SV.loc 13 0,SV.loc 14 0])::oI 0::oI v::oL pb pl pc::oL b' l' c'::some (SV.clo 66 [] [SV.loc 16 0,SV.loc 17 0])::oI 0::oI 14::os 15 0 1 1::some (SV.clo 66 [] [SV.loc 18 0,SV.loc 19 0])::os 20 0 3 3::oI 3::oI 0::no8 []))),bx:=[(⟨24,.lst [I s,L b l c],2,true⟩:Box),⟨3,.lst [I v],1,true⟩,⟨22,.lst [L pb pl pc],1,true⟩,⟨56,.lst [L b0 4224 4224,L b1 4224 4224],2,true⟩,⟨3,.lst [I 0],1,true⟩,⟨3,.lst [I 0],1,true⟩,⟨24,.lst [I s,L b l c],2,true⟩,⟨33,.lst [L none 0 0],1,true⟩,⟨26,.lst [I 0],1,true⟩,⟨24,.lst [],0,false⟩,⟨33,.lst [SV.slc 12 0 n cap],1,true⟩,⟨68,.lst [SV.raw (Value.func (Fn.yield rc.l) #[] #[])],1,true⟩,⟨24,.vals (List.flatMap rowV rs),tot,true⟩,⟨3,.lst [I 32],1,true⟩,⟨22,.lst [L pb pl pc],1,true⟩,⟨5,.lst [SV.raw (U8 80)],1,true⟩,⟨3,.lst [I 0],1,true⟩,⟨22,.lst [L b' l' c'],1,true⟩,⟨3,.lst [I 14],1,true⟩,⟨22,.lst [SV.slc 15 0 1 1],1,true⟩,⟨70,.lst [SV.clo 66 [] [SV.loc 13 0,SV.loc 14 0],SV.clo 66 [] [SV.loc 16 0,SV.loc 17 0],SV.clo 66 [] [SV.loc 18 0,SV.loc 19 0]],3,true⟩],E:=E':St })/\Mem.le E E/\∃ (zs:List Int),Bs E pb pl pc zs/\(0:Int)<=v/\v<=(1000000000:Int)/\pl<=4096/\∀ (b':Option Addr) (l' c':Nat) (ys:List Int) (E':Mem),Mem.le E E'->Hyp (ys=hidH v zs)->Bs E' b' l' c' ys->Mem.le E E'/\Mem.le E' E'/\Lp (CI s b l c rc) 8 Try.f43 [1,1,1,1,0] 11 KK { fr:=some (SV.raw (Value.func (Fn.yield rc.l) #[] #[]))::oc 3 0::oc 4 0::oc 5 0::oc 2 0::oc 1 0::oc 11 0::no16 (no8 (no4 (oI 0::oI 32::oL pb pl pc::some (SV.clo 66 [] [SV.loc 14 0,SV.loc 15 0])::oI 0::oI v::oL pb pl pc::oL b' l' c'::some (SV.clo 66 [] [SV.loc 16 0,SV.loc 17 0])::oI 0::oI 14::os 13 0 1 1::some (SV.clo 66 [] [SV.loc 18 0,SV.loc 19 0])::os 20 0 3 3::oI 3::oI 0::no8 []))),bx:=[(⟨24,.lst [I s,L b l c],2,true⟩:Box),⟨3,.lst [I v],1,true⟩,⟨22,.lst [L pb pl pc],1,true⟩,⟨56,.lst [L b0 4224 4224,L b1 4224 4224],2,true⟩,⟨3,.lst [I 0],1,true⟩,⟨3,.lst [I 0],1,true⟩,⟨24,.lst [I s,L b l c],2,true⟩,⟨33,.lst [L none 0 0],1,true⟩,⟨26,.lst [I 0],1,true⟩,⟨24,.lst [],0,false⟩,⟨33,.lst [SV.slc 12 0 n cap],1,true⟩,⟨68,.lst [SV.raw (Value.func (Fn.yield rc.l) #[] #[])],1,true⟩,⟨24,.vals (List.flatMap rowV rs),tot,true⟩,⟨5,.lst [SV.raw (U8 80)],1,true⟩,⟨3,.lst [I 32],1,true⟩,⟨22,.lst [L pb pl pc],1,true⟩,⟨3,.lst [I 0],1,true⟩,⟨22,.lst [L b' l' c'],1,true⟩,⟨3,.lst [I 14],1,true⟩,⟨22,.lst [SV.slc 13 0 1 1],1,true⟩,⟨70,.lst [SV.clo 66 [] [SV.loc 14 0,SV.loc 15 0],SV.clo 66 [] [SV.loc 16 0,SV.loc 17 0],SV.clo 66 [] [SV.loc 18 0,SV.loc 19 0]],3,true⟩],E:=E':St })
 delta U8 no4 no8 no16
 have fin:∀ {b':Option Addr} {l' c':Nat} {ys:List Int} {E':Mem},Mem.le E E'->Hyp (ys=hidH v p)->Bs E' b' l' c' ys->l'=14/\Lp (CI s b l c rc) 8 Try.f43 [1,1,1,1,0] 11 KK (shW_0_0 s v b b0 b1 pb l c pl pc rc b' c' n cap tot rs E'):=by
  intro b' l' c' ys E' k1 r1 B1
  have r1:ys=hidH v p:=r1
  rw [hidH_eq] at r1
  subst r1
  have e:l'=14:=by rw [← B1.2.1,hdrF_len]
  subst e
  exact ⟨rfl,lw_0 hC (H.mono k1) B1 (X.mono k1) hN fun E2 n' cap' tot' rs' k2=>h E2 n' cap' tot' rs' (mt_ k1 k2)⟩
 have hv:=H.hv
 have hpl:=H.hpl
 refine ⟨⟨mr_,⟨p,H.hp,hv.1,hv.2,hpl,fun b' l' c' ys E' k r B=>?_⟩,⟨p,H.hp,hv.1,hv.2,hpl,fun b' l' c' ys E' k r B=>?_⟩⟩,mr_,p,H.hp,hv.1,hv.2,hpl,fun b' l' c' ys E' k r B=>?_⟩
 ·obtain ⟨e,L1⟩:=fin k r B
  subst e
  refine ⟨k,⟨mr_,?_⟩,mr_,?_⟩
  ·exact Lp_re [some 0,some 1,some 2,some 3,some 4,some 5,some 6,some 7,some 8,some 9,some 10,some 11,some 13,some 14,some 15,some 16,some 17,some 18,some 19,some 20,some 12] L1 (wkG mr_ (h6:=(by repeat' first|exact True.intro|exact rfl|exact Or.inl rfl|exact (by decide:9<21)|refine And.intro ?_ ?_)))
  ·exact Lp_re [some 0,some 1,some 2,some 3,some 4,some 5,some 6,some 7,some 8,some 9,some 10,some 11,some 13,some 14,some 16,some 17,some 15,some 18,some 19,some 20,some 12] L1 (wkG mr_ (h6:=(by repeat' first|exact True.intro|exact rfl|exact Or.inl rfl|exact (by decide:9<21)|refine And.intro ?_ ?_)))
 ·obtain ⟨e,L1⟩:=fin k r B
  subst e
  refine ⟨k,mr_,?_⟩
  exact Lp_re [some 0,some 1,some 2,some 3,some 4,some 5,some 6,some 7,some 8,some 9,some 10,some 11,some 13,some 14,some 16,some 17,some 15,some 18,some 19,some 20,some 12] L1 (wkG mr_ (h6:=(by repeat' first|exact True.intro|exact rfl|exact Or.inl rfl|exact (by decide:9<21)|refine And.intro ?_ ?_)))
 ·obtain ⟨e,L1⟩:=fin k r B
  subst e
  refine ⟨k,mr_,?_⟩
  exact Lp_re [some 0,some 1,some 2,some 3,some 4,some 5,some 6,some 7,some 8,some 9,some 10,some 11,some 14,some 15,some 16,some 17,some 13,some 18,some 19,some 20,some 12] L1 (wkG mr_ (h6:=(by repeat' first|exact True.intro|exact rfl|exact Or.inl rfl|exact (by decide:9<21)|refine And.intro ?_ ?_)))
def shW_1_0 (s v:Int) (b b0 b1 pb:Option Addr) (l c pl pc:Nat) (rc:Rc) (bh:Option Addr) (ch:Nat) (n cap tot:Nat) (rs:List FRow) (E:Mem):St:=⟨[some (.raw (.func (.yield rc.l) #[] #[])),oc 3 0,oc 4 0,oc 5 0,oc 2 0,oc 1 0,oc 11 0]++List.replicate 41 none++[os 19 0 3 3,oI 3,oI 0]++List.replicate 8 none,[⟨24,.lst [I s,L b l c],2,true⟩,⟨3,.lst [I v],1,true⟩,⟨22,.lst [L pb pl pc],1,true⟩,⟨56,.lst [L b0 4224 4224,L b1 4224 4224],2,true⟩,⟨3,.lst [I 1],1,true⟩,⟨3,.lst [I 4224],1,true⟩,⟨24,.lst [I s,L b l c],2,true⟩,⟨33,.lst [L none 0 0],1,true⟩,⟨26,.lst [I 0],1,true⟩,⟨24,.lst [],0,false⟩,⟨33,.lst [.slc 20 0 n cap],1,true⟩,⟨68,.lst [.raw (.func (.yield rc.l) #[] #[])],1,true⟩,⟨3,.lst [I 4256],1,true⟩,⟨22,.lst [L pb pl pc],1,true⟩,⟨3,.lst [I 4224],1,true⟩,⟨22,.lst [L bh 14 ch],1,true⟩,⟨5,.lst [.raw (.int .u8 80)],1,true⟩,⟨3,.lst [I 4238],1,true⟩,⟨22,.lst [.slc 16 0 1 1],1,true⟩,⟨70,.lst [.clo 66 [] [.loc 12 0,.loc 13 0],.clo 66 [] [.loc 14 0,.loc 15 0],.clo 66 [] [.loc 17 0,.loc 18 0]],3,true⟩,⟨24,.vals (rs.flatMap rowV),tot,true⟩],E⟩
def shW_1_1 (s v:Int) (b b0 b1 pb:Option Addr) (l c pl pc:Nat) (rc:Rc) (bh:Option Addr) (ch:Nat) (n cap tot:Nat) (rs:List FRow) (E:Mem):St:=⟨[some (.raw (.func (.yield rc.l) #[] #[])),oc 3 0,oc 4 0,oc 5 0,oc 2 0,oc 1 0,oc 11 0]++List.replicate 41 none++[os 19 0 3 3,oI 3,oI 1]++List.replicate 8 none,[⟨24,.lst [I s,L b l c],2,true⟩,⟨3,.lst [I v],1,true⟩,⟨22,.lst [L pb pl pc],1,true⟩,⟨56,.lst [L b0 4224 4224,L b1 4224 4224],2,true⟩,⟨3,.lst [I 1],1,true⟩,⟨3,.lst [I 4224],1,true⟩,⟨24,.lst [I s,L b l c],2,true⟩,⟨33,.lst [L none 0 0],1,true⟩,⟨26,.lst [I 0],1,true⟩,⟨24,.lst [],0,false⟩,⟨33,.lst [.slc 20 0 n cap],1,true⟩,⟨68,.lst [.raw (.func (.yield rc.l) #[] #[])],1,true⟩,⟨3,.lst [I 4256],1,true⟩,⟨22,.lst [L pb pl pc],1,true⟩,⟨3,.lst [I 4224],1,true⟩,⟨22,.lst [L bh 14 ch],1,true⟩,⟨5,.lst [.raw (.int .u8 80)],1,true⟩,⟨3,.lst [I 4238],1,true⟩,⟨22,.lst [.slc 16 0 1 1],1,true⟩,⟨70,.lst [.clo 66 [] [.loc 12 0,.loc 13 0],.clo 66 [] [.loc 14 0,.loc 15 0],.clo 66 [] [.loc 17 0,.loc 18 0]],3,true⟩,⟨24,.vals (rs.flatMap rowV),tot,true⟩],E⟩
def shW_1_2 (s v:Int) (b b0 b1 pb:Option Addr) (l c pl pc:Nat) (rc:Rc) (bh:Option Addr) (ch:Nat) (n cap tot:Nat) (rs:List FRow) (E:Mem):St:=⟨[some (.raw (.func (.yield rc.l) #[] #[])),oc 3 0,oc 4 0,oc 5 0,oc 2 0,oc 1 0,oc 11 0]++List.replicate 41 none++[os 19 0 3 3,oI 3,oI 2]++List.replicate 8 none,[⟨24,.lst [I s,L b l c],2,true⟩,⟨3,.lst [I v],1,true⟩,⟨22,.lst [L pb pl pc],1,true⟩,⟨56,.lst [L b0 4224 4224,L b1 4224 4224],2,true⟩,⟨3,.lst [I 1],1,true⟩,⟨3,.lst [I 4224],1,true⟩,⟨24,.lst [I s,L b l c],2,true⟩,⟨33,.lst [L none 0 0],1,true⟩,⟨26,.lst [I 0],1,true⟩,⟨24,.lst [],0,false⟩,⟨33,.lst [.slc 20 0 n cap],1,true⟩,⟨68,.lst [.raw (.func (.yield rc.l) #[] #[])],1,true⟩,⟨3,.lst [I 4256],1,true⟩,⟨22,.lst [L pb pl pc],1,true⟩,⟨3,.lst [I 4224],1,true⟩,⟨22,.lst [L bh 14 ch],1,true⟩,⟨5,.lst [.raw (.int .u8 80)],1,true⟩,⟨3,.lst [I 4238],1,true⟩,⟨22,.lst [.slc 16 0 1 1],1,true⟩,⟨70,.lst [.clo 66 [] [.loc 12 0,.loc 13 0],.clo 66 [] [.loc 14 0,.loc 15 0],.clo 66 [] [.loc 17 0,.loc 18 0]],3,true⟩,⟨24,.vals (rs.flatMap rowV),tot,true⟩],E⟩
def shX_1 (s v:Int) (b b0 b1 pb:Option Addr) (l c pl pc:Nat) (rc:Rc) (n cap tot:Nat) (rs:List FRow) (E:Mem):St:=⟨[some (.raw (.func (.yield rc.l) #[] #[])),oc 3 0,oc 4 0,oc 5 0,oc 2 0,oc 1 0,oc 11 0]++List.replicate 41 none++[none,oI 3,oI 3]++List.replicate 8 none,[⟨24,.lst [I s,L b l c],2,true⟩,⟨3,.lst [I v],1,true⟩,⟨22,.lst [L pb pl pc],1,true⟩,⟨56,.lst [L b0 4224 4224,L b1 4224 4224],2,true⟩,⟨3,.lst [I 1],1,true⟩,⟨3,.lst [I 4224],1,true⟩,⟨24,.lst [I s,L b l c],2,true⟩,⟨33,.lst [L none 0 0],1,true⟩,⟨26,.lst [I 0],1,true⟩,⟨24,.lst [],0,false⟩,⟨33,.lst [.slc 12 0 n cap],1,true⟩,⟨68,.lst [.raw (.func (.yield rc.l) #[] #[])],1,true⟩,⟨24,.vals (rs.flatMap rowV),tot,true⟩],E⟩
theorem rx_1 {s v:Int} {b b0 b1 pb:Option Addr} {l c pl pc:Nat} {rc:Rc} {n cap tot:Nat} {rs:List FRow} {KK:KT} (h:KK (.tup []) [⟨24,.lst [I s,L b l c],2,true⟩,⟨3,.lst [I v],1,true⟩,⟨22,.lst [L pb pl pc],1,true⟩,⟨56,.lst [L b0 4224 4224,L b1 4224 4224],2,true⟩,⟨3,.lst [I 1],1,true⟩,⟨3,.lst [I 4224],1,true⟩,⟨24,.lst [I s,L b l c],2,true⟩,⟨33,.lst [L none 0 0],1,true⟩,⟨26,.lst [I 0],1,true⟩,⟨24,.lst [],0,false⟩,⟨33,.lst [.slc 12 0 n cap],1,true⟩,⟨68,.lst [.raw (.func (.yield rc.l) #[] #[])],1,true⟩,⟨24,.vals (rs.flatMap rowV),tot,true⟩] E):Rnd (CI s b l c rc) 8 Try.f43 [1,1,1,1,0] 11 KK (shX_1 s v b b0 b1 pb l c pl pc rc n cap tot rs E):=by
 refine sm_ (?_:KK (SV.tup []) [⟨24,Row.lst [I s,L b l c],2,true⟩,⟨3,Row.lst [I v],1,true⟩,⟨22,Row.lst [L pb pl pc],1,true⟩,⟨56,Row.lst [L b0 4224 4224,L b1 4224 4224],2,true⟩,⟨3,Row.lst [I (1:Int)],1,true⟩,⟨3,Row.lst [I (4224:Int)],1,true⟩,⟨24,Row.lst [I s,L b l c],2,true⟩,⟨33,Row.lst [L none 0 0],1,true⟩,⟨26,Row.lst [I (0:Int)],1,true⟩,⟨24,Row.lst [],0,false⟩,⟨33,Row.lst [SV.slc 12 0 n cap],1,true⟩,⟨68,Row.lst [SV.raw (Value.func (Fn.yield rc.l) #[] #[])],1,true⟩,⟨24,Row.vals (List.flatMap rowV rs),tot,true⟩] E)
 exact h
theorem rw_1_2 {s v:Int} {b b0 b1 pb:Option Addr} {l c pl pc:Nat} {z p:List Int} {rc:Rc} {bh:Option Addr} {ch:Nat} {n cap tot N:Nat} {ys:List Int} {rs:List FRow} {ms:List (Int×List Int)} {KK:KT} (H:HI E s v b b0 b1 pb l c pl pc z p) (hh:Bs E bh 14 ch ys) (X:LI E rs ms n cap tot N) (hN:N<=60000)
  (h:∀ (E':Mem) (n' cap' tot':Nat) (rs':List FRow),Mem.le E E'->LI E' rs' (progL ms 4238 [80]) n' cap' tot' (N+[80].length)->Lp (CI s b l c rc) 8 Try.f43 [1,1,1,1,0] 11 KK (shX_1 s v b b0 b1 pb l c pl pc rc n' cap' tot' rs' E')):
  Rnd (CI s b l c rc) 8 Try.f43 [1,1,1,1,0] 11 KK (shW_1_2 s v b b0 b1 pb l c pl pc rc bh ch n cap tot rs E):=by
 refine sm_ (?_:rc.l=rc.l/\req ((0:Int)<=WI ((NI n)-1)/\WI ((NI n)-1)<(NI n)) (∃ (n_1:Int),∃ (base:Option Addr),∃ (len:Nat),∃ (cap_1:Nat),LoadV CH.P 24 (List.flatMap rowV rs) (0+Int.toNat (WI ((NI n)-1))*2) (SV.agg [I n_1,L base len cap_1])/\∀ (base_1:Option Addr) (E':Mem),Mem.le E E'->WinE E' base_1 [U8 80]->∃ (zs:List Int),∃ (ds:List Int),Bs E' base len cap_1 zs/\Bs E' (Option.map (fun (x:Addr)=>Addr.add x 0) base_1) 1 1 ds/\validF n_1 len/\(0:Int)<=(4238:Int)/\4239<=(NI len)/\∀ (b':Option Addr) (l' c':Nat) (ms:List (Int×List Int)) (E'_1:Mem),Mem.le E' E'_1->Hyp (progF n_1 zs 4238 ds=(ms,(0:Int)))->FL E'_1 b' l' c' ms->req (l'<=c') (req ((0:Int)<=(1:Int)/\1<=(NI (toN none l'))) (∀ (base':Option Addr) (E':Mem),Mem.le E'_1 E'->(∀ (cs:List Value),E'_1 (VS b' l' c') cs->E' (VS base' (toN none l'-1) (toN none c'-1)) (List.take ((toN none l'-1)*2) (List.drop 2 cs)))->Option.isNone base'=Option.isNone b'->∃ (cs:List Value),(cs=[]\/E' (VS base' (toN none l'-1) (toN none c'-1)) cs)/\(toN none l'-1)*2<=List.length cs/\(∀ (x:Value),List.Mem x cs->Value.oneCell' x=true)/\n*2<=List.length (Row.cells (Row.vals (List.flatMap rowV rs)))/\cap*2<=tot/\n<=cap/\req ((n+(toN none l'-1))*32<=140737488355328) (∀ (cap' tot':Nat),n+(toN none l'-1)<=cap'->cap'*2<=tot'->Lp (CI s b l c rc) 8 Try.f43 [1,1,1,1,0] 11 KK { fr:=some (SV.raw (Value.func (Fn.yield rc.l) #[] #[]))::oc 3 0::oc 4 0::oc 5 0::oc 2 0::oc 1 0::oc 11 0::no32 (no8 (none::(os 19 0 3 3::oI 3::oI 3::no8 []))),bx:=[(⟨24,.lst [I s,L b l c],2,true⟩:Box),⟨3,.lst [I v],1,true⟩,⟨22,.lst [L pb pl pc],1,true⟩,⟨56,.lst [L b0 4224 4224,L b1 4224 4224],2,true⟩,⟨3,.lst [I 1],1,true⟩,⟨3,.lst [I 4224],1,true⟩,⟨24,.lst [I s,L b l c],2,true⟩,⟨33,.lst [L none 0 0],1,true⟩,⟨26,.lst [I 0],1,true⟩,⟨24,.lst [],0,false⟩,⟨33,.lst [SV.slc 22 0 (n+(toN none l'-1)) cap'],1,true⟩,⟨68,.lst [SV.raw (Value.func (Fn.yield rc.l) #[] #[])],1,true⟩,⟨3,.lst [I 4256],1,true⟩,⟨22,.lst [L pb pl pc],1,true⟩,⟨3,.lst [I 4224],1,true⟩,⟨22,.lst [L bh 14 ch],1,true⟩,⟨5,.lst [SV.raw (U8 80)],1,false⟩,⟨3,.lst [I 4238],1,true⟩,⟨22,.lst [L (Option.map (fun (x:Addr)=>Addr.add x 0) base_1) 1 1],1,true⟩,⟨70,.lst [SV.clo 66 [] [SV.loc 12 0,SV.loc 13 0],SV.clo 66 [] [SV.loc 14 0,SV.loc 15 0],SV.clo 66 [] [SV.loc 17 0,SV.loc 18 0]],3,true⟩,⟨24,.lst [],0,false⟩,⟨24,.lst [I n_1,L base len cap_1],2,true⟩,⟨24,.vals (List.take (n*2) (List.flatMap rowV rs)++List.take ((toN none l'-1)*2) cs),tot',true⟩],E:=E':St })))))
 delta WI NI U8 VS no8 no32
 obtain ⟨q1,b2,c2,q2,q3⟩:=X.load (by omega)
 have pl1:p.length=pl:=H.hp.2.1
 have pl2:=H.hpl
 have yl:ys.length=14:=hh.2.1
 refine ⟨rfl,req_intro q1 ⟨128,b2,8448,c2,q2,fun bw Ew kw ww=>⟨_,[80],q3.mono kw,Bs.win (zs:=[80]) ww rfl rfl (Nat.le_refl _) (by decide),validB,by decide,by decide,fun b3 l3 c3 m3 E3 k3 r3 F3=>?_⟩⟩⟩
 have r3:progF 128 (lastM ms).2 ((4238:Nat):Int) [80]=(m3,0):=r3
 obtain ⟨p1,p2,p3,p4⟩:=prog_li X.l1 X.l2 (by first|omega|(show 4238+1<=8448;omega)) r3
 refine X.app (mt_ kw k3) F3 p1 (by first|omega|(show N+1<=_;omega)) p2 p3 p4 fun base' E' cs cap' tot' rs' e1 e2 e3=>?_
 rw [e1]
 exact Lp_re [some 0,some 1,some 2,some 3,some 4,some 5,some 6,some 7,some 8,some 9,some 10,some 11,some 22] (h E' _ cap' tot' rs' (mt_ kw (mt_ k3 e2)) e3) (wkG mr_ (h6:=(by repeat' first|exact True.intro|exact rfl|exact Or.inl rfl|exact (by decide:9<23)|refine And.intro ?_ ?_)))
theorem rw_1_1 {s v:Int} {b b0 b1 pb:Option Addr} {l c pl pc:Nat} {z p:List Int} {rc:Rc} {bh:Option Addr} {ch:Nat} {n cap tot N:Nat} {ys:List Int} {rs:List FRow} {ms:List (Int×List Int)} {KK:KT} (H:HI E s v b b0 b1 pb l c pl pc z p) (hh:Bs E bh 14 ch ys) (X:LI E rs ms n cap tot N) (hN:N<=60000)
  (h:∀ (E':Mem) (n' cap' tot':Nat) (rs':List FRow),Mem.le E E'->LI E' rs' (progL ms 4224 ys) n' cap' tot' (N+ys.length)->Lp (CI s b l c rc) 8 Try.f43 [1,1,1,1,0] 11 KK (shW_1_2 s v b b0 b1 pb l c pl pc rc bh ch n' cap' tot' rs' E')):
  Rnd (CI s b l c rc) 8 Try.f43 [1,1,1,1,0] 11 KK (shW_1_1 s v b b0 b1 pb l c pl pc rc bh ch n cap tot rs E):=by
 refine sm_ (?_:rc.l=rc.l/\req ((0:Int)<=WI ((NI n)-1)/\WI ((NI n)-1)<(NI n)) (∃ (n_1:Int),∃ (base:Option Addr),∃ (len:Nat),∃ (cap_1:Nat),LoadV CH.P 24 (List.flatMap rowV rs) (0+Int.toNat (WI ((NI n)-1))*2) (SV.agg [I n_1,L base len cap_1])/\∃ (zs:List Int),∃ (ds:List Int),Bs E base len cap_1 zs/\Bs E bh 14 ch ds/\validF n_1 len/\(0:Int)<=(4224:Int)/\4238<=(NI len)/\∀ (b':Option Addr) (l' c':Nat) (ms:List (Int×List Int)) (E':Mem),Mem.le E E'->Hyp (progF n_1 zs 4224 ds=(ms,(0:Int)))->FL E' b' l' c' ms->Mem.le E E'/\req (l'<=c') (req ((0:Int)<=(1:Int)/\1<=(NI (toN none l'))) (∀ (base':Option Addr) (E'_1:Mem),Mem.le E' E'_1->(∀ (cs:List Value),E' (VS b' l' c') cs->E'_1 (VS base' (toN none l'-1) (toN none c'-1)) (List.take ((toN none l'-1)*2) (List.drop 2 cs)))->Option.isNone base'=Option.isNone b'->∃ (cs:List Value),(cs=[]\/E'_1 (VS base' (toN none l'-1) (toN none c'-1)) cs)/\(toN none l'-1)*2<=List.length cs/\(∀ (x:Value),List.Mem x cs->Value.oneCell' x=true)/\n*2<=List.length (Row.cells (Row.vals (List.flatMap rowV rs)))/\cap*2<=tot/\n<=cap/\req ((n+(toN none l'-1))*32<=140737488355328) (∀ (cap' tot':Nat),n+(toN none l'-1)<=cap'->cap'*2<=tot'->Lp (CI s b l c rc) 8 Try.f43 [1,1,1,1,0] 11 KK { fr:=some (SV.raw (Value.func (Fn.yield rc.l) #[] #[]))::oc 3 0::oc 4 0::oc 5 0::oc 2 0::oc 1 0::oc 11 0::no32 (no8 (none::(os 19 0 3 3::oI 3::oI 2::no8 []))),bx:=[(⟨24,.lst [I s,L b l c],2,true⟩:Box),⟨3,.lst [I v],1,true⟩,⟨22,.lst [L pb pl pc],1,true⟩,⟨56,.lst [L b0 4224 4224,L b1 4224 4224],2,true⟩,⟨3,.lst [I 1],1,true⟩,⟨3,.lst [I 4224],1,true⟩,⟨24,.lst [I s,L b l c],2,true⟩,⟨33,.lst [L none 0 0],1,true⟩,⟨26,.lst [I 0],1,true⟩,⟨24,.lst [],0,false⟩,⟨33,.lst [SV.slc 22 0 (n+(toN none l'-1)) cap'],1,true⟩,⟨68,.lst [SV.raw (Value.func (Fn.yield rc.l) #[] #[])],1,true⟩,⟨3,.lst [I 4256],1,true⟩,⟨22,.lst [L pb pl pc],1,true⟩,⟨3,.lst [I 4224],1,true⟩,⟨22,.lst [L bh 14 ch],1,true⟩,⟨5,.lst [SV.raw (U8 80)],1,true⟩,⟨3,.lst [I 4238],1,true⟩,⟨22,.lst [SV.slc 16 0 1 1],1,true⟩,⟨70,.lst [SV.clo 66 [] [SV.loc 12 0,SV.loc 13 0],SV.clo 66 [] [SV.loc 14 0,SV.loc 15 0],SV.clo 66 [] [SV.loc 17 0,SV.loc 18 0]],3,true⟩,⟨24,.lst [],0,false⟩,⟨24,.lst [I n_1,L base len cap_1],2,true⟩,⟨24,.vals (List.take (n*2) (List.flatMap rowV rs)++List.take ((toN none l'-1)*2) cs),tot',true⟩],E:=E'_1:St })))))
 delta WI NI U8 VS no8 no32
 obtain ⟨q1,b2,c2,q2,q3⟩:=X.load (by omega)
 have pl1:p.length=pl:=H.hp.2.1
 have pl2:=H.hpl
 have yl:ys.length=14:=hh.2.1
 have kw:Mem.le E E:=Mem.le_refl E
 refine ⟨rfl,req_intro q1 ⟨128,b2,8448,c2,q2,_,_,q3,hh,validB,by decide,by omega,fun b3 l3 c3 m3 E3 k3 r3 F3=>⟨k3,?_⟩⟩⟩
 have r3:progF 128 (lastM ms).2 ((4224:Nat):Int) ys=(m3,0):=r3
 obtain ⟨p1,p2,p3,p4⟩:=prog_li X.l1 X.l2 (by first|omega|(show 4224+1<=8448;omega)) r3
 refine X.app (mt_ kw k3) F3 p1 (by first|omega|(show N+1<=_;omega)) p2 p3 p4 fun base' E' cs cap' tot' rs' e1 e2 e3=>?_
 rw [e1]
 exact Lp_re [some 0,some 1,some 2,some 3,some 4,some 5,some 6,some 7,some 8,some 9,some 10,some 11,some 12,some 13,some 14,some 15,some 16,some 17,some 18,some 19,some 22] (h E' _ cap' tot' rs' (mt_ kw (mt_ k3 e2)) e3) (wkG mr_ (h6:=(by repeat' first|exact True.intro|exact rfl|exact Or.inl rfl|exact (by decide:9<23)|refine And.intro ?_ ?_)))
theorem rw_1_0 {s v:Int} {b b0 b1 pb:Option Addr} {l c pl pc:Nat} {z p:List Int} {rc:Rc} {bh:Option Addr} {ch:Nat} {n cap tot N:Nat} {ys:List Int} {rs:List FRow} {ms:List (Int×List Int)} {KK:KT} (H:HI E s v b b0 b1 pb l c pl pc z p) (hh:Bs E bh 14 ch ys) (X:LI E rs ms n cap tot N) (hN:N<=60000)
  (h:∀ (E':Mem) (n' cap' tot':Nat) (rs':List FRow),Mem.le E E'->LI E' rs' (progL ms 4256 p) n' cap' tot' (N+p.length)->Lp (CI s b l c rc) 8 Try.f43 [1,1,1,1,0] 11 KK (shW_1_1 s v b b0 b1 pb l c pl pc rc bh ch n' cap' tot' rs' E')):
  Rnd (CI s b l c rc) 8 Try.f43 [1,1,1,1,0] 11 KK (shW_1_0 s v b b0 b1 pb l c pl pc rc bh ch n cap tot rs E):=by
 refine sm_ (?_:rc.l=rc.l/\req ((0:Int)<=WI ((NI n)-1)/\WI ((NI n)-1)<(NI n)) (∃ (n_1:Int),∃ (base:Option Addr),∃ (len:Nat),∃ (cap_1:Nat),LoadV CH.P 24 (List.flatMap rowV rs) (0+Int.toNat (WI ((NI n)-1))*2) (SV.agg [I n_1,L base len cap_1])/\∃ (zs:List Int),∃ (ds:List Int),Bs E base len cap_1 zs/\Bs E pb pl pc ds/\validF n_1 len/\(0:Int)<=(4256:Int)/\(4256:Int)+(NI pl)<=(NI len)/\∀ (b':Option Addr) (l' c':Nat) (ms:List (Int×List Int)) (E':Mem),Mem.le E E'->Hyp (progF n_1 zs 4256 ds=(ms,(0:Int)))->FL E' b' l' c' ms->Mem.le E E'/\req (l'<=c') (req ((0:Int)<=(1:Int)/\1<=(NI (toN none l'))) (∀ (base':Option Addr) (E'_1:Mem),Mem.le E' E'_1->(∀ (cs:List Value),E' (VS b' l' c') cs->E'_1 (VS base' (toN none l'-1) (toN none c'-1)) (List.take ((toN none l'-1)*2) (List.drop 2 cs)))->Option.isNone base'=Option.isNone b'->∃ (cs:List Value),(cs=[]\/E'_1 (VS base' (toN none l'-1) (toN none c'-1)) cs)/\(toN none l'-1)*2<=List.length cs/\(∀ (x:Value),List.Mem x cs->Value.oneCell' x=true)/\n*2<=List.length (Row.cells (Row.vals (List.flatMap rowV rs)))/\cap*2<=tot/\n<=cap/\req ((n+(toN none l'-1))*32<=140737488355328) (∀ (cap' tot':Nat),n+(toN none l'-1)<=cap'->cap'*2<=tot'->Lp (CI s b l c rc) 8 Try.f43 [1,1,1,1,0] 11 KK { fr:=some (SV.raw (Value.func (Fn.yield rc.l) #[] #[]))::oc 3 0::oc 4 0::oc 5 0::oc 2 0::oc 1 0::oc 11 0::no32 (no8 (none::(os 19 0 3 3::oI 3::oI 1::no8 []))),bx:=[(⟨24,.lst [I s,L b l c],2,true⟩:Box),⟨3,.lst [I v],1,true⟩,⟨22,.lst [L pb pl pc],1,true⟩,⟨56,.lst [L b0 4224 4224,L b1 4224 4224],2,true⟩,⟨3,.lst [I 1],1,true⟩,⟨3,.lst [I 4224],1,true⟩,⟨24,.lst [I s,L b l c],2,true⟩,⟨33,.lst [L none 0 0],1,true⟩,⟨26,.lst [I 0],1,true⟩,⟨24,.lst [],0,false⟩,⟨33,.lst [SV.slc 22 0 (n+(toN none l'-1)) cap'],1,true⟩,⟨68,.lst [SV.raw (Value.func (Fn.yield rc.l) #[] #[])],1,true⟩,⟨3,.lst [I 4256],1,true⟩,⟨22,.lst [L pb pl pc],1,true⟩,⟨3,.lst [I 4224],1,true⟩,⟨22,.lst [L bh 14 ch],1,true⟩,⟨5,.lst [SV.raw (U8 80)],1,true⟩,⟨3,.lst [I 4238],1,true⟩,⟨22,.lst [SV.slc 16 0 1 1],1,true⟩,⟨70,.lst [SV.clo 66 [] [SV.loc 12 0,SV.loc 13 0],SV.clo 66 [] [SV.loc 14 0,SV.loc 15 0],SV.clo 66 [] [SV.loc 17 0,SV.loc 18 0]],3,true⟩,⟨24,.lst [],0,false⟩,⟨24,.lst [I n_1,L base len cap_1],2,true⟩,⟨24,.vals (List.take (n*2) (List.flatMap rowV rs)++List.take ((toN none l'-1)*2) cs),tot',true⟩],E:=E'_1:St })))))
 delta WI NI U8 VS no8 no32
 obtain ⟨q1,b2,c2,q2,q3⟩:=X.load (by omega)
 have pl1:p.length=pl:=H.hp.2.1
 have pl2:=H.hpl
 have yl:ys.length=14:=hh.2.1
 have kw:Mem.le E E:=Mem.le_refl E
 refine ⟨rfl,req_intro q1 ⟨128,b2,8448,c2,q2,_,_,q3,H.hp,validB,by decide,by omega,fun b3 l3 c3 m3 E3 k3 r3 F3=>⟨k3,?_⟩⟩⟩
 have r3:progF 128 (lastM ms).2 ((4256:Nat):Int) p=(m3,0):=r3
 obtain ⟨p1,p2,p3,p4⟩:=prog_li X.l1 X.l2 (by first|omega|(show 4256+1<=8448;omega)) r3
 refine X.app (mt_ kw k3) F3 p1 (by first|omega|(show N+1<=_;omega)) p2 p3 p4 fun base' E' cs cap' tot' rs' e1 e2 e3=>?_
 rw [e1]
 exact Lp_re [some 0,some 1,some 2,some 3,some 4,some 5,some 6,some 7,some 8,some 9,some 10,some 11,some 12,some 13,some 14,some 15,some 16,some 17,some 18,some 19,some 22] (h E' _ cap' tot' rs' (mt_ kw (mt_ k3 e2)) e3) (wkG mr_ (h6:=(by repeat' first|exact True.intro|exact rfl|exact Or.inl rfl|exact (by decide:9<23)|refine And.intro ?_ ?_)))
theorem lw_1 {s v:Int} {b b0 b1 pb:Option Addr} {l c pl pc:Nat} {z p:List Int} {rc:Rc} {bh:Option Addr} {ch:Nat} {n cap tot N:Nat} {ys:List Int} {rs:List FRow} {ms:List (Int×List Int)} {KK:KT} (hC:CxOK (CI s b l c rc)) (H:HI E s v b b0 b1 pb l c pl pc z p) (hh:Bs E bh 14 ch ys) (X:LI E rs ms n cap tot N) (hN:N<=50000)
  (h:∀ (E':Mem) (n' cap' tot':Nat) (rs':List FRow),Mem.le E E'->LI E' rs' (progL (progL (progL ms 4256 p) 4224 ys) 4238 [80]) n' cap' tot' (N+5000)->KK (.tup []) [⟨24,.lst [I s,L b l c],2,true⟩,⟨3,.lst [I v],1,true⟩,⟨22,.lst [L pb pl pc],1,true⟩,⟨56,.lst [L b0 4224 4224,L b1 4224 4224],2,true⟩,⟨3,.lst [I 1],1,true⟩,⟨3,.lst [I 4224],1,true⟩,⟨24,.lst [I s,L b l c],2,true⟩,⟨33,.lst [L none 0 0],1,true⟩,⟨26,.lst [I 0],1,true⟩,⟨24,.lst [],0,false⟩,⟨33,.lst [.slc 12 0 n' cap'],1,true⟩,⟨68,.lst [.raw (.func (.yield rc.l) #[] #[])],1,true⟩,⟨24,.vals (rs'.flatMap rowV),tot',true⟩] E'):
  Lp (CI s b l c rc) 8 Try.f43 [1,1,1,1,0] 11 KK (shW_1_0 s v b b0 b1 pb l c pl pc rc bh ch n cap tot rs E):=by
 have pl1:p.length=pl:=H.hp.2.1
 have pl2:=H.hpl
 have yl:ys.length=14:=hh.2.1
 refine Lp_ind (ι:=Unit) hC (fun _=>shW_1_0 s v b b0 b1 pb l c pl pc rc bh ch n cap tot rs E) (fun _=>0) (fun _ _=>rw_1_0 H hh X (by omega) fun E1 n1 cap1 tot1 rs1 k1 X1=>?_) ()
 refine Lp_ind (ι:=Unit) hC (fun _=>shW_1_1 s v b b0 b1 pb l c pl pc rc bh ch n1 cap1 tot1 rs1 E1) (fun _=>0) (fun _ _=>rw_1_1 (H.mono k1) (hh.mono k1) X1 (by omega) fun E2 n2 cap2 tot2 rs2 k2 X2=>?_) ()
 have k2:=mt_ k1 k2
 refine Lp_ind (ι:=Unit) hC (fun _=>shW_1_2 s v b b0 b1 pb l c pl pc rc bh ch n2 cap2 tot2 rs2 E2) (fun _=>0) (fun _ _=>rw_1_2 (H.mono k2) (hh.mono k2) X2 (by omega) fun E3 n3 cap3 tot3 rs3 k3 X3=>?_) ()
 have k3:=mt_ k2 k3
 have X3b:=X3.hb.2
 have e80:[(80:Int)].length=1:=rfl
 refine Lp_ind (ι:=Unit) hC (fun _=>shX_1 s v b b0 b1 pb l c pl pc rc n3 cap3 tot3 rs3 E3) (fun _=>0) (fun _ _=>rx_1 (h E3 n3 cap3 tot3 rs3 k3 ⟨X3.R,X3.hn,X3.hc,⟨X3.hb.1,by omega⟩,X3.l1,X3.l2⟩)) ()
theorem y5_1 {s v:Int} {b b0 b1 pb:Option Addr} {l c pl pc:Nat} {z p:List Int} {rc:Rc} {n cap tot N:Nat} {rs:List FRow} {ms:List (Int×List Int)} {KK:KT} (hC:CxOK (CI s b l c rc)) (H:HI E s v b b0 b1 pb l c pl pc z p) (X:LI E rs ms n cap tot N) (hN:N<=50000)
  (h:∀ (E':Mem) (n' cap' tot':Nat) (rs':List FRow),Mem.le E E'->LI E' rs' (progL (progL (progL ms 4256 p) 4224 (hdrF v p)) 4238 [80]) n' cap' tot' (N+5000)->KK (.tup []) [⟨24,.lst [I s,L b l c],2,true⟩,⟨3,.lst [I v],1,true⟩,⟨22,.lst [L pb pl pc],1,true⟩,⟨56,.lst [L b0 4224 4224,L b1 4224 4224],2,true⟩,⟨3,.lst [I 1],1,true⟩,⟨3,.lst [I 4224],1,true⟩,⟨24,.lst [I s,L b l c],2,true⟩,⟨33,.lst [L none 0 0],1,true⟩,⟨26,.lst [I 0],1,true⟩,⟨24,.lst [],0,false⟩,⟨33,.lst [.slc 12 0 n' cap'],1,true⟩,⟨68,.lst [.raw (.func (.yield rc.l) #[] #[])],1,true⟩,⟨24,.vals (rs'.flatMap rowV),tot',true⟩] E'):
  Pc (CI s b l c rc) 8 Try.f43 [1,1,1] 11 KK (shA_1 s v b b0 b1 pb l c pl pc rc n cap tot rs E):=by
 refine sm_ (?_:(Mem.le E E/\(∃ (zs:List Int),Bs E pb pl pc zs/\(0:Int)<=v/\v<=(1000000000:Int)/\pl<=4096/\∀ (b':Option Addr) (l' c':Nat) (ys:List Int) (E':Mem),Mem.le E E'->Hyp (ys=hidH v zs)->Bs E' b' l' c' ys->Mem.le E E'/\(Mem.le E' E'/\Lp (CI s b l c rc) 8 Try.f43 [1,1,1,1,0] 11 KK { fr:=some (SV.raw (Value.func (Fn.yield rc.l) #[] #[]))::oc 3 0::oc 4 0::oc 5 0::oc 2 0::oc 1 0::oc 11 0::no16 (no8 (no4 (oI 4224::oI 4256::oL pb pl pc::some (SV.clo 66 [] [SV.loc 13 0,SV.loc 14 0])::oI 4224::oI v::oL pb pl pc::oL b' l' c'::some (SV.clo 66 [] [SV.loc 15 0,SV.loc 16 0])::oI 4224::oI 4238::os 17 0 1 1::some (SV.clo 66 [] [SV.loc 18 0,SV.loc 19 0])::os 20 0 3 3::oI 3::oI 0::no8 []))),bx:=[(⟨24,.lst [I s,L b l c],2,true⟩:Box),⟨3,.lst [I v],1,true⟩,⟨22,.lst [L pb pl pc],1,true⟩,⟨56,.lst [L b0 4224 4224,L b1 4224 4224],2,true⟩,⟨3,.lst [I 1],1,true⟩,⟨3,.lst [I 4224],1,true⟩,⟨24,.lst [I s,L b l c],2,true⟩,⟨33,.lst [L none 0 0],1,true⟩,⟨26,.lst [I 0],1,true⟩,⟨24,.lst [],0,false⟩,⟨33,.lst [SV.slc 12 0 n cap],1,true⟩,⟨68,.lst [SV.raw (Value.func (Fn.yield rc.l) #[] #[])],1,true⟩,⟨24,.vals (List.flatMap rowV rs),tot,true⟩,⟨3,.lst [I 4256],1,true⟩,⟨22,.lst [L pb pl pc],1,true⟩,⟨3,.lst [I 4224],1,true⟩,⟨22,.lst [L b' l' c'],1,true⟩,⟨5,.lst [SV.raw (U8 80)],1,true⟩,⟨3,.lst [I 4238],1,true⟩,⟨22,.lst [SV.slc 17 0 1 1],1,true⟩,⟨70,.lst [SV.clo 66 [] [SV.loc 13 0,SV.loc 14 0],SV.clo 66 [] [SV.loc 15 0,SV.loc 16 0],SV.clo 66 [] [SV.loc 18 0,SV.loc 19 0]],3,true⟩],E:=E':St })/\Mem.le E' E'/\Lp (CI s b l c rc) 8 Try.f43 [1,1,1,1,0] 11 KK { fr:=some (SV.raw (Value.func (Fn.yield rc.l) #[] #[]))::oc 3 0::oc 4 0::oc 5 0::oc 2 0::oc 1 0::oc 11 0::no16 (no8 (no4 (oI 4224::oI 4256::oL pb pl pc::some (SV.clo 66 [] [SV.loc 13 0,SV.loc 14 0])::oI 4224::oI v::oL pb pl pc::oL b' l' c'::some (SV.clo 66 [] [SV.loc 16 0,SV.loc 17 0])::oI 4224::oI 4238::os 15 0 1 1::some (SV.clo 66 [] [SV.loc 18 0,SV.loc 19 0])::os 20 0 3 3::oI 3::oI 0::no8 []))),bx:=[(⟨24,.lst [I s,L b l c],2,true⟩:Box),⟨3,.lst [I v],1,true⟩,⟨22,.lst [L pb pl pc],1,true⟩,⟨56,.lst [L b0 4224 4224,L b1 4224 4224],2,true⟩,⟨3,.lst [I 1],1,true⟩,⟨3,.lst [I 4224],1,true⟩,⟨24,.lst [I s,L b l c],2,true⟩,⟨33,.lst [L none 0 0],1,true⟩,⟨26,.lst [I 0],1,true⟩,⟨24,.lst [],0,false⟩,⟨33,.lst [SV.slc 12 0 n cap],1,true⟩,⟨68,.lst [SV.raw (Value.func (Fn.yield rc.l) #[] #[])],1,true⟩,⟨24,.vals (List.flatMap rowV rs),tot,true⟩,⟨3,.lst [I 4256],1,true⟩,⟨22,.lst [L pb pl pc],1,true⟩,⟨5,.lst [SV.raw (U8 80)],1,true⟩,⟨3,.lst [I 4224],1,true⟩,⟨22,.lst [L b' l' c'],1,true⟩,⟨3,.lst [I 4238],1,true⟩,⟨22,.lst [SV.slc 15 0 1 1],1,true⟩,⟨70,.lst [SV.clo 66 [] [SV.loc 13 0,SV.loc 14 0],SV.clo 66 [] [SV.loc 16 0,SV.loc 17 0],SV.clo 66 [] [SV.loc 18 0,SV.loc 19 0]],3,true⟩],E:=E':St })/\∃ (zs:List Int),Bs E pb pl pc zs/\(0:Int)<=v/\v<=(1000000000:Int)/\pl<=4096/\∀ (b':Option Addr) (l' c':Nat) (ys:List Int) (E':Mem),Mem.le E E'->Hyp (ys=hidH v zs)->Bs E' b' l' c' ys->Mem.le E E'/\Mem.le E' E'/\Lp (CI s b l c rc) 8 Try.f43 [1,1,1,1,0] 11 KK { fr:=some (SV.raw (Value.func (Fn.yield rc.l) #[] #[]))::oc 3 0::oc 4 0::oc 5 0::oc 2 0::oc 1 0::oc 11 0::no16 (no8 (no4 (oI 4224::oI 4256::oL pb pl pc::some (SV.clo 66 [] [SV.loc 13 0,SV.loc 14 0])::oI 4224::oI v::oL pb pl pc::oL b' l' c'::some (SV.clo 66 [] [SV.loc 16 0,SV.loc 17 0])::oI 4224::oI 4238::os 15 0 1 1::some (SV.clo 66 [] [SV.loc 18 0,SV.loc 19 0])::os 20 0 3 3::oI 3::oI 0::no8 []))),bx:=[(⟨24,.lst [I s,L b l c],2,true⟩:Box),⟨3,.lst [I v],1,true⟩,⟨22,.lst [L pb pl pc],1,true⟩,⟨56,.lst [L b0 4224 4224,L b1 4224 4224],2,true⟩,⟨3,.lst [I 1],1,true⟩,⟨3,.lst [I 4224],1,true⟩,⟨24,.lst [I s,L b l c],2,true⟩,⟨33,.lst [L none 0 0],1,true⟩,⟨26,.lst [I 0],1,true⟩,⟨24,.lst [],0,false⟩,⟨33,.lst [SV.slc 12 0 n cap],1,true⟩,⟨68,.lst [SV.raw (Value.func (Fn.yield rc.l) #[] #[])],1,true⟩,⟨24,.vals (List.flatMap rowV rs),tot,true⟩,⟨3,.lst [I 4256],1,true⟩,⟨22,.lst [L pb pl pc],1,true⟩,⟨5,.lst [SV.raw (U8 80)],1,true⟩,⟨3,.lst [I 4224],1,true⟩,⟨22,.lst [L b' l' c'],1,true⟩,⟨3,.lst [I 4238],1,true⟩,⟨22,.lst [SV.slc 15 0 1 1],1,true⟩,⟨70,.lst [SV.clo 66 [] [SV.loc 13 0,SV.loc 14 0],SV.clo 66 [] [SV.loc 16 0,SV.loc 17 0],SV.clo 66 [] [SV.loc 18 0,SV.loc 19 0]],3,true⟩],E:=E':St })/\Mem.le E E/\∃ (zs:List Int),Bs E pb pl pc zs/\(0:Int)<=v/\v<=(1000000000:Int)/\pl<=4096/\∀ (b':Option Addr) (l' c':Nat) (ys:List Int) (E':Mem),Mem.le E E'->Hyp (ys=hidH v zs)->Bs E' b' l' c' ys->Mem.le E E'/\Mem.le E' E'/\Lp (CI s b l c rc) 8 Try.f43 [1,1,1,1,0] 11 KK { fr:=some (SV.raw (Value.func (Fn.yield rc.l) #[] #[]))::oc 3 0::oc 4 0::oc 5 0::oc 2 0::oc 1 0::oc 11 0::no16 (no8 (no4 (oI 4224::oI 4256::oL pb pl pc::some (SV.clo 66 [] [SV.loc 14 0,SV.loc 15 0])::oI 4224::oI v::oL pb pl pc::oL b' l' c'::some (SV.clo 66 [] [SV.loc 16 0,SV.loc 17 0])::oI 4224::oI 4238::os 13 0 1 1::some (SV.clo 66 [] [SV.loc 18 0,SV.loc 19 0])::os 20 0 3 3::oI 3::oI 0::no8 []))),bx:=[(⟨24,.lst [I s,L b l c],2,true⟩:Box),⟨3,.lst [I v],1,true⟩,⟨22,.lst [L pb pl pc],1,true⟩,⟨56,.lst [L b0 4224 4224,L b1 4224 4224],2,true⟩,⟨3,.lst [I 1],1,true⟩,⟨3,.lst [I 4224],1,true⟩,⟨24,.lst [I s,L b l c],2,true⟩,⟨33,.lst [L none 0 0],1,true⟩,⟨26,.lst [I 0],1,true⟩,⟨24,.lst [],0,false⟩,⟨33,.lst [SV.slc 12 0 n cap],1,true⟩,⟨68,.lst [SV.raw (Value.func (Fn.yield rc.l) #[] #[])],1,true⟩,⟨24,.vals (List.flatMap rowV rs),tot,true⟩,⟨5,.lst [SV.raw (U8 80)],1,true⟩,⟨3,.lst [I 4256],1,true⟩,⟨22,.lst [L pb pl pc],1,true⟩,⟨3,.lst [I 4224],1,true⟩,⟨22,.lst [L b' l' c'],1,true⟩,⟨3,.lst [I 4238],1,true⟩,⟨22,.lst [SV.slc 13 0 1 1],1,true⟩,⟨70,.lst [SV.clo 66 [] [SV.loc 14 0,SV.loc 15 0],SV.clo 66 [] [SV.loc 16 0,SV.loc 17 0],SV.clo 66 [] [SV.loc 18 0,SV.loc 19 0]],3,true⟩],E:=E':St })
 delta U8 no4 no8 no16
 have fin:∀ {b':Option Addr} {l' c':Nat} {ys:List Int} {E':Mem},Mem.le E E'->Hyp (ys=hidH v p)->Bs E' b' l' c' ys->l'=14/\Lp (CI s b l c rc) 8 Try.f43 [1,1,1,1,0] 11 KK (shW_1_0 s v b b0 b1 pb l c pl pc rc b' c' n cap tot rs E'):=by
  intro b' l' c' ys E' k1 r1 B1
  have r1:ys=hidH v p:=r1
  rw [hidH_eq] at r1
  subst r1
  have e:l'=14:=by rw [← B1.2.1,hdrF_len]
  subst e
  exact ⟨rfl,lw_1 hC (H.mono k1) B1 (X.mono k1) hN fun E2 n' cap' tot' rs' k2=>h E2 n' cap' tot' rs' (mt_ k1 k2)⟩
 have hv:=H.hv
 have hpl:=H.hpl
 refine ⟨⟨mr_,⟨p,H.hp,hv.1,hv.2,hpl,fun b' l' c' ys E' k r B=>?_⟩,⟨p,H.hp,hv.1,hv.2,hpl,fun b' l' c' ys E' k r B=>?_⟩⟩,mr_,p,H.hp,hv.1,hv.2,hpl,fun b' l' c' ys E' k r B=>?_⟩
 ·obtain ⟨e,L1⟩:=fin k r B
  subst e
  refine ⟨k,⟨mr_,?_⟩,mr_,?_⟩
  ·exact Lp_re [some 0,some 1,some 2,some 3,some 4,some 5,some 6,some 7,some 8,some 9,some 10,some 11,some 13,some 14,some 15,some 16,some 17,some 18,some 19,some 20,some 12] L1 (wkG mr_ (h6:=(by repeat' first|exact True.intro|exact rfl|exact Or.inl rfl|exact (by decide:9<21)|refine And.intro ?_ ?_)))
  ·exact Lp_re [some 0,some 1,some 2,some 3,some 4,some 5,some 6,some 7,some 8,some 9,some 10,some 11,some 13,some 14,some 16,some 17,some 15,some 18,some 19,some 20,some 12] L1 (wkG mr_ (h6:=(by repeat' first|exact True.intro|exact rfl|exact Or.inl rfl|exact (by decide:9<21)|refine And.intro ?_ ?_)))
 ·obtain ⟨e,L1⟩:=fin k r B
  subst e
  refine ⟨k,mr_,?_⟩
  exact Lp_re [some 0,some 1,some 2,some 3,some 4,some 5,some 6,some 7,some 8,some 9,some 10,some 11,some 13,some 14,some 16,some 17,some 15,some 18,some 19,some 20,some 12] L1 (wkG mr_ (h6:=(by repeat' first|exact True.intro|exact rfl|exact Or.inl rfl|exact (by decide:9<21)|refine And.intro ?_ ?_)))
 ·obtain ⟨e,L1⟩:=fin k r B
  subst e
  refine ⟨k,mr_,?_⟩
  exact Lp_re [some 0,some 1,some 2,some 3,some 4,some 5,some 6,some 7,some 8,some 9,some 10,some 11,some 14,some 15,some 16,some 17,some 13,some 18,some 19,some 20,some 12] L1 (wkG mr_ (h6:=(by repeat' first|exact True.intro|exact rfl|exact Or.inl rfl|exact (by decide:9<21)|refine And.intro ?_ ?_)))
theorem pc_0 {s v:Int} {b b0 b1 pb:Option Addr} {l c pl pc:Nat} {z p:List Int} {rc:Rc} {n cap tot N:Nat} {rs:List FRow} {ms:List (Int×List Int)} {KK:KT} (h:KK (.tup [.slc 12 0 n cap,I 0]) [⟨24,.lst [I s,L b l c],2,true⟩,⟨3,.lst [I v],1,true⟩,⟨22,.lst [L pb pl pc],1,true⟩,⟨56,.lst [L b0 4224 4224,L b1 4224 4224],2,true⟩,⟨3,.lst [I 0],1,true⟩,⟨3,.lst [I 0],1,true⟩,⟨24,.lst [I s,L b l c],2,true⟩,⟨33,.lst [.slc 12 0 n cap],1,true⟩,⟨26,.lst [I 0],1,true⟩,⟨24,.lst [],0,false⟩,⟨33,.lst [.slc 12 0 n cap],1,true⟩,⟨68,.lst [.raw (.func (.yield rc.l) #[] #[])],1,true⟩,⟨24,.vals (rs.flatMap rowV),tot,true⟩] E):Pc CH 8 Try.f42 [1,1,1] 6 KK ⟨fr42 s b l c,[⟨24,.lst [I s,L b l c],2,true⟩,⟨3,.lst [I v],1,true⟩,⟨22,.lst [L pb pl pc],1,true⟩,⟨56,.lst [L b0 4224 4224,L b1 4224 4224],2,true⟩,⟨3,.lst [I 0],1,true⟩,⟨3,.lst [I 0],1,true⟩,⟨24,.lst [I s,L b l c],2,true⟩,⟨33,.lst [L none 0 0],1,true⟩,⟨26,.lst [I 0],1,true⟩,⟨24,.lst [],0,false⟩,⟨33,.lst [.slc 12 0 n cap],1,true⟩,⟨68,.lst [.raw (.func (.yield rc.l) #[] #[])],1,true⟩,⟨24,.vals (rs.flatMap rowV),tot,true⟩],E⟩:=by
 refine sm_ (?_:KK (SV.tup [SV.slc 12 0 n cap,I (0:Int)]) [⟨24,Row.lst [I s,L b l c],2,true⟩,⟨3,Row.lst [I v],1,true⟩,⟨22,Row.lst [L pb pl pc],1,true⟩,⟨56,Row.lst [L b0 4224 4224,L b1 4224 4224],2,true⟩,⟨3,Row.lst [I (0:Int)],1,true⟩,⟨3,Row.lst [I (0:Int)],1,true⟩,⟨24,Row.lst [I s,L b l c],2,true⟩,⟨33,Row.lst [SV.slc 12 0 n cap],1,true⟩,⟨26,Row.lst [I (0:Int)],1,true⟩,⟨24,Row.lst [],0,false⟩,⟨33,Row.lst [SV.slc 12 0 n cap],1,true⟩,⟨68,Row.lst [SV.raw (Value.func (Fn.yield rc.l) #[] #[])],1,true⟩,⟨24,Row.vals (List.flatMap rowV rs),tot,true⟩] E)
 exact h
theorem pb_0 {s v:Int} {b b0 b1 pb:Option Addr} {l c pl pc:Nat} {z p:List Int} {rc:Rc} {n cap tot N:Nat} {rs:List FRow} {ms:List (Int×List Int)} {KK:KT} (X:LI E rs ms n cap tot N) (h:∀ (fb:Option Addr) (E':Mem),Mem.le E E'->FL E' fb n cap ms->KK (.tup [L fb n cap,I 0]) [⟨24,.lst [I s,L b l c],2,true⟩,⟨3,.lst [I v],1,true⟩,⟨22,.lst [L pb pl pc],1,true⟩,⟨56,.lst [L b0 4224 4224,L b1 4224 4224],2,true⟩,⟨3,.lst [I 0],1,true⟩,⟨3,.lst [I 0],1,true⟩] E'):pubB (cloK 6 KK) (.tup [.slc 12 0 n cap,I 0]) [⟨24,.lst [I s,L b l c],2,true⟩,⟨3,.lst [I v],1,true⟩,⟨22,.lst [L pb pl pc],1,true⟩,⟨56,.lst [L b0 4224 4224,L b1 4224 4224],2,true⟩,⟨3,.lst [I 0],1,true⟩,⟨3,.lst [I 0],1,true⟩,⟨24,.lst [I s,L b l c],2,true⟩,⟨33,.lst [.slc 12 0 n cap],1,true⟩,⟨26,.lst [I 0],1,true⟩,⟨24,.lst [],0,false⟩,⟨33,.lst [.slc 12 0 n cap],1,true⟩,⟨68,.lst [.raw (.func (.yield rc.l) #[] #[])],1,true⟩,⟨24,.vals (rs.flatMap rowV),tot,true⟩] E:=by
 refine same (q:=∀ (base:Option Addr) (E2:Mem),Mem.le E E2->WinE E2 base (rs.flatMap rowV)->cloK 6 KK (.tup [.raw (slcAs base 0 n cap),I 0]) [⟨24,.lst [I s,L b l c],2,true⟩,⟨3,.lst [I v],1,true⟩,⟨22,.lst [L pb pl pc],1,true⟩,⟨56,.lst [L b0 4224 4224,L b1 4224 4224],2,true⟩,⟨3,.lst [I 0],1,true⟩,⟨3,.lst [I 0],1,true⟩,⟨24,.lst [I s,L b l c],2,true⟩,⟨33,.lst [.raw (slcAs base 0 n cap)],1,true⟩,⟨26,.lst [I 0],1,true⟩,⟨24,.lst [],0,false⟩,⟨33,.lst [.raw (slcAs base 0 n cap)],1,true⟩,⟨68,.lst [.raw (.func (.yield rc.l) #[] #[])],1,true⟩,⟨24,.vals (rs.flatMap rowV),tot,false⟩] E2) (by kernel_rfl) ?_
 intro base E2 h1 h2
 exact cloK_intro [some 0,some 1,some 2,some 3,some 4,some 5] (h _ E2 h1 (FL.win h2 rfl (X.R.mono h1) X.hn X.hc.1)) (wkG mr_)
theorem pn_0 {s v:Int} {b b0 b1 pb:Option Addr} {l c pl pc:Nat} {z p:List Int} {rc:Rc} {n cap tot N:Nat} {rs:List FRow} {ms:List (Int×List Int)} {KK:KT} (X:LI E rs ms n cap tot N) (h:∀ (fb:Option Addr) (E':Mem),Mem.le E E'->FL E' fb n cap ms->KK (.tup [L fb n cap,I 0]) [⟨24,.lst [I s,L b l c],2,true⟩,⟨3,.lst [I v],1,true⟩,⟨22,.lst [L pb pl pc],1,true⟩,⟨56,.lst [L b0 4224 4224,L b1 4224 4224],2,true⟩,⟨3,.lst [I 0],1,true⟩,⟨3,.lst [I 0],1,true⟩] E'):Pn CH 8 Try.f42 [1,1,0,1,0] 6 (pubB (cloK 6 KK)) ⟨fr42 s b l c,[⟨24,.lst [I s,L b l c],2,true⟩,⟨3,.lst [I v],1,true⟩,⟨22,.lst [L pb pl pc],1,true⟩,⟨56,.lst [L b0 4224 4224,L b1 4224 4224],2,true⟩,⟨3,.lst [I 0],1,true⟩,⟨3,.lst [I 0],1,true⟩,⟨24,.lst [I s,L b l c],2,true⟩,⟨33,.lst [L none 0 0],1,true⟩,⟨26,.lst [I 0],1,true⟩,⟨24,.lst [],0,false⟩,⟨33,.lst [.slc 12 0 n cap],1,true⟩,⟨68,.lst [.raw (.func (.yield rc.l) #[] #[])],1,true⟩,⟨24,.vals (rs.flatMap rowV),tot,true⟩],E⟩:=by
 refine sm_ (?_:Ct CH 8 Try.f42 [1,1,1] 6 (pubB (cloK 6 KK)) { fr:=some (SV.agg [I s,L b l c])::some (SV.clo 43 [] [SV.loc 3 0,SV.loc 4 0,SV.loc 5 0,SV.loc 2 0,SV.loc 1 0])::oc 6 0::none::oc 7 0::oc 8 0::oc 10 0::none::none::none::some (SV.agg [I s,L b l c])::os 9 0 1 1::some (SV.clo 43 [] [SV.loc 3 0,SV.loc 4 0,SV.loc 5 0,SV.loc 2 0,SV.loc 1 0])::no16 (no4 []),bx:=[(⟨24,.lst [I s,L b l c],2,true⟩:Box),⟨3,.lst [I v],1,true⟩,⟨22,.lst [L pb pl pc],1,true⟩,⟨56,.lst [L b0 4224 4224,L b1 4224 4224],2,true⟩,⟨3,.lst [I 0],1,true⟩,⟨3,.lst [I 0],1,true⟩,⟨24,.lst [I s,L b l c],2,true⟩,⟨33,.lst [L none 0 0],1,true⟩,⟨26,.lst [I 0],1,true⟩,⟨24,.lst [],0,false⟩,⟨33,.lst [SV.slc 12 0 n cap],1,true⟩,⟨68,.lst [SV.raw (Value.func (Fn.yield rc.l) #[] #[])],1,true⟩,⟨24,.vals (List.flatMap rowV rs),tot,true⟩],E:=E:St })
 delta no4 no16
 exact Ct_intro okCH (pc_0 (z:=[]) (p:=[]) (N:=N) (ms:=ms) (pb_0 (z:=[]) (p:=[]) X h))
theorem en_0 {s v:Int} {b b0 b1 pb:Option Addr} {l c pl pc:Nat} {z p:List Int} {rc:Rc} {KK:KT} (hC:CxOK (CI s b l c rc)) (hup:rc.up=none) (H:HI E s v b b0 b1 pb l c pl pc z p)
  (h:∀ (E':Mem) (n' cap' tot':Nat) (rs':List FRow),Mem.le E E'->LI E' rs' (instL 128 z 0 v p) n' cap' tot' 50000->KK (.tup []) [⟨24,.lst [I s,L b l c],2,true⟩,⟨3,.lst [I v],1,true⟩,⟨22,.lst [L pb pl pc],1,true⟩,⟨56,.lst [L b0 4224 4224,L b1 4224 4224],2,true⟩,⟨3,.lst [I 0],1,true⟩,⟨3,.lst [I 0],1,true⟩,⟨24,.lst [I s,L b l c],2,true⟩,⟨33,.lst [L none 0 0],1,true⟩,⟨26,.lst [I 0],1,true⟩,⟨24,.lst [],0,false⟩,⟨33,.lst [.slc 12 0 n' cap'],1,true⟩,⟨68,.lst [.raw (.func (.yield rc.l) #[] #[])],1,true⟩,⟨24,.vals (rs'.flatMap rowV),tot',true⟩] E'):
  EntB (CI s b l c rc) 8 Try.f43 [.raw (.func (.yield rc.l) #[] #[]),.loc 3 0,.loc 4 0,.loc 5 0,.loc 2 0,.loc 1 0] [⟨24,.lst [I s,L b l c],2,true⟩,⟨3,.lst [I v],1,true⟩,⟨22,.lst [L pb pl pc],1,true⟩,⟨56,.lst [L b0 4224 4224,L b1 4224 4224],2,true⟩,⟨3,.lst [I 0],1,true⟩,⟨3,.lst [I 0],1,true⟩,⟨24,.lst [I s,L b l c],2,true⟩,⟨33,.lst [L none 0 0],1,true⟩,⟨26,.lst [I 0],1,true⟩,⟨24,.lst [I s,L b l c],2,true⟩,⟨33,.lst [.slc 9 0 1 1],1,true⟩] E KK:=by
 refine sm_ (?_:Ct (CI s b l c rc) 8 Try.f43 [1] 11 KK { fr:=some (SV.raw (Value.func (Fn.yield rc.l) #[] #[]))::oc 3 0::oc 4 0::oc 5 0::oc 2 0::oc 1 0::oc 11 0::no32 (no16 (no4 [])),bx:=[(⟨24,.lst [I s,L b l c],2,true⟩:Box),⟨3,.lst [I v],1,true⟩,⟨22,.lst [L pb pl pc],1,true⟩,⟨56,.lst [L b0 4224 4224,L b1 4224 4224],2,true⟩,⟨3,.lst [I 0],1,true⟩,⟨3,.lst [I 0],1,true⟩,⟨24,.lst [I s,L b l c],2,true⟩,⟨33,.lst [L none 0 0],1,true⟩,⟨26,.lst [I 0],1,true⟩,⟨24,.lst [I s,L b l c],2,true⟩,⟨33,.lst [SV.slc 9 0 1 1],1,true⟩,⟨68,.lst [SV.raw (Value.func (Fn.yield rc.l) #[] #[])],1,true⟩],E:=E:St })
 delta no4 no16 no32
 have hs:=H.hs
 have hl:=H.hl
 have X0:LI E [(s,b,l,c)] [(128,z)] 1 1 2 1:=⟨FLr.snoc (FLr.nil E) hs H.hz,rfl,⟨Nat.le_refl _,Nat.le_refl _⟩,⟨Nat.le_refl _,Nat.le_refl _⟩,rfl,by show z.length=8448;rw [H.hz.2.1,hl]⟩
 refine Ct_re [some 0,some 1,some 2,some 3,some 4,some 5,some 6,some 7,some 8,some 9,some 10,some 11,some 9] (T:=shA_0 s v b b0 b1 pb l c pl pc rc 1 1 2 [(s,b,l,c)] E) ?_ (wkG mr_ (h6:=(by repeat' first|exact True.intro|exact rfl|exact Or.inl rfl|exact (by decide:9<12)|refine And.intro ?_ ?_)))
 refine Ct_intro hC (y1_0 H X0 (by decide) fun E1 n1 cap1 tot1 rs1 k1 X1=>?_)
 refine Ct_intro hC (y2_0 hC hup (H.mono k1) X1 (by decide) fun E2 n2 cap2 tot2 rs2 k2 X2=>?_)
 have k2:=mt_ k1 k2
 refine Ct_intro hC (y5_0 hC (H.mono k2) X2 (by decide) fun E3 n3 cap3 tot3 rs3 k3 X3=>?_)
 exact h E3 n3 cap3 tot3 rs3 (mt_ k2 k3) ⟨X3.R,X3.hn,X3.hc,⟨X3.hb.1,by have:=X3.hb.2;omega⟩,X3.l1,X3.l2⟩
theorem b42_0 {s v:Int} {b b0 b1 pb:Option Addr} {l c pl pc:Nat} {z p:List Int} {KK:KT} (H:HI E s v b b0 b1 pb l c pl pc z p) (h:∀ (fb:Option Addr) (n cap:Nat) (E':Mem),Mem.le E E'->FL E' fb n cap (instL 128 z 0 v p)->KK (.tup [L fb n cap,I 0]) [⟨24,.lst [I s,L b l c],2,true⟩,⟨3,.lst [I v],1,true⟩,⟨22,.lst [L pb pl pc],1,true⟩,⟨56,.lst [L b0 4224 4224,L b1 4224 4224],2,true⟩,⟨3,.lst [I 0],1,true⟩,⟨3,.lst [I 0],1,true⟩] E'):
  EntB CH 8 Try.f42 [.agg [I s,L b l c],.clo 43 [] [.loc 3 0,.loc 4 0,.loc 5 0,.loc 2 0,.loc 1 0]] [⟨24,.lst [I s,L b l c],2,true⟩,⟨3,.lst [I v],1,true⟩,⟨22,.lst [L pb pl pc],1,true⟩,⟨56,.lst [L b0 4224 4224,L b1 4224 4224],2,true⟩,⟨3,.lst [I 0],1,true⟩,⟨3,.lst [I 0],1,true⟩] E (pubB (cloK 6 KK)):=by
 refine sm_ (?_:Ct CH 8 Try.f42 [1,1,0,1,0] 6 (pubB (cloK 6 KK)) { fr:=some (SV.agg [I s,L b l c])::some (SV.clo 43 [] [SV.loc 3 0,SV.loc 4 0,SV.loc 5 0,SV.loc 2 0,SV.loc 1 0])::oc 6 0::none::oc 7 0::oc 8 0::oc 10 0::none::none::none::some (SV.agg [I s,L b l c])::os 9 0 1 1::some (SV.clo 43 [] [SV.loc 3 0,SV.loc 4 0,SV.loc 5 0,SV.loc 2 0,SV.loc 1 0])::no16 (no4 []),bx:=[(⟨24,.lst [I s,L b l c],2,true⟩:Box),⟨3,.lst [I v],1,true⟩,⟨22,.lst [L pb pl pc],1,true⟩,⟨56,.lst [L b0 4224 4224,L b1 4224 4224],2,true⟩,⟨3,.lst [I 0],1,true⟩,⟨3,.lst [I 0],1,true⟩,⟨24,.lst [I s,L b l c],2,true⟩,⟨33,.lst [L none 0 0],1,true⟩,⟨26,.lst [I 0],1,true⟩,⟨24,.lst [I s,L b l c],2,true⟩,⟨33,.lst [SV.slc 9 0 1 1],1,true⟩],E:=E:St })
 delta no4 no16
 exact RfQ okCH okGI (by kernel_rfl) (by kernel_rfl) Try.func43 ⟨by kernel_rfl,by kernel_rfl⟩ (gf:=43) (gfn:=Try.f43) (first:=[]) (caps:=[.loc 3 0,.loc 4 0,.loc 5 0,.loc 2 0,.loc 1 0]) (m:=8)
  (fun rc hrc hx=>en_0 hrc hx.up H fun E' n' cap' tot' rs' k X=>Cn_intro (pn_0 (z:=[]) (p:=[]) X fun fb E2 k2 F=>h fb n' cap' E2 (mt_ k k2) F)) rfl rfl
theorem sem42_0 {s v:Int} {b b0 b1 pb:Option Addr} {l c pl pc:Nat} {z p:List Int} {KK:KT} (H:HI E s v b b0 b1 pb l c pl pc z p) (h:∀ (fb:Option Addr) (n cap:Nat) (E':Mem),Mem.le E E'->FL E' fb n cap (instL 128 z 0 v p)->KK (.tup [L fb n cap,I 0]) [⟨24,.lst [I s,L b l c],2,true⟩,⟨3,.lst [I v],1,true⟩,⟨22,.lst [L pb pl pc],1,true⟩,⟨56,.lst [L b0 4224 4224,L b1 4224 4224],2,true⟩,⟨3,.lst [I 0],1,true⟩,⟨3,.lst [I 0],1,true⟩] E'):
  CallSem Try.prog 42 [.agg [I s,L b l c],.clo 43 [] [.loc 3 0,.loc 4 0,.loc 5 0,.loc 2 0,.loc 1 0]] [⟨24,.lst [I s,L b l c],2,true⟩,⟨3,.lst [I v],1,true⟩,⟨22,.lst [L pb pl pc],1,true⟩,⟨56,.lst [L b0 4224 4224,L b1 4224 4224],2,true⟩,⟨3,.lst [I 0],1,true⟩,⟨3,.lst [I 0],1,true⟩] E KK:=
 (bsm okCH Try.func42 (b42_0 H h)).pubB.clo
theorem pc_1 {s v:Int} {b b0 b1 pb:Option Addr} {l c pl pc:Nat} {z p:List Int} {rc:Rc} {n cap tot N:Nat} {rs:List FRow} {ms:List (Int×List Int)} {KK:KT} (h:KK (.tup [.slc 12 0 n cap,I 0]) [⟨24,.lst [I s,L b l c],2,true⟩,⟨3,.lst [I v],1,true⟩,⟨22,.lst [L pb pl pc],1,true⟩,⟨56,.lst [L b0 4224 4224,L b1 4224 4224],2,true⟩,⟨3,.lst [I 1],1,true⟩,⟨3,.lst [I 4224],1,true⟩,⟨24,.lst [I s,L b l c],2,true⟩,⟨33,.lst [.slc 12 0 n cap],1,true⟩,⟨26,.lst [I 0],1,true⟩,⟨24,.lst [],0,false⟩,⟨33,.lst [.slc 12 0 n cap],1,true⟩,⟨68,.lst [.raw (.func (.yield rc.l) #[] #[])],1,true⟩,⟨24,.vals (rs.flatMap rowV),tot,true⟩] E):Pc CH 8 Try.f42 [1,1,1] 6 KK ⟨fr42 s b l c,[⟨24,.lst [I s,L b l c],2,true⟩,⟨3,.lst [I v],1,true⟩,⟨22,.lst [L pb pl pc],1,true⟩,⟨56,.lst [L b0 4224 4224,L b1 4224 4224],2,true⟩,⟨3,.lst [I 1],1,true⟩,⟨3,.lst [I 4224],1,true⟩,⟨24,.lst [I s,L b l c],2,true⟩,⟨33,.lst [L none 0 0],1,true⟩,⟨26,.lst [I 0],1,true⟩,⟨24,.lst [],0,false⟩,⟨33,.lst [.slc 12 0 n cap],1,true⟩,⟨68,.lst [.raw (.func (.yield rc.l) #[] #[])],1,true⟩,⟨24,.vals (rs.flatMap rowV),tot,true⟩],E⟩:=by
 refine sm_ (?_:KK (SV.tup [SV.slc 12 0 n cap,I (0:Int)]) [⟨24,Row.lst [I s,L b l c],2,true⟩,⟨3,Row.lst [I v],1,true⟩,⟨22,Row.lst [L pb pl pc],1,true⟩,⟨56,Row.lst [L b0 4224 4224,L b1 4224 4224],2,true⟩,⟨3,Row.lst [I (1:Int)],1,true⟩,⟨3,Row.lst [I (4224:Int)],1,true⟩,⟨24,Row.lst [I s,L b l c],2,true⟩,⟨33,Row.lst [SV.slc 12 0 n cap],1,true⟩,⟨26,Row.lst [I (0:Int)],1,true⟩,⟨24,Row.lst [],0,false⟩,⟨33,Row.lst [SV.slc 12 0 n cap],1,true⟩,⟨68,Row.lst [SV.raw (Value.func (Fn.yield rc.l) #[] #[])],1,true⟩,⟨24,Row.vals (List.flatMap rowV rs),tot,true⟩] E)
 exact h
theorem pb_1 {s v:Int} {b b0 b1 pb:Option Addr} {l c pl pc:Nat} {z p:List Int} {rc:Rc} {n cap tot N:Nat} {rs:List FRow} {ms:List (Int×List Int)} {KK:KT} (X:LI E rs ms n cap tot N) (h:∀ (fb:Option Addr) (E':Mem),Mem.le E E'->FL E' fb n cap ms->KK (.tup [L fb n cap,I 0]) [⟨24,.lst [I s,L b l c],2,true⟩,⟨3,.lst [I v],1,true⟩,⟨22,.lst [L pb pl pc],1,true⟩,⟨56,.lst [L b0 4224 4224,L b1 4224 4224],2,true⟩,⟨3,.lst [I 1],1,true⟩,⟨3,.lst [I 4224],1,true⟩] E'):pubB (cloK 6 KK) (.tup [.slc 12 0 n cap,I 0]) [⟨24,.lst [I s,L b l c],2,true⟩,⟨3,.lst [I v],1,true⟩,⟨22,.lst [L pb pl pc],1,true⟩,⟨56,.lst [L b0 4224 4224,L b1 4224 4224],2,true⟩,⟨3,.lst [I 1],1,true⟩,⟨3,.lst [I 4224],1,true⟩,⟨24,.lst [I s,L b l c],2,true⟩,⟨33,.lst [.slc 12 0 n cap],1,true⟩,⟨26,.lst [I 0],1,true⟩,⟨24,.lst [],0,false⟩,⟨33,.lst [.slc 12 0 n cap],1,true⟩,⟨68,.lst [.raw (.func (.yield rc.l) #[] #[])],1,true⟩,⟨24,.vals (rs.flatMap rowV),tot,true⟩] E:=by
 refine same (q:=∀ (base:Option Addr) (E2:Mem),Mem.le E E2->WinE E2 base (rs.flatMap rowV)->cloK 6 KK (.tup [.raw (slcAs base 0 n cap),I 0]) [⟨24,.lst [I s,L b l c],2,true⟩,⟨3,.lst [I v],1,true⟩,⟨22,.lst [L pb pl pc],1,true⟩,⟨56,.lst [L b0 4224 4224,L b1 4224 4224],2,true⟩,⟨3,.lst [I 1],1,true⟩,⟨3,.lst [I 4224],1,true⟩,⟨24,.lst [I s,L b l c],2,true⟩,⟨33,.lst [.raw (slcAs base 0 n cap)],1,true⟩,⟨26,.lst [I 0],1,true⟩,⟨24,.lst [],0,false⟩,⟨33,.lst [.raw (slcAs base 0 n cap)],1,true⟩,⟨68,.lst [.raw (.func (.yield rc.l) #[] #[])],1,true⟩,⟨24,.vals (rs.flatMap rowV),tot,false⟩] E2) (by kernel_rfl) ?_
 intro base E2 h1 h2
 exact cloK_intro [some 0,some 1,some 2,some 3,some 4,some 5] (h _ E2 h1 (FL.win h2 rfl (X.R.mono h1) X.hn X.hc.1)) (wkG mr_)
theorem pn_1 {s v:Int} {b b0 b1 pb:Option Addr} {l c pl pc:Nat} {z p:List Int} {rc:Rc} {n cap tot N:Nat} {rs:List FRow} {ms:List (Int×List Int)} {KK:KT} (X:LI E rs ms n cap tot N) (h:∀ (fb:Option Addr) (E':Mem),Mem.le E E'->FL E' fb n cap ms->KK (.tup [L fb n cap,I 0]) [⟨24,.lst [I s,L b l c],2,true⟩,⟨3,.lst [I v],1,true⟩,⟨22,.lst [L pb pl pc],1,true⟩,⟨56,.lst [L b0 4224 4224,L b1 4224 4224],2,true⟩,⟨3,.lst [I 1],1,true⟩,⟨3,.lst [I 4224],1,true⟩] E'):Pn CH 8 Try.f42 [1,1,0,1,0] 6 (pubB (cloK 6 KK)) ⟨fr42 s b l c,[⟨24,.lst [I s,L b l c],2,true⟩,⟨3,.lst [I v],1,true⟩,⟨22,.lst [L pb pl pc],1,true⟩,⟨56,.lst [L b0 4224 4224,L b1 4224 4224],2,true⟩,⟨3,.lst [I 1],1,true⟩,⟨3,.lst [I 4224],1,true⟩,⟨24,.lst [I s,L b l c],2,true⟩,⟨33,.lst [L none 0 0],1,true⟩,⟨26,.lst [I 0],1,true⟩,⟨24,.lst [],0,false⟩,⟨33,.lst [.slc 12 0 n cap],1,true⟩,⟨68,.lst [.raw (.func (.yield rc.l) #[] #[])],1,true⟩,⟨24,.vals (rs.flatMap rowV),tot,true⟩],E⟩:=by
 refine sm_ (?_:Ct CH 8 Try.f42 [1,1,1] 6 (pubB (cloK 6 KK)) { fr:=some (SV.agg [I s,L b l c])::some (SV.clo 43 [] [SV.loc 3 0,SV.loc 4 0,SV.loc 5 0,SV.loc 2 0,SV.loc 1 0])::oc 6 0::none::oc 7 0::oc 8 0::oc 10 0::none::none::none::some (SV.agg [I s,L b l c])::os 9 0 1 1::some (SV.clo 43 [] [SV.loc 3 0,SV.loc 4 0,SV.loc 5 0,SV.loc 2 0,SV.loc 1 0])::no16 (no4 []),bx:=[(⟨24,.lst [I s,L b l c],2,true⟩:Box),⟨3,.lst [I v],1,true⟩,⟨22,.lst [L pb pl pc],1,true⟩,⟨56,.lst [L b0 4224 4224,L b1 4224 4224],2,true⟩,⟨3,.lst [I 1],1,true⟩,⟨3,.lst [I 4224],1,true⟩,⟨24,.lst [I s,L b l c],2,true⟩,⟨33,.lst [L none 0 0],1,true⟩,⟨26,.lst [I 0],1,true⟩,⟨24,.lst [],0,false⟩,⟨33,.lst [SV.slc 12 0 n cap],1,true⟩,⟨68,.lst [SV.raw (Value.func (Fn.yield rc.l) #[] #[])],1,true⟩,⟨24,.vals (List.flatMap rowV rs),tot,true⟩],E:=E:St })
 delta no4 no16
 exact Ct_intro okCH (pc_1 (z:=[]) (p:=[]) (N:=N) (ms:=ms) (pb_1 (z:=[]) (p:=[]) X h))
theorem en_1 {s v:Int} {b b0 b1 pb:Option Addr} {l c pl pc:Nat} {z p:List Int} {rc:Rc} {KK:KT} (hC:CxOK (CI s b l c rc)) (hup:rc.up=none) (H:HI E s v b b0 b1 pb l c pl pc z p)
  (h:∀ (E':Mem) (n' cap' tot':Nat) (rs':List FRow),Mem.le E E'->LI E' rs' (instL 128 z 1 v p) n' cap' tot' 50000->KK (.tup []) [⟨24,.lst [I s,L b l c],2,true⟩,⟨3,.lst [I v],1,true⟩,⟨22,.lst [L pb pl pc],1,true⟩,⟨56,.lst [L b0 4224 4224,L b1 4224 4224],2,true⟩,⟨3,.lst [I 1],1,true⟩,⟨3,.lst [I 4224],1,true⟩,⟨24,.lst [I s,L b l c],2,true⟩,⟨33,.lst [L none 0 0],1,true⟩,⟨26,.lst [I 0],1,true⟩,⟨24,.lst [],0,false⟩,⟨33,.lst [.slc 12 0 n' cap'],1,true⟩,⟨68,.lst [.raw (.func (.yield rc.l) #[] #[])],1,true⟩,⟨24,.vals (rs'.flatMap rowV),tot',true⟩] E'):
  EntB (CI s b l c rc) 8 Try.f43 [.raw (.func (.yield rc.l) #[] #[]),.loc 3 0,.loc 4 0,.loc 5 0,.loc 2 0,.loc 1 0] [⟨24,.lst [I s,L b l c],2,true⟩,⟨3,.lst [I v],1,true⟩,⟨22,.lst [L pb pl pc],1,true⟩,⟨56,.lst [L b0 4224 4224,L b1 4224 4224],2,true⟩,⟨3,.lst [I 1],1,true⟩,⟨3,.lst [I 4224],1,true⟩,⟨24,.lst [I s,L b l c],2,true⟩,⟨33,.lst [L none 0 0],1,true⟩,⟨26,.lst [I 0],1,true⟩,⟨24,.lst [I s,L b l c],2,true⟩,⟨33,.lst [.slc 9 0 1 1],1,true⟩] E KK:=by
 refine sm_ (?_:Ct (CI s b l c rc) 8 Try.f43 [1] 11 KK { fr:=some (SV.raw (Value.func (Fn.yield rc.l) #[] #[]))::oc 3 0::oc 4 0::oc 5 0::oc 2 0::oc 1 0::oc 11 0::no32 (no16 (no4 [])),bx:=[(⟨24,.lst [I s,L b l c],2,true⟩:Box),⟨3,.lst [I v],1,true⟩,⟨22,.lst [L pb pl pc],1,true⟩,⟨56,.lst [L b0 4224 4224,L b1 4224 4224],2,true⟩,⟨3,.lst [I 1],1,true⟩,⟨3,.lst [I 4224],1,true⟩,⟨24,.lst [I s,L b l c],2,true⟩,⟨33,.lst [L none 0 0],1,true⟩,⟨26,.lst [I 0],1,true⟩,⟨24,.lst [I s,L b l c],2,true⟩,⟨33,.lst [SV.slc 9 0 1 1],1,true⟩,⟨68,.lst [SV.raw (Value.func (Fn.yield rc.l) #[] #[])],1,true⟩],E:=E:St })
 delta no4 no16 no32
 have hs:=H.hs
 have hl:=H.hl
 have X0:LI E [(s,b,l,c)] [(128,z)] 1 1 2 1:=⟨FLr.snoc (FLr.nil E) hs H.hz,rfl,⟨Nat.le_refl _,Nat.le_refl _⟩,⟨Nat.le_refl _,Nat.le_refl _⟩,rfl,by show z.length=8448;rw [H.hz.2.1,hl]⟩
 refine Ct_re [some 0,some 1,some 2,some 3,some 4,some 5,some 6,some 7,some 8,some 9,some 10,some 11,some 9] (T:=shA_1 s v b b0 b1 pb l c pl pc rc 1 1 2 [(s,b,l,c)] E) ?_ (wkG mr_ (h6:=(by repeat' first|exact True.intro|exact rfl|exact Or.inl rfl|exact (by decide:9<12)|refine And.intro ?_ ?_)))
 refine Ct_intro hC (y1_1 H X0 (by decide) fun E1 n1 cap1 tot1 rs1 k1 X1=>?_)
 refine Ct_intro hC (y2_1 hC hup (H.mono k1) X1 (by decide) fun E2 n2 cap2 tot2 rs2 k2 X2=>?_)
 have k2:=mt_ k1 k2
 refine Ct_intro hC (y5_1 hC (H.mono k2) X2 (by decide) fun E3 n3 cap3 tot3 rs3 k3 X3=>?_)
 exact h E3 n3 cap3 tot3 rs3 (mt_ k2 k3) ⟨X3.R,X3.hn,X3.hc,⟨X3.hb.1,by have:=X3.hb.2;omega⟩,X3.l1,X3.l2⟩
theorem b42_1 {s v:Int} {b b0 b1 pb:Option Addr} {l c pl pc:Nat} {z p:List Int} {KK:KT} (H:HI E s v b b0 b1 pb l c pl pc z p) (h:∀ (fb:Option Addr) (n cap:Nat) (E':Mem),Mem.le E E'->FL E' fb n cap (instL 128 z 1 v p)->KK (.tup [L fb n cap,I 0]) [⟨24,.lst [I s,L b l c],2,true⟩,⟨3,.lst [I v],1,true⟩,⟨22,.lst [L pb pl pc],1,true⟩,⟨56,.lst [L b0 4224 4224,L b1 4224 4224],2,true⟩,⟨3,.lst [I 1],1,true⟩,⟨3,.lst [I 4224],1,true⟩] E'):
  EntB CH 8 Try.f42 [.agg [I s,L b l c],.clo 43 [] [.loc 3 0,.loc 4 0,.loc 5 0,.loc 2 0,.loc 1 0]] [⟨24,.lst [I s,L b l c],2,true⟩,⟨3,.lst [I v],1,true⟩,⟨22,.lst [L pb pl pc],1,true⟩,⟨56,.lst [L b0 4224 4224,L b1 4224 4224],2,true⟩,⟨3,.lst [I 1],1,true⟩,⟨3,.lst [I 4224],1,true⟩] E (pubB (cloK 6 KK)):=by
 refine sm_ (?_:Ct CH 8 Try.f42 [1,1,0,1,0] 6 (pubB (cloK 6 KK)) { fr:=some (SV.agg [I s,L b l c])::some (SV.clo 43 [] [SV.loc 3 0,SV.loc 4 0,SV.loc 5 0,SV.loc 2 0,SV.loc 1 0])::oc 6 0::none::oc 7 0::oc 8 0::oc 10 0::none::none::none::some (SV.agg [I s,L b l c])::os 9 0 1 1::some (SV.clo 43 [] [SV.loc 3 0,SV.loc 4 0,SV.loc 5 0,SV.loc 2 0,SV.loc 1 0])::no16 (no4 []),bx:=[(⟨24,.lst [I s,L b l c],2,true⟩:Box),⟨3,.lst [I v],1,true⟩,⟨22,.lst [L pb pl pc],1,true⟩,⟨56,.lst [L b0 4224 4224,L b1 4224 4224],2,true⟩,⟨3,.lst [I 1],1,true⟩,⟨3,.lst [I 4224],1,true⟩,⟨24,.lst [I s,L b l c],2,true⟩,⟨33,.lst [L none 0 0],1,true⟩,⟨26,.lst [I 0],1,true⟩,⟨24,.lst [I s,L b l c],2,true⟩,⟨33,.lst [SV.slc 9 0 1 1],1,true⟩],E:=E:St })
 delta no4 no16
 exact RfQ okCH okGI (by kernel_rfl) (by kernel_rfl) Try.func43 ⟨by kernel_rfl,by kernel_rfl⟩ (gf:=43) (gfn:=Try.f43) (first:=[]) (caps:=[.loc 3 0,.loc 4 0,.loc 5 0,.loc 2 0,.loc 1 0]) (m:=8)
  (fun rc hrc hx=>en_1 hrc hx.up H fun E' n' cap' tot' rs' k X=>Cn_intro (pn_1 (z:=[]) (p:=[]) X fun fb E2 k2 F=>h fb n' cap' E2 (mt_ k k2) F)) rfl rfl
theorem sem42_1 {s v:Int} {b b0 b1 pb:Option Addr} {l c pl pc:Nat} {z p:List Int} {KK:KT} (H:HI E s v b b0 b1 pb l c pl pc z p) (h:∀ (fb:Option Addr) (n cap:Nat) (E':Mem),Mem.le E E'->FL E' fb n cap (instL 128 z 1 v p)->KK (.tup [L fb n cap,I 0]) [⟨24,.lst [I s,L b l c],2,true⟩,⟨3,.lst [I v],1,true⟩,⟨22,.lst [L pb pl pc],1,true⟩,⟨56,.lst [L b0 4224 4224,L b1 4224 4224],2,true⟩,⟨3,.lst [I 1],1,true⟩,⟨3,.lst [I 4224],1,true⟩] E'):
  CallSem Try.prog 42 [.agg [I s,L b l c],.clo 43 [] [.loc 3 0,.loc 4 0,.loc 5 0,.loc 2 0,.loc 1 0]] [⟨24,.lst [I s,L b l c],2,true⟩,⟨3,.lst [I v],1,true⟩,⟨22,.lst [L pb pl pc],1,true⟩,⟨56,.lst [L b0 4224 4224,L b1 4224 4224],2,true⟩,⟨3,.lst [I 1],1,true⟩,⟨3,.lst [I 4224],1,true⟩] E KK:=
 (bsm okCH Try.func42 (b42_1 H h)).pubB.clo
def tab42:CallT:=fun f args bx E K=>f=42/\∃ (s v:Int) (b b0 b1 pb:Option Addr) (l c pl pc:Nat) (z p:List Int),args=[.agg [I s,L b l c],.clo 43 [] [.loc 3 0,.loc 4 0,.loc 5 0,.loc 2 0,.loc 1 0]]/\((bx=[⟨24,.lst [I s,L b l c],2,true⟩,⟨3,.lst [I v],1,true⟩,⟨22,.lst [L pb pl pc],1,true⟩,⟨56,.lst [L b0 4224 4224,L b1 4224 4224],2,true⟩,⟨3,.lst [I 0],1,true⟩,⟨3,.lst [I 0],1,true⟩]/\HI E s v b b0 b1 pb l c pl pc z p/\∀ (fb:Option Addr) (n cap:Nat) (E':Mem),Mem.le E E'->FL E' fb n cap (instL 128 z 0 v p)->K (.tup [L fb n cap,I 0]) bx E')\/(bx=[⟨24,.lst [I s,L b l c],2,true⟩,⟨3,.lst [I v],1,true⟩,⟨22,.lst [L pb pl pc],1,true⟩,⟨56,.lst [L b0 4224 4224,L b1 4224 4224],2,true⟩,⟨3,.lst [I 1],1,true⟩,⟨3,.lst [I 4224],1,true⟩]/\HI E s v b b0 b1 pb l c pl pc z p/\∀ (fb:Option Addr) (n cap:Nat) (E':Mem),Mem.le E E'->FL E' fb n cap (instL 128 z 1 v p)->K (.tup [L fb n cap,I 0]) bx E'))
theorem tab42_ok (f:FuncId) (args:List SV) (bx:List Box) (E:Mem) (K:KT) (h:tab42 f args bx E K):CallSem Try.prog f args bx E K:=by
 obtain ⟨rfl,s,v,b,b0,b1,pb,l,c,pl,pc,z,p,rfl,h⟩:=h
 rcases h with ⟨rfl,H,h⟩|⟨rfl,H,h⟩
 ·exact sem42_0 H h
 ·exact sem42_1 H h
end Go.Proofs.Ytdblighgcpabnaa.BootOwn
