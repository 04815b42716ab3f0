/- What functions of the program compute; plain lemmas on it. Conditions: none. -/
import Derived.Test.YtnjmojacdkjfoaaBb24
import Derived.Test.YtnjmojacdkjfoaaSyBB
namespace Go.Proofs.Ytnjmojacdkjfoaa.BeaconOwn
open Go Go.Sx
set_option maxRecDepth 100000
set_option maxHeartbeats 4000000
set_option linter.unusedVariables false
set_option linter.unusedSimpArgs false
variable {E:Mem} {K:SV->Mem->Prop}
variable {rs rs':List (List Value)} {j k i c cf c27 c28 c12 c18 c13 c17 c16 c11 c14 l n14 n28 n13 n11 n12 n18 n27 n17 n16:Nat} {fr v n lo hi m d:Int} {xs:List (Int×Bc)} {α β:Type} {ts zs pre ys:List Int} {F:List Int×Bool->List Int->List Int×Bool} {x:Bc} {x26 x11 x19 x7 x6 x13 x9 x3 x16 x23 x12 x17 x24 x14 x22 x4 x20 x8 x10 x18 x21 x5 x15 x25:Option SV} {junk:List Box} {callW:CallT} {b0:Box} {b28 b27 b13 b16 b12 b17 b11 b18 b14:Option Addr} {D:Array Bool} {S:St} {E0:Mem} {W:World} {q:IntKind} {o:List Int×Bool}
structure IdxS (fr:Int) (xs:List (Int×Bc)) (i:Int):Prop where
 eq:idxF fr xs=i
noncomputable def tab72:CallT:=fun f args bx E K=>match f,args with
 | 72,[.slc 1 0 m cap,.clo 42 [] [.loc 0 0]]=>∃ (fr:Int) (rs:List (List Value)) (tot:Nat) (xs:List (Int×Bc)),(bx=[⟨3,.lst [I fr],1,true⟩,⟨61,.vals rs.flatten,tot,true⟩]/\SLrS E rs xs/\xs.length=m/\m<=1000000)/\∀ i:Int,IdxS fr xs i->K (I i) bx E
 | _,_=>False
theorem tab72_ok:∀ f args bx E K,tab72 f args bx E K->CallSem Try.prog f args bx E K:=by
 intro f args bx E K h
 unfold tab72 at h
 split at h
 ·obtain ⟨fr,rs,tot,xs,⟨rfl,hr,hm,hn⟩,hk⟩:=h
  exact CallSem.clo (bsm okT0 Try.func72 (ss72 hr.eq hm hn (hk _ ⟨rfl⟩) (fun _ _ q=>q)))
 ·exact h.elim
noncomputable def T1:Cx:={ P:=Try.prog,inl:=fun f=>List.contains [42] f,tab:=fun _ _ _ _=>False,isB:=fun f=>f==72,tabB:=tab72,opt:={ unroll:=0,carry:=[5,6] },muts:=mutsD }
theorem okT1:CxOK T1:=CxOK.four (fun _ _ _ _ h=>h.elim) (by kernel_rfl) (okInl (by kernel_rfl)) tab72_ok
theorem flat_len31 (h:∀ r∈rs,r.length=31):rs.flatten.length=rs.length*31:=by
 induction rs with
 | nil=>rfl
 | cons r rs ih=>rw [List.flatten_cons,List.length_append,h r (by simp),ih (fun r hr=>h r (by simp [hr])),List.length_cons];omega
theorem rows_get31 (h:∀ r∈rs,r.length=31) {r:List Value} (hr:rs[j]? =some r):(rs.flatten.drop (j*31)).take 31=r:=by
 obtain ⟨hj,e⟩:=List.getElem?_eq_some_iff.1 hr
 rw [flat_drop h,List.drop_eq_getElem_cons hj,List.flatten_cons,e]
 exact List.take_left' (h r (List.mem_of_getElem? hr))
structure Del (E:Mem) (rs:List (List Value)) (xs:List (Int×Bc)) (fr:Int) (rs':List (List Value)) (i j:Nat):Prop where
 len:rs'.length=xs.length
 lens:∀ r∈rs',r.length=31
 pre:SLr NearR E (rs'.take i) ((xs.take j).filter fun x=> !oldN fr x)
 cnt:((xs.take j).filter fun x=> !oldN fr x).length=i
 rest:∀ t:Nat,j<=t->rs'[t]? =rs[t]?
 lt:i<j
 le:j<=xs.length
theorem Del.start (hr:SLr NearR E rs xs) (hk:xs.findIdx? (oldN fr)=some k):Del E rs xs fr rs k (k+1):=by
 rw [List.findIdx?_eq_some_iff_getElem] at hk
 obtain ⟨hl,h1,h2⟩:=hk
 have e:(xs.take (k+1)).filter (fun x=> !oldN fr x)=xs.take k:=by
  rw [List.take_succ_eq_append_getElem hl,List.filter_append,List.filter_eq_self.2 (fun x hx=>by
   obtain ⟨t,ht,e⟩:=List.getElem_of_mem hx
   rw [List.length_take] at ht
   have:=h2 t (by omega)
   rw [List.getElem_take] at e
   rw [← e];simpa using this)]
  simp [h1]
 exact ⟨hr.1,hr.lens NearR_ok,by rw [e];exact hr.take k,by rw [e,List.length_take];omega,fun t _=>rfl,Nat.lt_succ_self _,hl⟩
theorem Del.drop (d:Del E rs xs fr rs' i j) {x:Int×Bc} (hx:xs[j]? =some x) (q:oldN fr x=true):Del E rs xs fr rs' i (j+1):=by
 obtain ⟨hl,e0⟩:=List.getElem?_eq_some_iff.1 hx
 have e:(xs.take (j+1)).filter (fun x=> !oldN fr x)=(xs.take j).filter fun x=> !oldN fr x:=by
  rw [List.take_succ_eq_append_getElem hl,List.filter_append,e0]
  simp [q]
 exact ⟨d.len,d.lens,by rw [e];exact d.pre,by rw [e];exact d.cnt,fun t ht=>d.rest t (by omega),by have:=d.lt;omega,hl⟩
theorem Del.keep (d:Del E rs xs fr rs' i j) {x:Int×Bc} (hx:xs[j]? =some x) {r:List Value} (hr:rs[j]? =some r) (q:oldN fr x=false) (hR:NearR E x r):Del E rs xs fr (rs'.set i r) (i+1) (j+1):=by
 obtain ⟨hl,e0⟩:=List.getElem?_eq_some_iff.1 hx
 have e:(xs.take (j+1)).filter (fun x=> !oldN fr x)=((xs.take j).filter fun x=> !oldN fr x)++[x]:=by
  rw [List.take_succ_eq_append_getElem hl,List.filter_append,e0]
  simp [q]
 have hlt:=d.lt
 have hle:=d.le
 have hlen:=d.len
 have e2:(rs'.set i r).take (i+1)=rs'.take i++[r]:=by
  rw [List.take_succ_eq_append_getElem (by rw [List.length_set];omega),List.take_set_of_le (Nat.le_refl _)]
  simp
 exact ⟨by rw [List.length_set];exact d.len,fun r' hr'=>by
  rcases List.mem_or_eq_of_mem_set hr' with h1|rfl
  ·exact d.lens r' h1
  ·exact NearR_ok.len hR,by rw [e,e2];exact d.pre.snoc hR,by rw [e,List.length_append,d.cnt];rfl,fun t ht=>by rw [List.getElem?_set_ne (by omega)];exact d.rest t (by omega),by omega,hl⟩
def sh41 (m cap tot:Nat) (vs:List Value) (fr:Int) (i j:Nat) (E:Mem):St:=⟨[os 1 0 m cap,some (.clo 42 [] [.loc 0 0]),none,none,none,oI (i:Nat),oI (j:Nat)]++List.replicate 35 none,[⟨3,.lst [I fr],1,true⟩,⟨61,.vals vs,tot,true⟩],E⟩
theorem rn41 {m cap tot:Nat} {KK Q:KT} (hr:SLr NearR E rs xs) (hm:xs.length=m) (hn:m<=1000000) (hc:m<=cap) (hi:Del E rs xs fr rs' i j)
  (h:j=m->i<m->KK (.slc 1 0 i cap) [⟨3,.lst [I fr],1,true⟩,⟨61,.vals ((rs'.take i).flatten++zerosV [.int .i64 0,.int .i64 0,.int .i64 0,.int .i64 0,.int .i64 0,.int .i64 0,.int .i64 0,.int .i64 0,.int .i64 0,.int .i64 0,.int .i64 0,.int .i64 0,.slice none 0 0,.slice none 0 0,.slice none 0 0,.slice none 0 0,.bool false,.slice none 0 0,.slice none 0 0,.slice none 0 0,.int .i64 0,.int .i64 0,.int .u64 0,.int .i64 0,.int .i64 0,.int .i64 0,.int .i64 0,.int .i64 0,.slice none 0 0,.slice none 0 0,.bool false] (m-i)),tot,true⟩] E) (hQ:∀ s bx',cloK 2 KK s bx' E->Q s bx' E)
  (ih:j<m->∀ (rs2:List (List Value)) (i2:Nat),Del E rs xs fr rs2 i2 (j+1)->Lp T1 8 Try.f41 [1,1,1,0,1,0] 2 Q (sh41 m cap tot rs2.flatten fr i2 (j+1) E)):Rnd T1 8 Try.f41 [1,1,1,0,1,0] 2 Q (sh41 m cap tot rs'.flatten fr i j E):=by
 refine sm_ (?_:bif decide ((NI j)<(NI m)) then req (0<=(NI j)/\(NI j)<(NI m)) (∃ (n:Int),∃ (n_1:Int),∃ (n_2:Int),∃ (n_3:Int),∃ (n_4:Int),∃ (n_5:Int),∃ (n_6:Int),∃ (n_7:Int),∃ (n_8:Int),∃ (n_9:Int),∃ (n_10:Int),∃ (n_11:Int),∃ (base:Option Addr),∃ (len:Nat),∃ (cap_1:Nat),∃ (base_1:Option Addr),∃ (len_1:Nat),∃ (cap_2:Nat),∃ (base_2:Option Addr),∃ (len_2:Nat),∃ (cap_3:Nat),∃ (base_3:Option Addr),∃ (len_3:Nat),∃ (cap_4:Nat),∃ (b:Bool),∃ (base_4:Option Addr),∃ (len_4:Nat),∃ (cap_5:Nat),∃ (base_5:Option Addr),∃ (len_5:Nat),∃ (cap_6:Nat),∃ (base_6:Option Addr),∃ (len_6:Nat),∃ (cap_7:Nat),∃ (n_12:Int),∃ (n_13:Int),∃ (n_14:Int),∃ (n_15:Int),∃ (n_16:Int),∃ (n_17:Int),∃ (n_18:Int),∃ (n_19:Int),∃ (base_7:Option Addr),∃ (len_7:Nat),∃ (cap_8:Nat),∃ (base_8:Option Addr),∃ (len_8:Nat),∃ (cap_9:Nat),∃ (b_1:Bool),LoadV T1.P 61 (List.flatten rs') (0+Int.toNat (NI j)*(31:Nat)) (SV.agg (I n::bcl n_1 n_2 n_3 n_4 n_5 n_6 n_7 n_8 n_9 n_10 n_11 b n_12 n_13 n_14 n_15 n_16 n_17 n_18 n_19 b_1 base len cap_1 base_1 len_1 cap_2 base_2 len_2 cap_3 base_3 len_3 cap_4 base_4 len_4 cap_5 base_5 len_5 cap_6 base_6 len_6 cap_7 base_7 len_7 cap_8 base_8 len_8 cap_9))/\bif decide (fr>=(0:Int)) then bif bif true then decide (fr<=(1000000000:Int)) else false then bif !bif true then decide (n<WI (fr-(3:Int))) else false then req (0<=(NI i)/\(NI i)<(NI m)) ((0:Nat)+Int.toNat (NI i)*(31:Nat)+(31:Nat)<=List.length (List.flatten rs')/\Lp T1 8 Try.f41 [(1:Nat),(1:Nat),(1:Nat),(0:Nat),(1:Nat),(0:Nat)] (2:Nat) Q { fr:=some (SV.slc 1 0 m cap)::some (SV.clo 42 [] [SV.loc 0 0])::none::none::none::oI (WI ((NI i)+1))::oI (WI ((NI j)+1))::no32 (no2 (none::[])),bx:=[(⟨(3:Nat),Row.lst [I fr],(1:Nat),true⟩:Box),⟨(61:Nat),Row.vals (layV (List.flatten rs') ((0:Nat)+Int.toNat (NI i)*(31:Nat)) [Value.int IntKind.i64 n,Value.int IntKind.i64 n_1,Value.int IntKind.i64 n_2,Value.int IntKind.i64 n_3,Value.int IntKind.i64 n_4,Value.int IntKind.i64 n_5,Value.int IntKind.i64 n_6,Value.int IntKind.i64 n_7,Value.int IntKind.i64 n_8,Value.int IntKind.i64 n_9,Value.int IntKind.i64 n_10,Value.int IntKind.i64 n_11,VS base len cap_1,VS base_1 len_1 cap_2,VS base_2 len_2 cap_3,VS base_3 len_3 cap_4,Value.bool b,VS base_4 len_4 cap_5,VS base_5 len_5 cap_6,VS base_6 len_6 cap_7,Value.int IntKind.i64 n_12,Value.int IntKind.i64 n_13,Value.int IntKind.u64 n_14,Value.int IntKind.i64 n_15,Value.int IntKind.i64 n_16,Value.int IntKind.i64 n_17,Value.int IntKind.i64 n_18,Value.int IntKind.i64 n_19,VS base_7 len_7 cap_8,VS base_8 len_8 cap_9,Value.bool b_1]),tot,true⟩,⟨(61:Nat),Row.lst (I n::bcl n_1 n_2 n_3 n_4 n_5 n_6 n_7 n_8 n_9 n_10 n_11 b n_12 n_13 n_14 n_15 n_16 n_17 n_18 n_19 b_1 base len cap_1 base_1 len_1 cap_2 base_2 len_2 cap_3 base_3 len_3 cap_4 base_4 len_4 cap_5 base_5 len_5 cap_6 base_6 len_6 cap_7 base_7 len_7 cap_8 base_8 len_8 cap_9),(31:Nat),true⟩,⟨(61:Nat),Row.lst (I n::bcl n_1 n_2 n_3 n_4 n_5 n_6 n_7 n_8 n_9 n_10 n_11 b n_12 n_13 n_14 n_15 n_16 n_17 n_18 n_19 b_1 base len cap_1 base_1 len_1 cap_2 base_2 len_2 cap_3 base_3 len_3 cap_4 base_4 len_4 cap_5 base_5 len_5 cap_6 base_6 len_6 cap_7 base_7 len_7 cap_8 base_8 len_8 cap_9),(31:Nat),true⟩],E:=E:St }) else Lp T1 8 Try.f41 [(1:Nat),(1:Nat),(1:Nat),(0:Nat),(1:Nat),(0:Nat)] (2:Nat) Q { fr:=some (SV.slc 1 0 m cap)::some (SV.clo 42 [] [SV.loc 0 0])::none::none::none::oI (NI i)::oI (WI ((NI j)+1))::no32 (no2 (none::[])),bx:=[(⟨(3:Nat),Row.lst [I fr],(1:Nat),true⟩:Box),⟨(61:Nat),Row.vals (List.flatten rs'),tot,true⟩,⟨(61:Nat),Row.lst (I n::bcl n_1 n_2 n_3 n_4 n_5 n_6 n_7 n_8 n_9 n_10 n_11 b n_12 n_13 n_14 n_15 n_16 n_17 n_18 n_19 b_1 base len cap_1 base_1 len_1 cap_2 base_2 len_2 cap_3 base_3 len_3 cap_4 base_4 len_4 cap_5 base_5 len_5 cap_6 base_6 len_6 cap_7 base_7 len_7 cap_8 base_8 len_8 cap_9),(31:Nat),true⟩,⟨(61:Nat),Row.lst (I n::bcl n_1 n_2 n_3 n_4 n_5 n_6 n_7 n_8 n_9 n_10 n_11 b n_12 n_13 n_14 n_15 n_16 n_17 n_18 n_19 b_1 base len cap_1 base_1 len_1 cap_2 base_2 len_2 cap_3 base_3 len_3 cap_4 base_4 len_4 cap_5 base_5 len_5 cap_6 base_6 len_6 cap_7 base_7 len_7 cap_8 base_8 len_8 cap_9),(31:Nat),true⟩],E:=E:St } else req (0<=(NI i)/\(NI i)<(NI m)) ((0:Nat)+Int.toNat (NI i)*(31:Nat)+(31:Nat)<=List.length (List.flatten rs')/\Lp T1 8 Try.f41 [(1:Nat),(1:Nat),(1:Nat),(0:Nat),(1:Nat),(0:Nat)] (2:Nat) Q { fr:=some (SV.slc 1 0 m cap)::some (SV.clo 42 [] [SV.loc 0 0])::none::none::none::oI (WI ((NI i)+1))::oI (WI ((NI j)+1))::no32 (no2 (none::[])),bx:=[(⟨(3:Nat),Row.lst [I fr],(1:Nat),true⟩:Box),⟨(61:Nat),Row.vals (layV (List.flatten rs') ((0:Nat)+Int.toNat (NI i)*(31:Nat)) [Value.int IntKind.i64 n,Value.int IntKind.i64 n_1,Value.int IntKind.i64 n_2,Value.int IntKind.i64 n_3,Value.int IntKind.i64 n_4,Value.int IntKind.i64 n_5,Value.int IntKind.i64 n_6,Value.int IntKind.i64 n_7,Value.int IntKind.i64 n_8,Value.int IntKind.i64 n_9,Value.int IntKind.i64 n_10,Value.int IntKind.i64 n_11,VS base len cap_1,VS base_1 len_1 cap_2,VS base_2 len_2 cap_3,VS base_3 len_3 cap_4,Value.bool b,VS base_4 len_4 cap_5,VS base_5 len_5 cap_6,VS base_6 len_6 cap_7,Value.int IntKind.i64 n_12,Value.int IntKind.i64 n_13,Value.int IntKind.u64 n_14,Value.int IntKind.i64 n_15,Value.int IntKind.i64 n_16,Value.int IntKind.i64 n_17,Value.int IntKind.i64 n_18,Value.int IntKind.i64 n_19,VS base_7 len_7 cap_8,VS base_8 len_8 cap_9,Value.bool b_1]),tot,true⟩,⟨(61:Nat),Row.lst (I n::bcl n_1 n_2 n_3 n_4 n_5 n_6 n_7 n_8 n_9 n_10 n_11 b n_12 n_13 n_14 n_15 n_16 n_17 n_18 n_19 b_1 base len cap_1 base_1 len_1 cap_2 base_2 len_2 cap_3 base_3 len_3 cap_4 base_4 len_4 cap_5 base_5 len_5 cap_6 base_6 len_6 cap_7 base_7 len_7 cap_8 base_8 len_8 cap_9),(31:Nat),true⟩,⟨(61:Nat),Row.lst (I n::bcl n_1 n_2 n_3 n_4 n_5 n_6 n_7 n_8 n_9 n_10 n_11 b n_12 n_13 n_14 n_15 n_16 n_17 n_18 n_19 b_1 base len cap_1 base_1 len_1 cap_2 base_2 len_2 cap_3 base_3 len_3 cap_4 base_4 len_4 cap_5 base_5 len_5 cap_6 base_6 len_6 cap_7 base_7 len_7 cap_8 base_8 len_8 cap_9),(31:Nat),true⟩],E:=E:St }) else req (0<=(NI i)/\(NI i)<(NI m)) (0+Int.toNat (NI i)*(31:Nat)+(31:Nat)<=List.length (List.flatten rs')/\Lp T1 8 Try.f41 [(1:Nat),(1:Nat),(1:Nat),(0:Nat),(1:Nat),(0:Nat)] (2:Nat) Q { fr:=some (SV.slc 1 0 m cap)::some (SV.clo 42 [] [SV.loc 0 0])::none::none::none::oI (WI ((NI i)+1))::oI (WI ((NI j)+1))::no32 (no2 (none::[])),bx:=[(⟨(3:Nat),Row.lst [I fr],(1:Nat),true⟩:Box),⟨(61:Nat),Row.vals (layV (List.flatten rs') ((0:Nat)+Int.toNat (NI i)*(31:Nat)) [Value.int IntKind.i64 n,Value.int IntKind.i64 n_1,Value.int IntKind.i64 n_2,Value.int IntKind.i64 n_3,Value.int IntKind.i64 n_4,Value.int IntKind.i64 n_5,Value.int IntKind.i64 n_6,Value.int IntKind.i64 n_7,Value.int IntKind.i64 n_8,Value.int IntKind.i64 n_9,Value.int IntKind.i64 n_10,Value.int IntKind.i64 n_11,VS base len cap_1,VS base_1 len_1 cap_2,VS base_2 len_2 cap_3,VS base_3 len_3 cap_4,Value.bool b,VS base_4 len_4 cap_5,VS base_5 len_5 cap_6,VS base_6 len_6 cap_7,Value.int IntKind.i64 n_12,Value.int IntKind.i64 n_13,Value.int IntKind.u64 n_14,Value.int IntKind.i64 n_15,Value.int IntKind.i64 n_16,Value.int IntKind.i64 n_17,Value.int IntKind.i64 n_18,Value.int IntKind.i64 n_19,VS base_7 len_7 cap_8,VS base_8 len_8 cap_9,Value.bool b_1]),tot,true⟩,⟨(61:Nat),Row.lst (I n::bcl n_1 n_2 n_3 n_4 n_5 n_6 n_7 n_8 n_9 n_10 n_11 b n_12 n_13 n_14 n_15 n_16 n_17 n_18 n_19 b_1 base len cap_1 base_1 len_1 cap_2 base_2 len_2 cap_3 base_3 len_3 cap_4 base_4 len_4 cap_5 base_5 len_5 cap_6 base_6 len_6 cap_7 base_7 len_7 cap_8 base_8 len_8 cap_9),(31:Nat),true⟩,⟨(61:Nat),Row.lst (I n::bcl n_1 n_2 n_3 n_4 n_5 n_6 n_7 n_8 n_9 n_10 n_11 b n_12 n_13 n_14 n_15 n_16 n_17 n_18 n_19 b_1 base len cap_1 base_1 len_1 cap_2 base_2 len_2 cap_3 base_3 len_3 cap_4 base_4 len_4 cap_5 base_5 len_5 cap_6 base_6 len_6 cap_7 base_7 len_7 cap_8 base_8 len_8 cap_9),(31:Nat),true⟩],E:=E:St })) else req (0<=(NI i)/\(NI i)<=(NI (toN none m))) ((if toN none cap=toN (some (NI i)) 0 then 0 else 0+toN (some (NI i)) 0*31)+(toN none m-toN (some (NI i)) 0)*31<=List.length (List.flatten rs')/\req (0<=(NI i)/\(NI i)<=(NI (toN none cap))) (Q (SV.slc 1 (if toN none cap=0 then 0 else 0) (toN (some (NI i)) m-0) (toN none cap-0)) [⟨3,.lst [I fr],1,true⟩,⟨61,.vals (layV (List.flatten rs') (if toN none cap=toN (some (NI i)) 0 then 0 else 0+toN (some (NI i)) 0*31) (zerosV [Value.int IntKind.i64 0,Value.int IntKind.i64 0,Value.int IntKind.i64 0,Value.int IntKind.i64 0,Value.int IntKind.i64 0,Value.int IntKind.i64 0,Value.int IntKind.i64 0,Value.int IntKind.i64 0,Value.int IntKind.i64 0,Value.int IntKind.i64 0,Value.int IntKind.i64 0,Value.int IntKind.i64 0,VS none 0 0,VS none 0 0,VS none 0 0,VS none 0 0,Value.bool false,VS none 0 0,VS none 0 0,VS none 0 0,Value.int IntKind.i64 0,Value.int IntKind.i64 0,Value.int IntKind.u64 0,Value.int IntKind.i64 0,Value.int IntKind.i64 0,Value.int IntKind.i64 0,Value.int IntKind.i64 0,Value.int IntKind.i64 0,VS none 0 0,VS none 0 0,Value.bool false] (toN none m-toN (some (NI i)) 0))),tot,true⟩] E)))
 delta WI NI VS no2 no32 bcl
 have hrl:=hr.1
 have hfl:rs'.flatten.length=m*31:=by rw [flat_len31 hi.lens,hi.len];omega
 have hij:=hi.lt
 have hjm:=hi.le
 refine condC (fun g=>?_) (fun g=>?_)
 ·have g:j<m:=by simpa using g
  have w:IntKind.wrap .i64 ((i:Int)+1)=((i+1:Nat):Int):=by rw [wrap_i64 (by omega)];omega
  have w2:IntKind.wrap .i64 ((j:Int)+1)=((j+1:Nat):Int):=by rw [wrap_i64 (by omega)];omega
  obtain ⟨x,hx⟩:∃ x,xs[j]? =some x:=⟨_,List.getElem?_eq_getElem (by omega)⟩
  obtain ⟨r,er⟩:∃ r,rs[j]? =some r:=⟨_,List.getElem?_eq_getElem (by omega)⟩
  have er':rs'[j]? =some r:=by rw [hi.rest j (Nat.le_refl _)];exact er
  have hR:=hr.2 j r x er hx
  obtain ⟨b11,n11,c11,b12,n12,c12,b13,n13,c13,b14,n14,c14,b16,n16,c16,b17,n17,c17,b18,n18,c18,b27,n27,c27,b28,n28,c28,e,hM⟩:=hR
  subst e
  have lt:LoadV Try.prog 61 rs'.flatten (j*31) (.agg (I x.1::[I x.2.from_,I x.2.asn,I x.2.boot,I x.2.hops,I x.2.bound,I x.2.fresh,I x.2.seq,I x.2.rank,I x.2.parent,I x.2.first,I x.2.next,L b11 n11 c11,L b12 n12 c12,L b13 n13 c13,L b14 n14 c14,B x.2.full,L b16 n16 c16,L b17 n17 c17,L b18 n18 c18,I x.2.nver,I x.2.size,.raw (.int .u64 x.2.dig),I x.2.start,I x.2.pages,I x.2.version,I x.2.page,I x.2.seed,L b27 n27 c27,L b28 n28 c28,B x.2.has])):=loadV_row (P:=Try.prog) (T:=61) rfl rfl (rows_get31 hi.lens er') rfl
  rw [show 0+Int.toNat (j:Int)*31=j*31 by rw [Int.toNat_natCast];omega,show 0+Int.toNat (i:Int)*31=i*31 by rw [Int.toNat_natCast];omega,w,w2]
  have keep:oldN fr x=false->0<=(i:Int)/\(i:Int)<(m:Int)/\i*31+31<=rs'.flatten.length/\Lp T1 8 Try.f41 [1,1,1,0,1,0] 2 Q (sh41 m cap tot (layV rs'.flatten (i*31) (.int .i64 x.1::[.int .i64 x.2.from_,.int .i64 x.2.asn,.int .i64 x.2.boot,.int .i64 x.2.hops,.int .i64 x.2.bound,.int .i64 x.2.fresh,.int .i64 x.2.seq,.int .i64 x.2.rank,.int .i64 x.2.parent,.int .i64 x.2.first,.int .i64 x.2.next,.slice b11 n11 c11,.slice b12 n12 c12,.slice b13 n13 c13,.slice b14 n14 c14,.bool x.2.full,.slice b16 n16 c16,.slice b17 n17 c17,.slice b18 n18 c18,.int .i64 x.2.nver,.int .i64 x.2.size,.int .u64 x.2.dig,.int .i64 x.2.start,.int .i64 x.2.pages,.int .i64 x.2.version,.int .i64 x.2.page,.int .i64 x.2.seed,.slice b27 n27 c27,.slice b28 n28 c28,.bool x.2.has])) fr (i+1) (j+1) E):=fun q=>by
   have d:=hi.keep hx er q ⟨b11,n11,c11,b12,n12,c12,b13,n13,c13,b14,n14,c14,b16,n16,c16,b17,n17,c17,b18,n18,c18,b27,n27,c27,b28,n28,c28,rfl,hM⟩
   refine ⟨by omega,by omega,by omega,?_⟩
   rw [layV_row hi.lens (by rw [hi.len];omega) rfl]
   exact ih g _ _ d
  have drop:oldN fr x=true->_:=fun q=>ih g _ _ (hi.drop hx q)
  refine req_intro (by omega) ⟨x.1,x.2.from_,x.2.asn,x.2.boot,x.2.hops,x.2.bound,x.2.fresh,x.2.seq,x.2.rank,x.2.parent,x.2.first,x.2.next,b11,n11,c11,b12,n12,c12,b13,n13,c13,b14,n14,c14,x.2.full,b16,n16,c16,b17,n17,c17,b18,n18,c18,x.2.nver,x.2.size,x.2.dig,x.2.start,x.2.pages,x.2.version,x.2.page,x.2.seed,b27,n27,c27,b28,n28,c28,x.2.has,lt,condC (fun g1=>condC (fun g2=>condC (fun g3=>?_) (fun g3=>?_)) (fun g2=>?_)) (fun g1=>?_)⟩
  ·have g1:0<=fr:=by simpa using g1
   have g2:fr<=1000000000:=by simpa using g2
   rw [wrap_i64 (by omega)] at g3
   obtain ⟨k1,k2,k3,k4⟩:=keep (by unfold oldN;rw [decide_eq_true g1,decide_eq_true g2];simpa using g3)
   exact req_intro ⟨k1,k2⟩ ⟨k3,Lp_re [some 0,some 1] k4 (wkH mr_)⟩
  ·have g1:0<=fr:=by simpa using g1
   have g2:fr<=1000000000:=by simpa using g2
   rw [wrap_i64 (by omega)] at g3
   exact Lp_re [some 0,some 1] (drop (by unfold oldN;rw [decide_eq_true g1,decide_eq_true g2];simpa using g3)) (wkH mr_)
  ·have g2:¬ fr<=1000000000:=by simpa using g2
   obtain ⟨k1,k2,k3,k4⟩:=keep (by unfold oldN;rw [decide_eq_false g2];simp)
   exact req_intro ⟨k1,k2⟩ ⟨k3,Lp_re [some 0,some 1] k4 (wkH mr_)⟩
  ·have g1:¬ 0<=fr:=by simpa using g1
   obtain ⟨k1,k2,k3,k4⟩:=keep (by unfold oldN;rw [decide_eq_false g1];simp)
   exact req_intro ⟨k1,k2⟩ ⟨k3,Lp_re [some 0,some 1] k4 (wkH mr_)⟩
 ·have g:j=m:=by simp at g;omega
  have hd:=h g (by omega)
  have hzl:(zerosV [.int .i64 0,.int .i64 0,.int .i64 0,.int .i64 0,.int .i64 0,.int .i64 0,.int .i64 0,.int .i64 0,.int .i64 0,.int .i64 0,.int .i64 0,.int .i64 0,.slice none 0 0,.slice none 0 0,.slice none 0 0,.slice none 0 0,.bool false,.slice none 0 0,.slice none 0 0,.slice none 0 0,.int .i64 0,.int .i64 0,.int .u64 0,.int .i64 0,.int .i64 0,.int .i64 0,.int .i64 0,.int .i64 0,.slice none 0 0,.slice none 0 0,.bool false] (m-i)).length=(m-i)*31:=by rw [zerosL];rfl
  have e1:layV rs'.flatten (i*31) (zerosV [.int .i64 0,.int .i64 0,.int .i64 0,.int .i64 0,.int .i64 0,.int .i64 0,.int .i64 0,.int .i64 0,.int .i64 0,.int .i64 0,.int .i64 0,.int .i64 0,.slice none 0 0,.slice none 0 0,.slice none 0 0,.slice none 0 0,.bool false,.slice none 0 0,.slice none 0 0,.slice none 0 0,.int .i64 0,.int .i64 0,.int .u64 0,.int .i64 0,.int .i64 0,.int .i64 0,.int .i64 0,.int .i64 0,.slice none 0 0,.slice none 0 0,.bool false] (m-i))=(rs'.take i).flatten++zerosV [.int .i64 0,.int .i64 0,.int .i64 0,.int .i64 0,.int .i64 0,.int .i64 0,.int .i64 0,.int .i64 0,.int .i64 0,.int .i64 0,.int .i64 0,.int .i64 0,.slice none 0 0,.slice none 0 0,.slice none 0 0,.slice none 0 0,.bool false,.slice none 0 0,.slice none 0 0,.slice none 0 0,.int .i64 0,.int .i64 0,.int .u64 0,.int .i64 0,.int .i64 0,.int .i64 0,.int .i64 0,.int .i64 0,.slice none 0 0,.slice none 0 0,.bool false] (m-i):=by
   unfold layV
   rw [flat_take hi.lens,List.drop_eq_nil_of_le (by rw [hzl,hfl];omega),List.append_nil]
  simp only [toNn,toNs,sub0,ifz,ifn (show ¬ cap=i from by omega),Nat.zero_add,Int.toNat_natCast]
  refine req_intro (by omega) ⟨by rw [hfl];omega,req_intro (by omega) ?_⟩
  rw [e1]
  exact hQ _ _ (cloK_intro [some 0,some 1] hd (wkH mr_))
theorem ss41 {m cap tot:Nat} {KK Q:KT} (hr:SLr NearR E rs xs) (hm:xs.length=m) (hn:m<=1000000) (hc:m<=cap)
  (h:∀ (rs2:List (List Value)) (n:Nat) (ws:List Value),SLr NearR E rs2 (xs.filter fun x=> !oldN fr x)->(xs.filter fun x=> !oldN fr x).length=n->n<=m->KK (.slc 1 0 n cap) [⟨3,.lst [I fr],1,true⟩,⟨61,.vals (rs2.flatten++ws),tot,true⟩] E) (hQ:∀ s bx',cloK 2 KK s bx' E->Q s bx' E):
  EntB T1 8 Try.f41 [.slc 1 0 m cap,.clo 42 [] [.loc 0 0]] [⟨3,.lst [I fr],1,true⟩,⟨61,.vals rs.flatten,tot,true⟩] E Q:=by
 refine sm_ (?_:∃ (fr_1:Int),∃ (rs_1:List (List Value)),∃ (tot_1:Nat),∃ (xs:List (Int×Bc)),([(⟨3,.lst [I fr],1,true⟩:Box),⟨61,.vals (List.flatten rs),tot,true⟩]=[(⟨3,.lst [I fr_1],1,true⟩:Box),⟨61,.vals (List.flatten rs_1),tot_1,true⟩]/\SLrS E rs_1 xs/\List.length xs=m/\m<=1000000)/\∀ (i:Int),IdxS fr_1 xs i->bif i==(-1:Int) then Q (SV.slc 1 0 m cap) [⟨3,.lst [I fr],1,true⟩,⟨61,.vals (List.flatten rs),tot,true⟩] E else Lp T1 8 Try.f41 [1,1,1,0,1,0] 2 Q { fr:=some (SV.slc 1 0 m cap)::some (SV.clo 42 [] [SV.loc 0 0])::none::none::oL none 0 0::oI i::oI (WI (i+(1:Int)))::none::os 1 0 m cap::some (SV.clo 42 [] [SV.loc 0 0])::oI i::oI i::oB (i==(-1:Int))::none::oI i::oI (WI (i+(1:Int)))::no16 (no8 (no2 [])),bx:=[(⟨3,.lst [I fr],1,true⟩:Box),⟨61,.vals (List.flatten rs),tot,true⟩],E:=E:St })
 delta WI no2 no8 no16
 refine ⟨fr,rs,tot,xs,⟨rfl,⟨hr⟩,hm,hn⟩,fun i0 hq=>condC (fun g=>?_) (fun g=>?_)⟩
 ·have hq:=hq.eq
  have g:i0= -1:=by simpa using g
  rw [g] at hq
  have all:xs.filter (fun x=> !oldN fr x)=xs:=List.filter_eq_self.2 fun x hx=>by
   unfold idxF at hq
   split at hq
   ·omega
   ·rename_i hf
    rw [List.findIdx?_eq_none_iff] at hf
    simpa using hf x hx
  have:=h rs m [] (by rw [all];exact hr) (by rw [all];exact hm) (Nat.le_refl _)
  rw [List.append_nil] at this
  exact hQ _ _ (cloK_intro [some 0,some 1] this (wkH mr_))
 ·have hq:=hq.eq
  have g:i0≠ -1:=by simpa using g
  obtain ⟨k,hk⟩:∃ k,xs.findIdx? (oldN fr)=some k:=by
   unfold idxF at hq
   split at hq
   ·rename_i k hk;exact ⟨k,hk⟩
   ·exact absurd hq.symm g
  have e0:i0=(k:Int):=by unfold idxF at hq;rw [hk] at hq;exact hq.symm
  subst e0
  have d0:=Del.start hr hk
  have hkm:=d0.le
  rw [show IntKind.wrap .i64 ((k:Int)+1)=((k+1:Nat):Int) by rw [wrap_i64 (by omega)];omega]
  exact Lp_re [some 0,some 1] (Lp_ind okT1 (fun z:{z:List (List Value)×Nat×Nat//Del E rs xs fr z.1 z.2.1 z.2.2}=>sh41 m cap tot z.1.1.flatten fr z.1.2.1 z.1.2.2 E) (fun z=>m-z.1.2.2) (fun z ih=>by
   obtain ⟨⟨rs',i,j⟩,d⟩:=z
   show Rnd T1 8 Try.f41 [1,1,1,0,1,0] 2 Q (sh41 m cap tot rs'.flatten fr i j E)
   refine rn41 hr hm hn hc d (fun e1 e2=>?_) hQ (fun g rs2 i2 d2=>ih ⟨(rs2,i2,j+1),d2⟩ (by show m-(j+1)<m-j;omega))
   have dd:Del E rs xs fr rs' i j:=d
   have e1:j=m:=e1
   have e2:i<m:=e2
   have f1:=dd.pre
   have f2:=dd.cnt
   rw [show xs.take j=xs from List.take_of_length_le (by omega)] at f1 f2
   exact h _ _ _ f1 f2 (by show i<=m;omega)) ⟨(rs,k,k+1),d0⟩) (wkH mr_)
structure LenS (xs:List (Int×Bc)) (n:Nat):Prop where
 eq:xs.length=n
noncomputable def tab41:CallT:=fun f args bx E K=>match f,args with
 | 41,[.slc 1 0 m cap,.clo 42 [] [.loc 0 0]]=>∃ (fr:Int) (rs:List (List Value)) (tot:Nat) (xs:List (Int×Bc)),(bx=[⟨3,.lst [I fr],1,true⟩,⟨61,.vals rs.flatten,tot,true⟩]/\SLrS E rs xs/\xs.length=m/\m<=1000000/\m<=cap)/\∀ (rs2:List (List Value)) (n:Nat) (ws:List Value),SLrS E rs2 (xs.filter fun x=> !oldN fr x)->LenS (xs.filter fun x=> !oldN fr x) n->n<=m->K (.slc 1 0 n cap) [⟨3,.lst [I fr],1,true⟩,⟨61,.vals (rs2.flatten++ws),tot,true⟩] E
 | f,args=>tabN f args bx E K
theorem tab41_ok:∀ f args bx E K,tab41 f args bx E K->CallSem Try.prog f args bx E K:=by
 intro f args bx E K h
 unfold tab41 at h
 split at h
 ·obtain ⟨fr,rs,tot,xs,⟨rfl,hr,hm,hn,hc⟩,hk⟩:=h
  exact CallSem.clo (bsm okT1 Try.func41 (ss41 hr.eq hm hn hc (fun rs2 n ws h1 h2 h3=>hk rs2 n ws ⟨h1⟩ ⟨h2⟩ h3) (fun _ _ q=>q)))
 ·exact tabN_ok _ _ _ _ _ h
theorem SL.winP {n:Nat} {R:RowR α} {xs:List α} (ok:RowOK k R) {base:Option Addr} {ws:List Value} (h:WinE E base (rs.flatten++ws)) (hr:SLr R E rs xs) (hn:xs.length=n) (hc:n<=c):SL R E (base.map fun x=>x.add 0) n c xs:=by
 have hl:rs.flatten.length=n*k:=by rw [hr.flat ok,hn]
 have:=h.2 0 rs.flatten.length n c (by simp)
 rw [List.drop_zero,List.take_left' rfl] at this
 refine ⟨rs,hr,hn,hc,.inr this,fun e=>?_⟩
 cases base with
 | none=>
  have h0:=h.1 rfl
  have h1:rs.flatten=[]:=(List.append_eq_nil_iff.1 h0).1
  rw [h1] at hl
  have hk:=ok.pos
  rcases Nat.eq_zero_or_pos n with hz|hz
  ·exact hz
  ·have:=Nat.mul_pos hz hk
   simp only [List.length_nil] at hl
   omega
 | some a=>cases e
noncomputable def T2:Cx:={ P:=Try.prog,inl:=fun f=>List.contains [] f,tab:=fun _ _ _ _=>False,isB:=fun f=>f==39||f==41,tabB:=tab41,opt:={ unroll:=0,carry:=[] },muts:=mutsD }
theorem okT2:CxOK T2:=CxOK.four (fun _ _ _ _ h=>h.elim) (by kernel_rfl) (okInl (by kernel_rfl)) tab41_ok
theorem ss20 {b:Option Addr} {n:Nat} (h0:SL NearR E b n c xs) (hn:n<=1000000)
  (h:∀ (b':Option Addr) (n' c':Nat) (E':Mem),Mem.le E E'->SL NearR E' b' n' c' (xs.filter fun x=> !oldN fr x)->K (L b' n' c') E'):Ent T2 8 Try.f20 [L b n c,I fr] E K:=by
 refine sm_ (?_:∃ (xs:List (Int×Bc)),(SL NearR E b n c xs/\n<=1000000)/\∀ (rs:List (List Value)) (cap' tot':Nat),SLrS E rs xs->n<=cap'->cap'*31<=tot'->Mem.le E E/\∃ (fr_1:Int),∃ (rs_1:List (List Value)),∃ (tot:Nat),∃ (xs:List (Int×Bc)),([(⟨3,Row.lst [I fr],1,true⟩:Box),⟨61,Row.vals (List.flatten rs),tot',true⟩]=[(⟨3,Row.lst [I fr_1],1,true⟩:Box),⟨61,Row.vals (List.flatten rs_1),tot,true⟩]/\SLrS E rs_1 xs/\List.length xs=n/\n<=1000000/\n<=cap')/\∀ (rs2:List (List Value)) (n_1:Nat) (ws:List Value),SLrS E rs2 (List.filter (fun (x:Int×Bc)=> !oldN fr_1 x) xs)->LenS (List.filter (fun (x:Int×Bc)=> !oldN fr_1 x) xs) n_1->n_1<=n->∀ (base:Option Addr) (E':Mem),Mem.le E E'->WinE E' base (List.flatten rs2++ws)->Mem.le E E'/\K (L (Option.map (fun (x:Addr)=>Addr.add x 0) base) n_1 cap') E')
 exact ⟨xs,⟨h0,hn⟩,fun rs cap' tot' hr c1 c2=>⟨mr_,fr,rs,tot',xs,⟨rfl,hr,h0.len,hn,c1⟩,fun rs2 m ws h1 h2 h3 base E2 h4 h5=>⟨h4,h _ m cap' E2 h4 (SL.winP NearR_ok h5 (h1.eq.mono NearR_ok h4) h2.eq (by omega))⟩⟩⟩
theorem unzig_zig (n:Int):unzig (zig n)=n:=by
 unfold zig unzig
 split
 ·split<;>omega
 ·split<;>omega
theorem zig_unzig (h:0<=v):zig (unzig v)=v:=by
 unfold unzig
 split
 ·unfold zig;split<;>omega
 ·unfold zig;split<;>omega
theorem zig_lt (h:okN n):zig n<562949953421312:=by
 unfold okN at h;unfold zig;split<;>omega
theorem getD_app {xs:List Int} (h:xs.length=i) (c:Int) (cs:List Int):(xs++(c::cs)++ts).getD i 0=c:=by
 rw [List.getD_eq_getElem?_getD,List.append_assoc,List.getElem?_append_right (by omega)]
 simp [h]
theorem rdF_dig {a:Int}:∀ (k:Nat) (j:Nat) (u' acc:Int) (pre:List Int),0<=u'->u'<128 ^ (k+1)->u'<128 ^ (j+1)->(0<u'\/pre.length=0)->okN (unzig (acc+u'*128 ^ pre.length))->
  rdF a (pre++digF j u'++ts) (k+1) pre.length acc=(unzig (acc+u'*128 ^ pre.length),a+pre.length+(digF j u').length,0):=by
 have last:∀ (k j:Nat) (u' acc:Int) (pre:List Int),0<=u'->u'<128->(0<u'\/pre.length=0)->okN (unzig (acc+u'*128 ^ pre.length))->
  rdF a (pre++digF j u'++ts) (k+1) pre.length acc=(unzig (acc+u'*128 ^ pre.length),a+pre.length+(digF j u').length,0):=by
  intro k j u' acc pre h0 h1 h3 h4
  have hd:digF j u'=[u']:=by cases j with |zero=>rfl|succ j=>unfold digF;rw [if_pos h1]
  rw [hd]
  unfold rdF
  rw [if_neg (by simp),getD_app rfl u' [],if_neg (by omega),if_pos ⟨h4,h3⟩]
  simp
 intro k
 induction k with
 | zero=>
  intro j u' acc pre h0 h1 h2 h3 h4
  exact last 0 j u' acc pre h0 (by simpa using h1) h3 h4
 | succ k ih=>
  intro j u' acc pre h0 h1 h2 h3 h4
  by_cases hu:u'<128
  ·exact last (k+1) j u' acc pre h0 hu h3 h4
  ·obtain ⟨j',rfl⟩:∃ j',j=j'+1:=by
    cases j with
    | zero=>simp at h2;omega
    | succ j=>exact ⟨j,rfl⟩
   have hd:digF (j'+1) u'=(u' % 128+128)::digF j' (u' / 128):=by
    show (if u'<128 then _ else _)=_
    rw [if_neg hu]
   have hm:0<=u' % 128/\u' % 128<128:=⟨Int.emod_nonneg _ (by omega),Int.emod_lt_of_pos _ (by omega)⟩
   rw [hd]
   unfold rdF
   rw [if_neg (by simp),getD_app rfl _ _,if_pos (by omega),if_neg (by omega)]
   have e1:pre++(u' % 128+128)::digF j' (u' / 128)++ts=(pre++[u' % 128+128])++digF j' (u' / 128)++ts:=by simp
   have e2:pre.length+1=(pre++[u' % 128+128]).length:=by simp
   have e3:acc+(u' % 128+128-128)*128 ^ pre.length+u' / 128*128 ^ (pre.length+1)=acc+u'*128 ^ pre.length:=by
    rw [Int.pow_succ,Int.add_sub_cancel,Int.add_assoc,Int.mul_comm (128 ^ pre.length) 128,← Int.mul_assoc,← Int.add_mul]
    have :u' % 128+u' / 128*128=u':=by omega
    rw [this]
   rw [e1,e2]
   rw [ih j' (u' / 128) _ (pre++[u' % 128+128]) (by omega) (by rw [Int.pow_succ] at h1;omega) (by rw [Int.pow_succ] at h2;omega) (.inl (by omega)) (by rw [← e2,e3];exact h4)]
   rw [← e2,e3]
   simp
   omega
theorem rd_put (h:okN n):rd (zs++dig (zig n)++ts) zs.length=(n,(zs.length:Int)+((dig (zig n)).length:Int),0):=by
 have hz:=zig_b h
 have hl:=zig_lt h
 unfold rd
 rw [if_neg (by simp;omega)]
 rw [Int.toNat_natCast,List.append_assoc,List.drop_left]
 have:=rdF_dig (a:=zs.length) (ts:=ts) 6 9 (zig n) 0 [] hz.1 (by simpa using hl) (by simp;omega) (.inr rfl) (by simpa [unzig_zig] using h)
 simp only [List.nil_append,List.length_nil,Int.zero_add,Int.pow_zero,Int.mul_one,unzig_zig] at this
 rw [show ((0:Nat):Int)=0 from rfl,Int.add_zero] at this
 exact this
theorem dig_len8 {u:Int} (h0:0<=u) (h:u<562949953421312):(dig u).length<=7/\((dig u).length=1↔u<128):=by
  have key:∀ (k j:Nat) (u:Int),0<=u->u<128 ^ (k+1)->(digF j u).length<=k+1:=by
    intro k
    induction k with
    | zero => intro j u h0 h1;have h1:u<128:=by simpa using h1
              cases j with
              | zero=>simp [digF]
              | succ j=>unfold digF;rw [if_pos h1];simp
    | succ k ih => intro j u h0 h1
                   cases j with
                   | zero=>simp [digF]
                   | succ j=>
                     unfold digF
                     split
                     · simp
                     · have:=ih j (u / 128) (by omega) (by rw [Int.pow_succ] at h1;omega)
                       simp;omega
  refine ⟨key 6 9 u h0 (by simpa using h),?_⟩
  by_cases hu:u<128
  · rw [dig_last hu];simp [hu]
  · rw [dig_step hu (by omega)]
    have:=(dig_len (u / 128)).1
    exact ⟨fun e=>by simp only [List.length_cons] at e;omega,fun e=>absurd e hu⟩
theorem rdF_inv {a:Int} {ws:List Int} (hw:∀ z∈ws,0<=z/\z<=255):∀ (k i:Nat) (u n e':Int),i+k=7->0<=u->rdF a ws k i u=(n,e',0)->
  ∃ (m:Nat) (w:Int),e'=a+m/\i<m/\m<=ws.length/\0<=w/\w<128 ^ k/\(0<w\/i=0)/\n=unzig (u+128 ^ i*w)/\dig w=(ws.drop i).take (m-i)
 | 0,i,u,n,e',_,_,h=>by simp [rdF] at h
 | k+1,i,u,n,e',hik,hu,h=>by
  unfold rdF at h
  split at h
  ·simp at h
  ·rename_i h1
   have hil:i<ws.length:=by omega
   have hc:0<=ws.getD i 0/\ws.getD i 0<=255:=by
    refine hw _ ?_
    rw [List.getD_eq_getElem?_getD,List.getElem?_eq_getElem hil];exact List.getElem_mem _
   have hdr:ws.drop i=ws.getD i 0::ws.drop (i+1):=by
    rw [List.drop_eq_getElem_cons hil,List.getD_eq_getElem?_getD,List.getElem?_eq_getElem hil];rfl
   split at h
   ·rename_i h2
    split at h
    ·simp at h
    ·rename_i h3
     have hp:(0:Int)<128 ^ i:=Int.pow_pos (by omega)
     have hu2:0<=u+(ws.getD i 0-128)*128 ^ i:=by
      have:=Int.mul_nonneg (show 0<=ws.getD i 0-128 by omega) (Int.le_of_lt hp);omega
     obtain ⟨m,w,g1,g2,g3,g4,g5,g6,g7,g8⟩:=rdF_inv hw k (i+1) _ n e' (by omega) hu2 h
     have hw0:0<w:=by rcases g6 with q|q;exact q;omega
     refine ⟨m,ws.getD i 0-128+128*w,g1,by omega,g3,by omega,?_,.inl (by omega),?_,?_⟩
     ·rw [Int.pow_succ];omega
     ·rw [g7,Int.pow_succ,Int.mul_add,Int.mul_comm (128 ^ i) (ws.getD i 0-128),Int.mul_assoc];congr 1;omega
     ·have hwb:w<4398046511104:=by
       have :(128:Int) ^ k<=128 ^ 6:=by
        have:=Nat.pow_le_pow_right (show 128>0 by omega) (show k<=6 by omega)
        exact_mod_cast this
       simp at this;omega
      rw [dig_step (by omega) (by omega),show (ws.getD i 0-128+128*w) / 128=w by omega,show (ws.getD i 0-128+128*w) % 128+128=ws.getD i 0 by omega,g8,hdr,show m-i=(m-(i+1))+1 by omega,List.take_succ_cons]
   ·rename_i h2
    split at h
    ·rename_i h3
     simp only [Prod.mk.injEq] at h
     obtain ⟨h4,h5,_⟩:=h
     refine ⟨i+1,ws.getD i 0,by omega,by omega,by omega,hc.1,?_,h3.2,?_,?_⟩
     ·have :(128:Int) ^ 1<=128 ^ (k+1):=by
       have:=Nat.pow_le_pow_right (show 128>0 by omega) (show 1<=k+1 by omega)
       exact_mod_cast this
      simp at this;omega
     ·rw [← h4,Int.mul_comm]
     ·rw [dig_last (by omega),hdr,show i+1-i=1 by omega,List.take_succ_cons,List.take_zero]
    ·simp at h
theorem dig_rd {a e':Int} (hw:∀ z∈zs,0<=z/\z<=255) (h:rd zs a=(n,e',0)):dig (zig n)=(zs.drop a.toNat).take (e'.toNat-a.toNat):=by
 have h0:=rd_end h
 unfold rd at h
 rw [if_neg (by omega)] at h
 obtain ⟨m,w,g1,g2,g3,g4,g5,g6,g7,g8⟩:=rdF_inv (fun z hz=>hw z (List.drop_subset _ _ hz)) 7 0 0 n e' rfl (Int.le_refl _) h
 rw [Int.pow_zero,Int.one_mul,Int.zero_add] at g7
 rw [g7,zig_unzig g4,g8,List.drop_zero]
 congr 1
 omega
theorem rdAt {L:List Int} {p:Int} (hL:L=pre++dig (zig n)++ts) (hp:p=pre.length) (h:okN n):rd L p=(n,p+((dig (zig n)).length:Int),0):=by
 subst hL hp;exact rd_put h
theorem take_add {p q:Nat} (h:p<=q):zs.take p++(zs.drop p).take (q-p)=zs.take q:=by
 rw [show q=p+(q-p) by omega,List.take_add];simp
theorem rdF_cut {a:Int}:∀ (k j q:Nat) (u' acc:Int) (pre:List Int),0<=u'->u'<128 ^ (k+1)->u'<128 ^ (j+1)->q<(digF j u').length->
  rdF a (pre++(digF j u').take q) (k+1) pre.length acc=(0,0,11):=by
 intro k
 induction k with
 | zero=>
  intro j q u' acc pre h0 h1 h2 h3
  have hu:u'<128:=by simpa using h1
  have hd:digF j u'=[u']:=by cases j with |zero=>rfl|succ j=>unfold digF;rw [if_pos hu]
  rw [hd] at h3 ⊢
  have :q=0:=by simp at h3;omega
  subst this
  unfold rdF
  rw [if_pos (by simp)]
 | succ k ih=>
  intro j q u' acc pre h0 h1 h2 h3
  cases q with
  | zero=>unfold rdF;rw [if_pos (by simp)]
  | succ q=>
   have hu:¬ u'<128:=fun hu=>by
    have hd:digF j u'=[u']:=by cases j with |zero=>rfl|succ j=>unfold digF;rw [if_pos hu]
    rw [hd] at h3;simp at h3
   obtain ⟨j',rfl⟩:∃ j',j=j'+1:=by
    cases j with
    | zero=>simp at h2;omega
    | succ j=>exact ⟨j,rfl⟩
   have hd:digF (j'+1) u'=(u' % 128+128)::digF j' (u' / 128):=by
    show (if u'<128 then _ else _)=_
    rw [if_neg hu]
   rw [hd] at h3 ⊢
   rw [List.take_succ_cons]
   have e0:(pre++(u' % 128+128)::(digF j' (u' / 128)).take q).getD pre.length 0=u' % 128+128:=by
    have:=getD_app (xs:=pre) (ts:=[]) rfl (u' % 128+128) ((digF j' (u' / 128)).take q)
    rwa [List.append_nil] at this
   unfold rdF
   rw [if_neg (by simp),e0,if_pos (by omega),if_neg (by omega)]
   have e1:pre++(u' % 128+128)::(digF j' (u' / 128)).take q=(pre++[u' % 128+128])++(digF j' (u' / 128)).take q:=by simp
   have e2:pre.length+1=(pre++[u' % 128+128]).length:=by simp
   rw [e1,e2]
   exact ih j' q (u' / 128) _ (pre++[u' % 128+128]) (by omega) (by rw [Int.pow_succ] at h1;omega) (by rw [Int.pow_succ] at h2;omega) (by simpa using h3)
theorem rd_cut {q:Nat} (h:okN n) (hq:q<(dig (zig n)).length):rd (zs++(dig (zig n)).take q) zs.length=(0,0,11):=by
 have hz:=zig_b h
 have hl:=zig_lt h
 unfold rd
 rw [if_neg (by simp;omega)]
 rw [Int.toNat_natCast,List.drop_left]
 have:=rdF_cut (a:=zs.length) 6 9 q (zig n) 0 [] hz.1 (by simpa using hl) (by simp;omega) hq
 simpa [dig] using this
theorem rd_stage {L:List Int} {p:Int} (hL:L=(pre++dig (zig n)++ts).take c) (hp:p=pre.length) (hc:pre.length<=c) (h:okN n):
  (c<pre.length+(dig (zig n)).length/\rd L p=(0,0,11))\/(pre.length+(dig (zig n)).length<=c/\rd L p=(n,p+((dig (zig n)).length:Int),0)):=by
 by_cases hcc:c<pre.length+(dig (zig n)).length
 ·refine .inl ⟨hcc,?_⟩
  have :L=pre++(dig (zig n)).take (c-pre.length):=by
   rw [hL,List.take_append_of_le_length (by rw [List.length_append];omega),List.take_append,List.take_of_length_le hc]
  rw [this,hp];exact rd_cut h (by omega)
 ·refine .inr ⟨by omega,?_⟩
  refine rdAt (pre:=pre) (ts:=ts.take (c-(pre++dig (zig n)).length)) ?_ hp h
  rw [hL,List.take_append,List.take_of_length_le (by rw [List.length_append];omega)]
abbrev WF (α:Type):=List Int×Bool->α->List Int×Bool
abbrev RF (α:Type):=List Int->(Int×Int)->α×(Int×Int)
structure Stp {α:Type} (ok:α->Prop) (W:WF α) (R:RF α):Prop where
 sticky:∀ zs a e,e≠0->(R zs (a,e)).2=(a,e)
 grow:∀ o v,ok v->(W o v).2=false->o.2=false/\∃ bs,(W o v).1=o.1++bs
 rdd:∀ o v F r,ok v->(W o v).2=false->F=(W o v).1++r->R F ((o.1.length:Int),0)=(v,(((W o v).1.length:Int),0))
 inv:∀ F a v a',(∀ z∈F,0<=z/\z<=255)->R F (a,0)=(v,(a',0))->0<=a->a<=F.length->a<=a'/\a'<=F.length/\W (F.take a.toNat,false) v=(F.take a'.toNat,false)
 cut:∀ o v F r (k:Nat),ok v->(W o v).2=false->F=((W o v).1++r).take k->o.1.length<=k->k<(W o v).1.length->(R F ((o.1.length:Int),0)).2.2=11
def wC {α β:Type} (W1:WF α) (W2:WF β):WF (α×β):=fun o v=>W2 (W1 o v.1) v.2
def rC {α β:Type} (R1:RF α) (R2:RF β):RF (α×β):=fun zs s=>(((R1 zs s).1,(R2 zs (R1 zs s).2).1),(R2 zs (R1 zs s).2).2)
theorem Stp.comp {ok1:α->Prop} {ok2:β->Prop} {W1:WF α} {W2:WF β} {R1:RF α} {R2:RF β} (h1:Stp ok1 W1 R1) (h2:Stp ok2 W2 R2):Stp (fun v=>ok1 v.1/\ok2 v.2) (wC W1 W2) (rC R1 R2) where
 sticky zs a e he:=by
  show (R2 zs (R1 zs (a,e)).2).2=(a,e)
  rw [h1.sticky zs a e he,h2.sticky zs a e he]
 grow o v hv h:=by
  obtain ⟨g1,b2,e2⟩:=h2.grow _ _ hv.2 h
  obtain ⟨g0,b1,e1⟩:=h1.grow _ _ hv.1 g1
  exact ⟨g0,b1++b2,by show (W2 (W1 o v.1) v.2).1=_;rw [e2,e1,List.append_assoc]⟩
 rdd o v F r hv h hF:=by
  obtain ⟨g1,b2,e2⟩:=h2.grow _ _ hv.2 h
  have q1:=h1.rdd o v.1 F (b2++r) hv.1 g1 (by rw [hF,← List.append_assoc,← e2];rfl)
  have q2:=h2.rdd (W1 o v.1) v.2 F r hv.2 h hF
  show (((R1 F _).1,(R2 F (R1 F _).2).1),(R2 F (R1 F _).2).2)=_
  rw [q1,q2];rfl
 inv F a v a' hb h h0 hl:=by
  have e:(R2 F (R1 F (a,0)).2).2=(a',0):=congrArg (fun t=>t.2) h
  have ev:((R1 F (a,0)).1,(R2 F (R1 F (a,0)).2).1)=v:=congrArg (fun t=>t.1) h
  generalize q1:R1 F (a,0)=t1 at e ev
  obtain ⟨v1,a1,e1⟩:=t1
  have z1:e1=0:=by
   by_cases z:e1=0
   ·exact z
   ·have:=h2.sticky F a1 e1 z
    rw [this] at e
    exact congrArg (fun t=>t.2) e
  subst z1
  obtain ⟨p1,p2,p3⟩:=h1.inv F a v1 a1 hb q1 h0 hl
  generalize q2:R2 F (a1,0)=t2 at e ev
  obtain ⟨v2,s2⟩:=t2
  simp only at e ev
  subst e
  obtain ⟨p4,p5,p6⟩:=h2.inv F a1 v2 a' hb q2 (by omega) p2
  subst ev
  exact ⟨by omega,p5,by show W2 (W1 _ v1) v2=_;rw [p3,p6]⟩
 cut o v F r k hv h hF ho hk:=by
  obtain ⟨g1,b2,e2⟩:=h2.grow _ _ hv.2 h
  have hF:F=((W2 (W1 o v.1) v.2).1++r).take k:=hF
  have hF2:F=((W1 o v.1).1++(b2++r)).take k:=by rw [hF,e2,List.append_assoc]
  show (R2 F (R1 F _).2).2.2=11
  by_cases hk1:k<(W1 o v.1).1.length
  ·have:=h1.cut o v.1 F (b2++r) k hv.1 g1 hF2 ho hk1
   generalize R1 F ((o.1.length:Int),0)=t1 at this
   obtain ⟨v1,a1,e1⟩:=t1
   simp only at this
   subst this
   show (R2 F (a1,11)).2.2=11
   rw [h2.sticky F a1 11 (by decide)]
  ·have hF3:F=(W1 o v.1).1++(b2++r).take (k-(W1 o v.1).1.length):=by
    rw [hF2,List.take_append,List.take_of_length_le (by omega)]
   have q1:=h1.rdd o v.1 F _ hv.1 g1 hF3
   rw [q1]
   exact h2.cut (W1 o v.1) v.2 F r k hv.2 h hF (by omega) hk
theorem okN_of (h: -10000000000000<=v/\v<=10000000000000):okN v:=by unfold okN;omega
theorem Stp.num (hb: -10000000000000<=lo/\hi<=10000000000000):Stp (fun _:Int=>True) (fun o v=>wnum o v lo hi) (fun zs s=>rnum zs s lo hi) where
 sticky zs a e he:=by show (rnum zs (a,e) lo hi).2=_;unfold rnum;rw [if_pos he]
 grow o v _ h:=by
  have g:=good_num h
  refine ⟨g.1,dig (zig v),?_⟩
  show (wnum o v lo hi).1=_
  rw [wnum_ok (by rw [g.1];simp;omega)]
 rdd o v F r _ h hF:=by
  have g:=good_num h
  have e:wnum o v lo hi=(o.1++dig (zig v),false):=wnum_ok (by rw [g.1];simp;omega)
  have hF:F=(wnum o v lo hi).1++r:=hF
  show rnum F _ lo hi=(v,(((wnum o v lo hi).1.length:Int),0))
  rw [e] at hF ⊢
  have q:=rdAt (p:=(o.1.length:Int)) hF rfl (okN_of (by omega))
  unfold rnum
  rw [if_neg (by simp)]
  simp only [q]
  rw [if_neg (by simp),if_neg (by omega)]
  simp
 inv F a v a' hF h h0 hl:=by
  have h:rnum F (a,0) lo hi=(v,(a',0)):=h
  unfold rnum at h
  rw [if_neg (by simp)] at h
  split at h
  rename_i v' e' er q
  split at h
  ·rename_i q1;simp only [Prod.mk.injEq] at h;exact absurd h.2.2 q1
  ·rename_i q1
   split at h
   ·simp at h
   ·rename_i q2
    simp only [Prod.mk.injEq] at h
    obtain ⟨rfl,rfl,_⟩:=h
    have er0:er=0:=by omega
    subst er0
    have q:rd F a=(v',e',0):=q
    have p:=rd_end q
    have d:=dig_rd hF q
    refine ⟨by omega,by omega,?_⟩
    show wnum _ v' lo hi=_
    rw [wnum_ok (by simp;omega),d,take_add (by omega)]
 cut o v F r k _ h hF ho hk:=by
  have g:=good_num h
  have e:wnum o v lo hi=(o.1++dig (zig v),false):=wnum_ok (by rw [g.1];simp;omega)
  have hF:F=((wnum o v lo hi).1++r).take k:=hF
  have hk:k<(wnum o v lo hi).1.length:=hk
  rw [e] at hF hk
  rcases rd_stage (p:=(o.1.length:Int)) (n:=v) hF rfl ho (okN_of (by omega)) with ⟨h1,h2⟩|⟨h1,h2⟩
  ·show (rnum F _ lo hi).2.2=11
   unfold rnum
   rw [if_neg (by simp)]
   simp only [h2]
   rfl
  ·simp at hk;omega
theorem rtake_err {a e:Int} (h:e≠0):(rtake zs (a,e) m).2=(a,e):=by unfold rtake;rw [if_pos h]
theorem rtake_ok {F:List Int} {r:List Int} (hF:F=pre++ys++r) (hm:(ys.length:Int)=m):rtake F ((pre.length:Int),0) m=(ys,((pre.length:Int)+m,0)):=by
 subst hF
 unfold rtake
 rw [if_neg (by simp),if_neg (by simp;omega)]
 congr 1
 rw [Int.toNat_natCast,List.append_assoc,List.drop_left' rfl,List.take_left' (by omega)]
theorem rtake_inv {F:List Int} {a a':Int} (h:rtake F (a,0) m=(ys,(a',0))) (h0:0<=a) (hl:a<=F.length) (hm:0<=m):a'=a+m/\a'<=F.length/\ys=(F.drop a.toNat).take m.toNat/\(ys.length:Int)=m:=by
 unfold rtake at h
 rw [if_neg (by simp)] at h
 split at h
 ·simp at h
 ·rename_i q
  simp only [Prod.mk.injEq] at h
  obtain ⟨rfl,h1,_⟩:=h
  simp only at q h1
  refine ⟨by omega,by omega,rfl,?_⟩
  rw [List.length_take,List.length_drop];omega
theorem rtake_cut {F:List Int} {n:Nat} (h:(F.length:Int)-n<m):(rtake F ((n:Int),0) m).2.2=11:=by
 unfold rtake
 rw [if_neg (by simp),if_pos h]
theorem Stp.dat (hm:0<=m):Stp (fun _:List Int=>True) (fun o v=>wdat o v m) (fun zs s=>rtake zs s m) where
 sticky zs a e he:=rtake_err he
 grow o v _ h:=⟨(good_dat h).1,v,rfl⟩
 rdd o v F r _ h hF:=by
  have g:=good_dat h
  have hF:F=o.1++v++r:=hF
  show rtake F _ m=(v,(((o.1++v).length:Int),0))
  rw [rtake_ok hF g.2,List.length_append]
  congr 2;omega
 inv F a v a' hF h h0 hl:=by
  obtain ⟨p1,p2,p3,p4⟩:=rtake_inv h h0 hl hm
  refine ⟨by omega,p2,?_⟩
  show (F.take a.toNat++v,(false||((v.length:Int) !=m)))=_
  rw [p3]
  rw [p3] at p4
  rw [show m.toNat=a'.toNat-a.toNat by omega] at p4 ⊢
  rw [take_add (by omega),p4];simp
 cut o v F r k _ h hF ho hk:=by
  have g:=good_dat h
  have hk:k<(o.1++v).length:=hk
  have hF:F=((o.1++v)++r).take k:=hF
  refine rtake_cut ?_
  rw [hF,List.length_take,List.length_append]
  rw [List.length_append] at hk ⊢
  omega
theorem dstep_eq {x:Int} (hd:0<=d) (hx:0<=x/\x<=255):dstep d x=d*256 % 18446744073709551616+x:=by
 obtain ⟨n,rfl⟩:=Int.eq_ofNat_of_zero_le hd
 obtain ⟨y,rfl⟩:=Int.eq_ofNat_of_zero_le hx.1
 have hy:y<256:=by omega
 unfold dstep
 have e1:IntKind.wrap .u64 ((n:Int)*2 ^ min (Int.toNat 8) (IntKind.bits .u64))=((n*256 % 18446744073709551616:Nat):Int):=by
  show ((n:Int)*256) % 18446744073709551616=_
  omega
 have e2:IntKind.wrap .u64 ((y:Nat):Int)=((y:Nat):Int):=Go.IntWalk.u64_in _ (by omega)
 have e3:((BitVec.ofInt (IntKind.bits .u64) ((n*256 % 18446744073709551616:Nat):Int)|||BitVec.ofInt (IntKind.bits .u64) ((y:Nat):Int)).toNat:Nat)=n*256 % 18446744073709551616+y:=by
  rw [BitVec.toNat_or,BitVec.ofInt_natCast,BitVec.ofInt_natCast,BitVec.toNat_ofNat,BitVec.toNat_ofNat]
  rw [show n*256 % 18446744073709551616 % 2 ^ (IntKind.bits .u64)=(n % 72057594037927936)<<<8 by rw [Nat.shiftLeft_eq];show n*256 % 18446744073709551616 % 18446744073709551616=_*256;omega,show y % 2 ^ (IntKind.bits .u64)=y by show y % 18446744073709551616=y;omega]
  rw [← Nat.shiftLeft_add_eq_or_of_lt (show y<2 ^ 8 from hy),Nat.shiftLeft_eq]
  show n % 72057594037927936*256+y=_
  omega
 rw [e1,e2,e3]
 show IntKind.wrap .u64 _=_
 rw [Go.IntWalk.u64_in _ (by omega)]
 omega
theorem dig8 (h:0<=v/\v<18446744073709551616):(digB v).foldl dstep 0=v:=by
 unfold digB
 simp only [List.foldl_cons,List.foldl_nil]
 rw [dstep_eq (d:=0) (by omega) (by omega)]
 rw [show (0:Int)*256 % 18446744073709551616+v / 72057594037927936 % 256=v / 72057594037927936 by omega]
 rw [dstep_eq (d:=v / 72057594037927936) (by omega) (by omega),show v / 72057594037927936*256 % 18446744073709551616+v / 281474976710656 % 256=v / 281474976710656 by omega]
 rw [dstep_eq (d:=v / 281474976710656) (by omega) (by omega),show v / 281474976710656*256 % 18446744073709551616+v / 1099511627776 % 256=v / 1099511627776 by omega]
 rw [dstep_eq (d:=v / 1099511627776) (by omega) (by omega),show v / 1099511627776*256 % 18446744073709551616+v / 4294967296 % 256=v / 4294967296 by omega]
 rw [dstep_eq (d:=v / 4294967296) (by omega) (by omega),show v / 4294967296*256 % 18446744073709551616+v / 16777216 % 256=v / 16777216 by omega]
 rw [dstep_eq (d:=v / 16777216) (by omega) (by omega),show v / 16777216*256 % 18446744073709551616+v / 65536 % 256=v / 65536 by omega]
 rw [dstep_eq (d:=v / 65536) (by omega) (by omega),show v / 65536*256 % 18446744073709551616+v / 256 % 256=v / 256 by omega]
 rw [dstep_eq (d:=v / 256) (by omega) (by omega)]
 omega
theorem dig8_inv (hl:ys.length=8) (hb:∀ z∈ys,0<=z/\z<=255):digB (ys.foldl dstep 0)=ys:=by
 match ys,hl with
 | [a,b,c,d,e,f,g,h],_=>
  have ha:=hb a (by simp)
  have hb':=hb b (by simp)
  have hc:=hb c (by simp)
  have hd:=hb d (by simp)
  have he:=hb e (by simp)
  have hf:=hb f (by simp)
  have hg:=hb g (by simp)
  have hh:=hb h (by simp)
  simp only [List.foldl_cons,List.foldl_nil]
  rw [dstep_eq (d:=0) (by omega) ha,show (0:Int)*256 % 18446744073709551616+a=a by omega]
  rw [dstep_eq (d:=a) (by omega) hb',show a*256 % 18446744073709551616+b=a*256+b by omega]
  rw [dstep_eq (d:=a*256+b) (by omega) hc,show (a*256+b)*256 % 18446744073709551616+c=(a*256+b)*256+c by omega]
  rw [dstep_eq (d:=(a*256+b)*256+c) (by omega) hd,show ((a*256+b)*256+c)*256 % 18446744073709551616+d=((a*256+b)*256+c)*256+d by omega]
  rw [dstep_eq (d:=((a*256+b)*256+c)*256+d) (by omega) he,show (((a*256+b)*256+c)*256+d)*256 % 18446744073709551616+e=(((a*256+b)*256+c)*256+d)*256+e by omega]
  rw [dstep_eq (d:=(((a*256+b)*256+c)*256+d)*256+e) (by omega) hf,show ((((a*256+b)*256+c)*256+d)*256+e)*256 % 18446744073709551616+f=((((a*256+b)*256+c)*256+d)*256+e)*256+f by omega]
  rw [dstep_eq (d:=((((a*256+b)*256+c)*256+d)*256+e)*256+f) (by omega) hg,show (((((a*256+b)*256+c)*256+d)*256+e)*256+f)*256 % 18446744073709551616+g=(((((a*256+b)*256+c)*256+d)*256+e)*256+f)*256+g by omega]
  rw [dstep_eq (d:=(((((a*256+b)*256+c)*256+d)*256+e)*256+f)*256+g) (by omega) hh,show ((((((a*256+b)*256+c)*256+d)*256+e)*256+f)*256+g)*256 % 18446744073709551616+h=((((((a*256+b)*256+c)*256+d)*256+e)*256+f)*256+g)*256+h by omega]
  unfold digB
  refine congr (congrArg List.cons ?_) (congr (congrArg List.cons ?_) (congr (congrArg List.cons ?_) (congr (congrArg List.cons ?_) (congr (congrArg List.cons ?_) (congr (congrArg List.cons ?_) (congr (congrArg List.cons ?_) (congr (congrArg List.cons ?_) rfl)))))))<;>omega
theorem Stp.dig:Stp (fun v:Int=>0<=v/\v<18446744073709551616) wdig (fun zs s=>rdig zs s 0) where
 sticky zs a e he:=by
  show (rdig zs (a,e) 0).2=_
  unfold rdig
  have:=rtake_err (zs:=zs) (a:=a) (m:=8) he
  split
  rename_i ys s' q
  rw [q] at this;exact this
 grow o v _ h:=⟨h,digB v,rfl⟩
 rdd o v F r hv h hF:=by
  have hF:F=o.1++digB v++r:=hF
  show rdig F _ 0=(v,(((o.1++digB v).length:Int),0))
  unfold rdig
  rw [rtake_ok (m:=8) hF rfl]
  simp only
  rw [dig8 hv,List.length_append]
  rfl
 inv F a v a' hF h h0 hl:=by
  have h:rdig F (a,0) 0=(v,(a',0)):=h
  unfold rdig at h
  split at h
  rename_i ys s' q
  simp only [Prod.mk.injEq] at h
  obtain ⟨rfl,rfl⟩:=h
  obtain ⟨p1,p2,p3,p4⟩:=rtake_inv q h0 hl (by decide)
  refine ⟨by omega,p2,?_⟩
  show (F.take a.toNat++digB _,false)=_
  have hb:∀ z∈ys,0<=z/\z<=255:=fun z hz=>by rw [p3] at hz;exact hF z (List.mem_of_mem_drop (List.mem_of_mem_take hz))
  rw [dig8_inv (by omega) hb,p3,show Int.toNat 8=a'.toNat-a.toNat by rw [p1];omega,take_add (by omega)]
 cut o v F r k hv h hF ho hk:=by
  have hk:k<(o.1++digB v).length:=hk
  have hF:F=((o.1++digB v)++r).take k:=hF
  show (rdig F _ 0).2.2=11
  have:=rtake_cut (F:=F) (n:=o.1.length) (m:=8) (by
   rw [hF,List.length_take,List.length_append]
   rw [List.length_append] at hk ⊢
   rw [digB_len] at hk ⊢
   omega)
  unfold rdig
  split
  rename_i ys s' q
  rw [q] at this;exact this
theorem Stp.uns:Stp (fun _:Int=>True) wuns (fun _ s=>((0:Int),s)) where
 sticky zs a e he:=rfl
 grow o v _ h:=⟨(good_uns h).1,[],by show o.1=_;simp⟩
 rdd o v F r _ h hF:=by rw [(good_uns h).2];rfl
 inv F a v a' hF h h0 hl:=by
  simp only [Prod.mk.injEq] at h
  obtain ⟨rfl,rfl,_⟩:=h
  exact ⟨Int.le_refl _,hl,rfl⟩
 cut o v F r k _ h hF ho hk:=by
  have hk:k<o.1.length:=hk
  omega
theorem Stp.map {ok:α->Prop} {ok':β->Prop} {W:WF α} {R:RF α} {W':WF β} {R':RF β} (h:Stp ok W R) (f:α->β) (hW:∀ o v,W' o (f v)=W o v) (hR:∀ zs s,R' zs s=(f (R zs s).1,(R zs s).2)) (hs:∀ b,ok' b->∃ v,ok v/\b=f v):Stp ok' W' R' where
 sticky zs a e he:=by rw [hR];exact h.sticky zs a e he
 grow o b hb hg:=by
  obtain ⟨v,hv,rfl⟩:=hs b hb
  rw [hW] at hg ⊢
  exact h.grow o v hv hg
 rdd o b F r hb hg hF:=by
  obtain ⟨v,hv,rfl⟩:=hs b hb
  rw [hW] at hg hF ⊢
  rw [hR,h.rdd o v F r hv hg hF]
 inv F a b a' hF hg h0 hl:=by
  rw [hR] at hg
  generalize q:R F (a,0)=t at hg
  obtain ⟨v,s⟩:=t
  simp only [Prod.mk.injEq] at hg
  obtain ⟨rfl,rfl⟩:=hg
  have:=h.inv F a v a' hF q h0 hl
  rw [hW];exact this
 cut o b F r k hb hg hF ho hk:=by
  obtain ⟨v,hv,rfl⟩:=hs b hb
  rw [hW] at hg hF hk
  rw [hR]
  exact h.cut o v F r k hv hg hF ho hk
theorem Stp.rows {ok:List Int->Prop} (h:Stp ok F (rEl cf)):∀ n:Nat,Stp (fun xs:List (List Int)=>xs.length=n/\∀ x∈xs,ok x) (fun o xs=>xs.foldl F o) (fun zs s=>rRs cf zs n s)
 | 0=>{
  sticky:=fun zs a e he=>rfl
  grow:=fun o v hv h=>by
   have e0:=List.eq_nil_of_length_eq_zero hv.1
   subst e0
   exact ⟨h,[],by simp⟩
  rdd:=fun o v F r hv h hF=>by
   have e0:=List.eq_nil_of_length_eq_zero hv.1
   subst e0
   rfl
  inv:=fun F a v a' hF h h0 hl=>by
   have h:(([]:List (List Int)),(a,(0:Int)))=(v,(a',0)):=h
   simp only [Prod.mk.injEq] at h
   obtain ⟨rfl,rfl,_⟩:=h
   exact ⟨Int.le_refl _,hl,rfl⟩
  cut:=fun o v F r k hv h hF ho hk=>by
   have e0:=List.eq_nil_of_length_eq_zero hv.1
   subst e0
   have hk:k<o.1.length:=hk
   omega }
 | n+1=>((Stp.rows h n).comp h).map (fun t=>t.1++[t.2]) (fun o v=>by show List.foldl F o (v.1++[v.2])=_;rw [List.foldl_append];rfl) (fun zs s=>rfl) (fun xs hx=>by
   have hne:xs≠[]:=fun e=>by rw [e] at hx;simp at hx
   refine ⟨(xs.dropLast,xs.getLast hne),⟨⟨by rw [List.length_dropLast,hx.1];rfl,fun x hm=>hx.2 x (List.dropLast_subset _ hm)⟩,hx.2 _ (List.getLast_mem hne)⟩,(List.dropLast_concat_getLast hne).symm⟩)
theorem rRs_len {cf:Nat} {zs:List Int}:∀ {n:Nat} {s:Int×Int},(rRs cf zs n s).1.length=n
 | 0,s=>rfl
 | n+1,s=>by
  show ((rRs cf zs n s).1++[_]).length=_
  rw [List.length_append,rRs_len];rfl
theorem Stp.list {ok:List Int->Prop} (h:Stp ok F (rEl cf)) (hsF:∀ o x,(F o x).2=false->o.2=false) (hb:hi<=10000000000000):Stp (fun xs:List (List Int)=>∀ x∈xs,ok x) (fun o xs=>wList F hi o xs) (fun zs s=>rLs cf hi zs s):=by
 have N:Stp (fun _:Int=>True) (fun o v=>wnum o v 0 hi) (fun zs s=>rnum zs s 0 hi):=Stp.num ⟨by decide,hb⟩
 have key:∀ (o:List Int×Bool) (xs:List (List Int)),(wList F hi o xs).2=false->wList F hi o xs=wC (fun o v=>wnum o v 0 hi) (fun o xs=>xs.foldl F o) o ((xs.length:Int),xs):=fun o xs hg=>by
  unfold wList at hg ⊢
  split at hg
  ·rename_i q
   have:=(good_num hg).2.2
   omega
  ·rename_i q
   rw [if_neg q];rfl
 refine ⟨fun zs a e he=>?_,fun o xs hx hg=>?_,fun o xs G r hx hg hG=>?_,fun G a xs a' hG hg h0 hl=>?_,fun o xs G r k hx hg hG ho hk=>?_⟩
 ·have q:=N.sticky zs a e he
  show (rRs cf zs (rnum zs (a,e) 0 hi).1.toNat (rnum zs (a,e) 0 hi).2).2=_
  rw [q]
  exact (Stp.rows h _).sticky zs a e he
 ·have hg':(wList F hi o xs).2=false:=hg
  show o.2=false/\∃ bs,(wList F hi o xs).1=_
  have e:=key o xs hg'
  rw [e] at hg' ⊢
  exact (N.comp (Stp.rows h xs.length)).grow o ((xs.length:Int),xs) ⟨trivial,rfl,hx⟩ hg'
 ·have hg':(wList F hi o xs).2=false:=hg
  have hG:G=(wList F hi o xs).1++r:=hG
  have e:=key o xs hg'
  rw [e] at hg' hG
  have q:=(N.comp (Stp.rows h xs.length)).rdd o ((xs.length:Int),xs) G r ⟨trivial,rfl,hx⟩ hg' hG
  show (rRs cf G (rnum G ((o.1.length:Int),0) 0 hi).1.toNat (rnum G ((o.1.length:Int),0) 0 hi).2)=(xs,(((wList F hi o xs).1.length:Int),0))
  rw [e]
  have q1:(rnum G ((o.1.length:Int),0) 0 hi).1=(xs.length:Int):=congrArg (fun t=>t.1.1) q
  have q2:(rRs cf G xs.length (rnum G ((o.1.length:Int),0) 0 hi).2).1=xs:=congrArg (fun t=>t.1.2) q
  have q3:=congrArg (fun t=>t.2) q
  rw [q1,Int.toNat_natCast]
  exact Prod.ext q2 q3
 ·have hg:(rRs cf G (rnum G (a,0) 0 hi).1.toNat (rnum G (a,0) 0 hi).2)=(xs,(a',0)):=hg
  generalize qn:rnum G (a,0) 0 hi=t at hg
  obtain ⟨n,s1⟩:=t
  simp only at hg
  have q:rC (fun zs s=>rnum zs s 0 hi) (fun zs s=>rRs cf zs n.toNat s) G (a,0)=((n,xs),(a',0)):=by
   show (((rnum G (a,0) 0 hi).1,(rRs cf G n.toNat (rnum G (a,0) 0 hi).2).1),(rRs cf G n.toNat (rnum G (a,0) 0 hi).2).2)=_
   rw [qn,hg]
  obtain ⟨p1,p2,p3⟩:=(N.comp (Stp.rows h n.toNat)).inv G a (n,xs) a' hG q h0 hl
  refine ⟨p1,p2,?_⟩
  have hlen:xs.length=n.toNat:=by have:=rRs_len (cf:=cf) (zs:=G) (n:=n.toNat) (s:=s1);rw [hg] at this;exact this
  have p3:xs.foldl F (wnum (G.take a.toNat,false) n 0 hi)=(G.take a'.toNat,false):=p3
  have hn:=good_num (good_fold hsF xs (by rw [p3]))
  have hnx:(xs.length:Int)=n:=by omega
  show wList F hi _ xs=_
  unfold wList
  rw [if_neg (by omega),hnx]
  exact p3
 ·have hg':(wList F hi o xs).2=false:=hg
  have hG:G=((wList F hi o xs).1++r).take k:=hG
  have hk:k<(wList F hi o xs).1.length:=hk
  have e:=key o xs hg'
  rw [e] at hg' hG hk
  obtain ⟨g1,b2,e2⟩:=(Stp.rows h xs.length).grow _ _ ⟨rfl,hx⟩ hg'
  have hG2:G=((wnum o (xs.length:Int) 0 hi).1++(b2++r)).take k:=by rw [hG];show ((List.foldl F (wnum o (xs.length:Int) 0 hi) xs).1++r).take k=_;rw [e2,List.append_assoc]
  show (rRs cf G (rnum G ((o.1.length:Int),0) 0 hi).1.toNat (rnum G ((o.1.length:Int),0) 0 hi).2).2.2=11
  by_cases hk1:k<(wnum o (xs.length:Int) 0 hi).1.length
  ·have:=N.cut o (xs.length:Int) G (b2++r) k trivial g1 hG2 ho hk1
   have this:(rnum G ((o.1.length:Int),0) 0 hi).2.2=11:=this
   generalize rnum G ((o.1.length:Int),0) 0 hi=t1 at this
   obtain ⟨v1,a1,e1⟩:=t1
   simp only at this
   subst this
   rw [(Stp.rows h _).sticky G a1 11 (by decide)]
  ·have hG3:G=(wnum o (xs.length:Int) 0 hi).1++(b2++r).take (k-(wnum o (xs.length:Int) 0 hi).1.length):=by
    rw [hG2,List.take_append,List.take_of_length_le (by omega)]
   have q1:rnum G ((o.1.length:Int),0) 0 hi=((xs.length:Int),_):=N.rdd o (xs.length:Int) G _ trivial g1 hG3
   rw [q1,Int.toNat_natCast]
   exact (Stp.rows h xs.length).cut (wnum o (xs.length:Int) 0 hi) xs G r k ⟨rfl,hx⟩ hg' hG (by omega) hk
theorem stp85:Stp (fun x:List Int=>x.length=4) (weI its85) (rEl 85):=((Stp.num (lo:=0) (hi:=59) ⟨by decide,by decide⟩).comp ((Stp.num (lo:=0) (hi:=15) ⟨by decide,by decide⟩).comp ((Stp.num (lo:=0) (hi:=59) ⟨by decide,by decide⟩).comp (Stp.num (lo:=0) (hi:=1000000000) ⟨by decide,by decide⟩)))).map (fun t=>[t.1,t.2.1,t.2.2.1,t.2.2.2]) (fun o v=>rfl) (fun zs s=>rfl) (fun b hb=>by
 match b,hb with
 | [a0,a1,a2,a3],_=>exact ⟨(a0,a1,a2,a3),⟨trivial,⟨trivial,⟨trivial,trivial⟩⟩⟩,rfl⟩)
theorem stp88:Stp (fun x:List Int=>x.length=5) (weI its88) (rEl 88):=((Stp.num (lo:=0) (hi:=59) ⟨by decide,by decide⟩).comp ((Stp.num (lo:=0) (hi:=15) ⟨by decide,by decide⟩).comp ((Stp.num (lo:=0) (hi:=59) ⟨by decide,by decide⟩).comp ((Stp.num (lo:=0) (hi:=1000000000) ⟨by decide,by decide⟩).comp (Stp.num (lo:=0) (hi:=1000000000) ⟨by decide,by decide⟩))))).map (fun t=>[t.1,t.2.1,t.2.2.1,t.2.2.2.1,t.2.2.2.2]) (fun o v=>rfl) (fun zs s=>rfl) (fun b hb=>by
 match b,hb with
 | [a0,a1,a2,a3,a4],_=>exact ⟨(a0,a1,a2,a3,a4),⟨trivial,⟨trivial,⟨trivial,⟨trivial,trivial⟩⟩⟩⟩,rfl⟩)
theorem stp90:Stp (fun x:List Int=>x.length=3) (weI its90) (rEl 90):=((Stp.num (lo:=0) (hi:=59) ⟨by decide,by decide⟩).comp ((Stp.num (lo:=0) (hi:=15) ⟨by decide,by decide⟩).comp (Stp.num (lo:=0) (hi:=59) ⟨by decide,by decide⟩))).map (fun t=>[t.1,t.2.1,t.2.2]) (fun o v=>rfl) (fun zs s=>rfl) (fun b hb=>by
 match b,hb with
 | [a0,a1,a2],_=>exact ⟨(a0,a1,a2),⟨trivial,⟨trivial,trivial⟩⟩,rfl⟩)
theorem stp92:Stp (fun x:List Int=>x.length=4) (weI its92) (rEl 92):=((Stp.num (lo:=0) (hi:=59) ⟨by decide,by decide⟩).comp ((Stp.num (lo:=0) (hi:=1000000000) ⟨by decide,by decide⟩).comp ((Stp.uns).comp (Stp.uns)))).map (fun t=>[t.1,t.2.2.1,t.2.1,t.2.2.2]) (fun o v=>rfl) (fun zs s=>rfl) (fun b hb=>by
 match b,hb with
 | [a0,a1,a2,a3],_=>exact ⟨(a0,a2,a1,a3),⟨trivial,⟨trivial,⟨trivial,trivial⟩⟩⟩,rfl⟩)
theorem stp94:Stp (fun x:List Int=>x.length=8) (weI its94) (rEl 94):=((Stp.num (lo:=1) (hi:=4) ⟨by decide,by decide⟩).comp ((Stp.num (lo:=0) (hi:=59) ⟨by decide,by decide⟩).comp ((Stp.num (lo:= -1) (hi:=59) ⟨by decide,by decide⟩).comp ((Stp.num (lo:=0) (hi:=10000000000000) ⟨by decide,by decide⟩).comp ((Stp.num (lo:=0) (hi:=10000000000000) ⟨by decide,by decide⟩).comp ((Stp.num (lo:=0) (hi:=2000000) ⟨by decide,by decide⟩).comp ((Stp.num (lo:=0) (hi:=500002) ⟨by decide,by decide⟩).comp (Stp.num (lo:=0) (hi:=500002) ⟨by decide,by decide⟩)))))))).map (fun t=>[t.1,t.2.1,t.2.2.1,t.2.2.2.1,t.2.2.2.2.1,t.2.2.2.2.2.1,t.2.2.2.2.2.2.1,t.2.2.2.2.2.2.2]) (fun o v=>rfl) (fun zs s=>rfl) (fun b hb=>by
 match b,hb with
 | [a0,a1,a2,a3,a4,a5,a6,a7],_=>exact ⟨(a0,a1,a2,a3,a4,a5,a6,a7),⟨trivial,⟨trivial,⟨trivial,⟨trivial,⟨trivial,⟨trivial,⟨trivial,trivial⟩⟩⟩⟩⟩⟩⟩,rfl⟩)
theorem stp68:Stp (fun x:List Int=>x.length=1) (weI its68) (rEl 68):=(Stp.num (lo:=0) (hi:=59) ⟨by decide,by decide⟩).map (fun t=>[t]) (fun o v=>rfl) (fun zs s=>rfl) (fun b hb=>by
 match b,hb with
 | [a0],_=>exact ⟨a0,trivial,rfl⟩)
theorem stp96:Stp (fun x:List Int=>∃ v,x=[v]/\0<=v/\v<18446744073709551616) weD (rEl 96):=Stp.dig.map (fun v=>[v]) (fun o v=>rfl) (fun zs s=>rfl) (fun b ⟨v,e,h⟩=>⟨v,h,e⟩)
structure BcWf (x:Bc):Prop where
 dig:0<=x.dig/\x.dig<18446744073709551616
 uses:∀ r∈x.uses,r.length=4
 grants:∀ r∈x.grants,r.length=5
 asks:∀ r∈x.asks,r.length=3
 below:∀ r∈x.below,r.length=4
 words:∀ r∈x.words,r.length=8
 mail:∀ r∈x.mail,r.length=8
 got:∀ r∈x.got,r.length=1
 proof:∀ r∈x.proof,∃ v,r=[v]/\0<=v/\v<18446744073709551616
abbrev TA:=Int×Int×Int×Int×Int×Int×Int×Int×Int×Int×Int×List (List Int)×List (List Int)×List (List Int)×List (List Int)×Int×List (List Int)×List (List Int)×List (List Int)×Int×Int×Int×Int×Int×Int×Int
def wA_:WF TA:=wC (fun o v=>wnum o v 0 59) (wC (fun o v=>wnum o v 0 1000000000) (wC (fun o v=>wnum o v 0 1000000000) (wC (fun o v=>wnum o v 0 60) (wC (fun o v=>wnum o v 0 2000) (wC (fun o v=>wnum o v 0 1000000000) (wC (fun o v=>wnum o v 0 1000000000) (wC (fun o v=>wnum o v 0 1000000) (wC (fun o v=>wnum o v (-1) 59) (wC (fun o v=>wnum o v 0 500002) (wC (fun o v=>wnum o v 0 500002) (wC (fun o xs=>wList (weI its85) 24 o xs) (wC (fun o xs=>wList (weI its88) 24 o xs) (wC (fun o xs=>wList (weI its90) 24 o xs) (wC (fun o xs=>wList (weI its92) 60 o xs) (wC (fun o v=>wnum o v 0 1) (wC (fun o xs=>wList (weI its94) 4 o xs) (wC (fun o xs=>wList (weI its94) 1 o xs) (wC (fun o xs=>wList (weI its68) 60 o xs) (wC (fun o v=>wnum o v 0 1000000000) (wC (fun o v=>wnum o v 0 4096) (wC wdig (wC (fun o v=>wnum o v 0 1000000000) (wC (fun o v=>wnum o v 0 16) (wC (fun o v=>wnum o v 0 1000000000) ((fun o v=>wnum o v 0 1))))))))))))))))))))))))))
def rA_:RF TA:=rC (fun zs s=>rnum zs s 0 59) (rC (fun zs s=>rnum zs s 0 1000000000) (rC (fun zs s=>rnum zs s 0 1000000000) (rC (fun zs s=>rnum zs s 0 60) (rC (fun zs s=>rnum zs s 0 2000) (rC (fun zs s=>rnum zs s 0 1000000000) (rC (fun zs s=>rnum zs s 0 1000000000) (rC (fun zs s=>rnum zs s 0 1000000) (rC (fun zs s=>rnum zs s (-1) 59) (rC (fun zs s=>rnum zs s 0 500002) (rC (fun zs s=>rnum zs s 0 500002) (rC (fun zs s=>rLs 85 24 zs s) (rC (fun zs s=>rLs 88 24 zs s) (rC (fun zs s=>rLs 90 24 zs s) (rC (fun zs s=>rLs 92 60 zs s) (rC (fun zs s=>rnum zs s 0 1) (rC (fun zs s=>rLs 94 4 zs s) (rC (fun zs s=>rLs 94 1 zs s) (rC (fun zs s=>rLs 68 60 zs s) (rC (fun zs s=>rnum zs s 0 1000000000) (rC (fun zs s=>rnum zs s 0 4096) (rC (fun zs s=>rdig zs s 0) (rC (fun zs s=>rnum zs s 0 1000000000) (rC (fun zs s=>rnum zs s 0 16) (rC (fun zs s=>rnum zs s 0 1000000000) ((fun zs s=>rnum zs s 0 1))))))))))))))))))))))))))
def okA_:TA->Prop:=(fun v=>(fun _:Int=>True) v.1/\((fun v=>(fun _:Int=>True) v.1/\((fun v=>(fun _:Int=>True) v.1/\((fun v=>(fun _:Int=>True) v.1/\((fun v=>(fun _:Int=>True) v.1/\((fun v=>(fun _:Int=>True) v.1/\((fun v=>(fun _:Int=>True) v.1/\((fun v=>(fun _:Int=>True) v.1/\((fun v=>(fun _:Int=>True) v.1/\((fun v=>(fun _:Int=>True) v.1/\((fun v=>(fun _:Int=>True) v.1/\((fun v=>(fun xs:List (List Int)=>∀ r∈xs,r.length=4) v.1/\((fun v=>(fun xs:List (List Int)=>∀ r∈xs,r.length=5) v.1/\((fun v=>(fun xs:List (List Int)=>∀ r∈xs,r.length=3) v.1/\((fun v=>(fun xs:List (List Int)=>∀ r∈xs,r.length=4) v.1/\((fun v=>(fun _:Int=>True) v.1/\((fun v=>(fun xs:List (List Int)=>∀ r∈xs,r.length=8) v.1/\((fun v=>(fun xs:List (List Int)=>∀ r∈xs,r.length=8) v.1/\((fun v=>(fun xs:List (List Int)=>∀ r∈xs,r.length=1) v.1/\((fun v=>(fun _:Int=>True) v.1/\((fun v=>(fun _:Int=>True) v.1/\((fun v=>(fun v:Int=>0<=v/\v<18446744073709551616) v.1/\((fun v=>(fun _:Int=>True) v.1/\((fun v=>(fun _:Int=>True) v.1/\((fun v=>(fun _:Int=>True) v.1/\((fun _:Int=>True)) v.2)) v.2)) v.2)) v.2)) v.2)) v.2)) v.2)) v.2)) v.2)) v.2)) v.2)) v.2)) v.2)) v.2)) v.2)) v.2)) v.2)) v.2)) v.2)) v.2)) v.2)) v.2)) v.2)) v.2)) v.2)
theorem stpA_:Stp okA_ wA_ rA_:=Stp.comp (Stp.num (lo:=0) (hi:=59) ⟨by decide,by decide⟩) (Stp.comp (Stp.num (lo:=0) (hi:=1000000000) ⟨by decide,by decide⟩) (Stp.comp (Stp.num (lo:=0) (hi:=1000000000) ⟨by decide,by decide⟩) (Stp.comp (Stp.num (lo:=0) (hi:=60) ⟨by decide,by decide⟩) (Stp.comp (Stp.num (lo:=0) (hi:=2000) ⟨by decide,by decide⟩) (Stp.comp (Stp.num (lo:=0) (hi:=1000000000) ⟨by decide,by decide⟩) (Stp.comp (Stp.num (lo:=0) (hi:=1000000000) ⟨by decide,by decide⟩) (Stp.comp (Stp.num (lo:=0) (hi:=1000000) ⟨by decide,by decide⟩) (Stp.comp (Stp.num (lo:= -1) (hi:=59) ⟨by decide,by decide⟩) (Stp.comp (Stp.num (lo:=0) (hi:=500002) ⟨by decide,by decide⟩) (Stp.comp (Stp.num (lo:=0) (hi:=500002) ⟨by decide,by decide⟩) (Stp.comp (Stp.list (hi:=24) stp85 (fun o x=>good_I x its85) (by decide)) (Stp.comp (Stp.list (hi:=24) stp88 (fun o x=>good_I x its88) (by decide)) (Stp.comp (Stp.list (hi:=24) stp90 (fun o x=>good_I x its90) (by decide)) (Stp.comp (Stp.list (hi:=60) stp92 (fun o x=>good_I x its92) (by decide)) (Stp.comp (Stp.num (lo:=0) (hi:=1) ⟨by decide,by decide⟩) (Stp.comp (Stp.list (hi:=4) stp94 (fun o x=>good_I x its94) (by decide)) (Stp.comp (Stp.list (hi:=1) stp94 (fun o x=>good_I x its94) (by decide)) (Stp.comp (Stp.list (hi:=60) stp68 (fun o x=>good_I x its68) (by decide)) (Stp.comp (Stp.num (lo:=0) (hi:=1000000000) ⟨by decide,by decide⟩) (Stp.comp (Stp.num (lo:=0) (hi:=4096) ⟨by decide,by decide⟩) (Stp.comp Stp.dig (Stp.comp (Stp.num (lo:=0) (hi:=1000000000) ⟨by decide,by decide⟩) (Stp.comp (Stp.num (lo:=0) (hi:=16) ⟨by decide,by decide⟩) (Stp.comp (Stp.num (lo:=0) (hi:=1000000000) ⟨by decide,by decide⟩) ((Stp.num (lo:=0) (hi:=1) ⟨by decide,by decide⟩))))))))))))))))))))))))))
abbrev TB:=Int×Int×List Int×List (List Int)
def wB_:WF TB:=wC (fun o v=>wnum o v 0 15) (wC (fun o v=>wnum o v 0 1000000000) (wC (fun o v=>wdat o v 16) ((fun o xs=>wList weD 5 o xs))))
def rB_:RF TB:=rC (fun zs s=>rnum zs s 0 15) (rC (fun zs s=>rnum zs s 0 1000000000) (rC (fun zs s=>rtake zs s 16) ((fun zs s=>rLs 96 5 zs s))))
def okB_:TB->Prop:=(fun v=>(fun _:Int=>True) v.1/\((fun v=>(fun _:Int=>True) v.1/\((fun v=>(fun _:List Int=>True) v.1/\((fun xs:List (List Int)=>∀ r∈xs,∃ v,r=[v]/\0<=v/\v<18446744073709551616)) v.2)) v.2)) v.2)
theorem stpB_:Stp okB_ wB_ rB_:=Stp.comp (Stp.num (lo:=0) (hi:=15) ⟨by decide,by decide⟩) (Stp.comp (Stp.num (lo:=0) (hi:=1000000000) ⟨by decide,by decide⟩) (Stp.comp (Stp.dat (m:=16) (by decide)) ((Stp.list (hi:=5) stp96 (fun o x h=>h) (by decide)))))
theorem rC_mk {R1:RF α} {R2:RF β} {s s1 s2:Int×Int} {v:α} {w:β} (h1:R1 zs s=(v,s1)) (h2:R2 zs s1=(w,s2)):rC R1 R2 zs s=((v,w),s2):=by unfold rC;rw [h1];simp only;rw [h2]
theorem rA_of {s0 s1 s2 s3 s4 s5 s6 s7 s8 s9 s10 s11 s12 s13 s14 s15 s16 s17 s18 s19 s20 s21 s22 s23 s24 s25 s26:Int×Int} {vf vh:Int} (d:DecA zs x s0 s1 s2 s3 s4 s5 s6 s7 s8 s9 s10 s11 s12 s13 s14 s15 s16 s17 s18 s19 s20 s21 s22 s23 s24 s25 s26 vf vh):rA_ zs s0=((x.from_,x.asn,x.boot,x.hops,x.bound,x.fresh,x.seq,x.rank,x.parent,x.first,x.next,x.uses,x.grants,x.asks,x.below,vf,x.words,x.mail,x.got,x.nver,x.size,x.dig,x.start,x.pages,x.version,vh),s26):=rC_mk d.q1 (rC_mk d.q2 (rC_mk d.q3 (rC_mk d.q4 (rC_mk d.q5 (rC_mk d.q6 (rC_mk d.q7 (rC_mk d.q8 (rC_mk d.q9 (rC_mk d.q10 (rC_mk d.q11 (rC_mk d.q12 (rC_mk d.q13 (rC_mk d.q14 (rC_mk d.q15 (rC_mk d.q16.1 (rC_mk d.q17 (rC_mk d.q18 (rC_mk d.q19 (rC_mk d.q20 (rC_mk d.q21 (rC_mk d.q22 (rC_mk d.q23 (rC_mk d.q24 (rC_mk d.q25 (d.q26.1)))))))))))))))))))))))))
theorem rB_of {s26 s27 s28 s29 s30:Int×Int} (d:DecB zs x s26 s27 s28 s29 s30):rB_ zs s26=((x.page,x.seed,x.data,x.proof),s30):=rC_mk d.q27 (rC_mk d.q28 (rC_mk d.q29 (d.q30)))
theorem okA_of (w:BcWf x):okA_ (x.from_,x.asn,x.boot,x.hops,x.bound,x.fresh,x.seq,x.rank,x.parent,x.first,x.next,x.uses,x.grants,x.asks,x.below,(if x.full then 1 else 0:Int),x.words,x.mail,x.got,x.nver,x.size,x.dig,x.start,x.pages,x.version,(if x.has then 1 else 0:Int)):=⟨trivial,⟨trivial,⟨trivial,⟨trivial,⟨trivial,⟨trivial,⟨trivial,⟨trivial,⟨trivial,⟨trivial,⟨trivial,⟨w.uses,⟨w.grants,⟨w.asks,⟨w.below,⟨trivial,⟨w.words,⟨w.mail,⟨w.got,⟨trivial,⟨trivial,⟨w.dig,⟨trivial,⟨trivial,⟨trivial,trivial⟩⟩⟩⟩⟩⟩⟩⟩⟩⟩⟩⟩⟩⟩⟩⟩⟩⟩⟩⟩⟩⟩⟩⟩⟩
theorem okB_of (w:BcWf x):okB_ (x.page,x.seed,x.data,x.proof):=⟨trivial,⟨trivial,⟨trivial,w.proof⟩⟩⟩
theorem bc_ext {y:Bc} (h_from_:y.from_=x.from_) (h_asn:y.asn=x.asn) (h_boot:y.boot=x.boot) (h_hops:y.hops=x.hops) (h_bound:y.bound=x.bound) (h_fresh:y.fresh=x.fresh) (h_seq:y.seq=x.seq) (h_rank:y.rank=x.rank) (h_parent:y.parent=x.parent) (h_first:y.first=x.first) (h_next:y.next=x.next) (h_uses:y.uses=x.uses) (h_grants:y.grants=x.grants) (h_asks:y.asks=x.asks) (h_below:y.below=x.below) (h_full:y.full=x.full) (h_words:y.words=x.words) (h_mail:y.mail=x.mail) (h_got:y.got=x.got) (h_nver:y.nver=x.nver) (h_size:y.size=x.size) (h_dig:y.dig=x.dig) (h_start:y.start=x.start) (h_pages:y.pages=x.pages) (h_version:y.version=x.version) (h_page:y.page=x.page) (h_seed:y.seed=x.seed) (h_data:y.data=x.data) (h_proof:y.proof=x.proof) (h_has:y.has=x.has):y=x:=by
 cases x;cases y
 simp only [Bc.mk.injEq]
 exact ⟨h_from_,h_asn,h_boot,h_hops,h_bound,h_fresh,h_seq,h_rank,h_parent,h_first,h_next,h_uses,h_grants,h_asks,h_below,h_full,h_words,h_mail,h_got,h_nver,h_size,h_dig,h_start,h_pages,h_version,h_page,h_seed,h_data,h_proof,h_has⟩
theorem flag_eq {b:Bool} (h:v=(if b=true then 1 else 0)):(v==1)=b:=by subst h;cases b<;>rfl
theorem enc_has (h:x.has=true):enc x=wB_ (encA x) (x.page,x.seed,x.data,x.proof):=by unfold enc;rw [if_pos h];rfl
theorem enc_no (h:¬ x.has=true) (g:(enc x).2=false):(enc x).1=(encA x).1/\x.page=0/\x.seed=0/\x.data=[]/\x.proof=[]:=by
 unfold enc at g ⊢
 rw [if_neg h] at g ⊢
 have g1:=good_uns g
 have g2:=good_uns g1.1
 have g3:=good_uns g2.1
 have q:=g1.2
 exact ⟨rfl,g3.2,g2.2,List.eq_nil_of_length_eq_zero (by omega),List.eq_nil_of_length_eq_zero (by omega)⟩
theorem dec_of_enc {y:Bc} {F r:List Int} {s':Int×Int} (w:BcWf x) (h:(enc x).2=false) (hF:F=(enc x).1++r) (d:DecR F y s'):y=x/\s'=(((enc x).1.length:Int),0):=by
 obtain ⟨s1,s2,s3,s4,s5,s6,s7,s8,s9,s10,s11,s12,s13,s14,s15,s16,s17,s18,s19,s20,s21,s22,s23,s24,s25,s26,vf,vh,dA,dB⟩:=d
 have hA:=enc_A h
 have gA:=rA_of dA
 have rdA:∀ r',F=(encA x).1++r'->rA_ F (0,0)=((x.from_,x.asn,x.boot,x.hops,x.bound,x.fresh,x.seq,x.rank,x.parent,x.first,x.next,x.uses,x.grants,x.asks,x.below,(if x.full then 1 else 0:Int),x.words,x.mail,x.got,x.nver,x.size,x.dig,x.start,x.pages,x.version,(if x.has then 1 else 0:Int)),(((encA x).1.length:Int),0)):=fun r' e=>stpA_.rdd ([],false) (x.from_,x.asn,x.boot,x.hops,x.bound,x.fresh,x.seq,x.rank,x.parent,x.first,x.next,x.uses,x.grants,x.asks,x.below,(if x.full then 1 else 0:Int),x.words,x.mail,x.got,x.nver,x.size,x.dig,x.start,x.pages,x.version,(if x.has then 1 else 0:Int)) F r' (okA_of w) hA e
 by_cases hx:x.has=true
 ·have e:=enc_has hx
  rw [e] at h hF ⊢
  obtain ⟨_,bs,eb⟩:=stpB_.grow _ _ (okB_of w) h
  have qA:=rdA (bs++r) (by rw [hF,eb,List.append_assoc])
  rw [gA] at qA
  simp only [Prod.mk.injEq] at qA
  obtain ⟨⟨h_from_,h_asn,h_boot,h_hops,h_bound,h_fresh,h_seq,h_rank,h_parent,h_first,h_next,h_uses,h_grants,h_asks,h_below,h_full,h_words,h_mail,h_got,h_nver,h_size,h_dig,h_start,h_pages,h_version,h_has⟩,hs⟩:=qA
  have h_full:y.full=x.full:=by rw [dA.q16.2];exact flag_eq h_full
  have h_has:y.has=x.has:=by rw [dA.q26.2];exact flag_eq h_has
  rw [if_pos (by rw [h_has];exact hx)] at dB
  obtain ⟨s27,s28,s29,dB⟩:=dB
  have gB:=rB_of dB
  have qB:=stpB_.rdd (encA x) (x.page,x.seed,x.data,x.proof) F r (okB_of w) h hF
  rw [hs,qB] at gB
  simp only [Prod.mk.injEq] at gB
  obtain ⟨⟨h_page,h_seed,h_data,h_proof⟩,hs2⟩:=gB
  replace h_page:=h_page.symm;replace h_seed:=h_seed.symm;replace h_data:=h_data.symm;replace h_proof:=h_proof.symm
  exact ⟨bc_ext h_from_ h_asn h_boot h_hops h_bound h_fresh h_seq h_rank h_parent h_first h_next h_uses h_grants h_asks h_below h_full h_words h_mail h_got h_nver h_size h_dig h_start h_pages h_version h_page h_seed h_data h_proof h_has,hs2.symm⟩
 ·obtain ⟨e1,e2,e3,e4,e5⟩:=enc_no hx h
  rw [e1] at hF ⊢
  have qA:=rdA r hF
  rw [gA] at qA
  simp only [Prod.mk.injEq] at qA
  obtain ⟨⟨h_from_,h_asn,h_boot,h_hops,h_bound,h_fresh,h_seq,h_rank,h_parent,h_first,h_next,h_uses,h_grants,h_asks,h_below,h_full,h_words,h_mail,h_got,h_nver,h_size,h_dig,h_start,h_pages,h_version,h_has⟩,hs⟩:=qA
  have h_full:y.full=x.full:=by rw [dA.q16.2];exact flag_eq h_full
  have h_has:y.has=x.has:=by rw [dA.q26.2];exact flag_eq h_has
  rw [if_neg (by rw [h_has];exact hx)] at dB
  obtain ⟨h_page,h_seed,h_data,h_proof,hs2⟩:=dB
  rw [← e2] at h_page;rw [← e3] at h_seed;rw [← e4] at h_data;rw [← e5] at h_proof
  exact ⟨bc_ext h_from_ h_asn h_boot h_hops h_bound h_fresh h_seq h_rank h_parent h_first h_next h_uses h_grants h_asks h_below h_full h_words h_mail h_got h_nver h_size h_dig h_start h_pages h_version h_page h_seed h_data h_proof h_has,by rw [hs2,hs]⟩
noncomputable def W31:Cx:={ P:=Try.prog,inl:=fun f=>List.contains [] f,tab:=fun _ _ _ _=>False,isB:=fun _=>false,tabB:=fun _ _ _ _ _=>False,opt:={ unroll:=0,carry:=[],cuts:=[3] },muts:=mutsD }
theorem okW31:CxOK W31:=CxOK.four (fun _ _ _ _ h=>h.elim) (by kernel_rfl) (okInl (by kernel_rfl)) (fun _ _ _ _ _ h=>h.elim)
@[irreducible] noncomputable def ops31:Array Oper:=match sub (bodyOf Try.f31) [1,1,1,0] with | .region _ o _=>o|_=>#[]
theorem ops31_eq:sub (bodyOf Try.f31) [1,1,1]= .seq (.region 3 ops31 true) .ret:=by kernel_rfl
noncomputable def stp31 (callW:CallT) (i:Nat) (S:St) (K:St->Prop):Prop:=match ops31[i]? with
 | some o=>stepW Try.prog callW ops31 o S K
 | none=>False
theorem st31_0 {K:St->Prop} (h:K ⟨[oc 0 0,oc 1 0,oc 2 0,x3,x4,x5,some (.agg [I 2,I 3]),x7,x8,x9,x10,x11,x12,x13,x14,x15,x16,x17,x18,x19,x20,x21,x22,x23,x24,x25,x26],(b0::⟨93,.lst [I 2,I 3],2,true⟩::⟨127,.lst [I 1,I 5,I (-1),I 300,I 0,I 0,I 1,I 2],8,true⟩::junk),E⟩):stp31 callW 0 ⟨[oc 0 0,oc 1 0,oc 2 0,x3,x4,x5,x6,x7,x8,x9,x10,x11,x12,x13,x14,x15,x16,x17,x18,x19,x20,x21,x22,x23,x24,x25,x26],b0::⟨93,.lst [I 2,I 3],2,true⟩::⟨127,.lst [I 1,I 5,I (-1),I 300,I 0,I 0,I 1,I 2],8,true⟩::junk,E⟩ K:=same (by kernel_rfl) h
theorem st31_1 {K:St->Prop} (h:K ⟨[oc 0 0,oc 1 0,oc 2 0,x3,x4,x5,some (.agg [I 2,I 3]),some (.agg [I 2,I 3,I 1,I 9]),x8,x9,x10,x11,x12,x13,x14,x15,x16,x17,x18,x19,x20,x21,x22,x23,x24,x25,x26],(b0::⟨93,.lst [I 2,I 3],2,true⟩::⟨127,.lst [I 1,I 5,I (-1),I 300,I 0,I 0,I 1,I 2],8,true⟩::junk),E⟩):stp31 callW 1 ⟨[oc 0 0,oc 1 0,oc 2 0,x3,x4,x5,some (.agg [I 2,I 3]),x7,x8,x9,x10,x11,x12,x13,x14,x15,x16,x17,x18,x19,x20,x21,x22,x23,x24,x25,x26],b0::⟨93,.lst [I 2,I 3],2,true⟩::⟨127,.lst [I 1,I 5,I (-1),I 300,I 0,I 0,I 1,I 2],8,true⟩::junk,E⟩ K:=same (by kernel_rfl) h
theorem st31_2 {K:St->Prop} (h:K ⟨[oc 0 0,oc 1 0,oc 2 0,x3,x4,x5,x6,some (.agg [I 2,I 3,I 1,I 9]),os (junk.length+3) 0 1 1,x9,x10,x11,x12,x13,x14,x15,x16,x17,x18,x19,x20,x21,x22,x23,x24,x25,x26],(b0::⟨93,.lst [I 2,I 3],2,true⟩::⟨127,.lst [I 1,I 5,I (-1),I 300,I 0,I 0,I 1,I 2],8,true⟩::junk++[⟨95,.lst [I 2,I 3,I 1,I 9],4,true⟩]),E⟩):stp31 callW 2 ⟨[oc 0 0,oc 1 0,oc 2 0,x3,x4,x5,x6,some (.agg [I 2,I 3,I 1,I 9]),x8,x9,x10,x11,x12,x13,x14,x15,x16,x17,x18,x19,x20,x21,x22,x23,x24,x25,x26],b0::⟨93,.lst [I 2,I 3],2,true⟩::⟨127,.lst [I 1,I 5,I (-1),I 300,I 0,I 0,I 1,I 2],8,true⟩::junk,E⟩ K:=same (by kernel_rfl) h
theorem st31_3 {K:St->Prop} (h:K ⟨[oc 0 0,oc 1 0,oc 2 0,x3,x4,x5,x6,x7,x8,some (.agg [I 2,I 3]),x10,x11,x12,x13,x14,x15,x16,x17,x18,x19,x20,x21,x22,x23,x24,x25,x26],(b0::⟨93,.lst [I 2,I 3],2,true⟩::⟨127,.lst [I 1,I 5,I (-1),I 300,I 0,I 0,I 1,I 2],8,true⟩::junk),E⟩):stp31 callW 3 ⟨[oc 0 0,oc 1 0,oc 2 0,x3,x4,x5,x6,x7,x8,x9,x10,x11,x12,x13,x14,x15,x16,x17,x18,x19,x20,x21,x22,x23,x24,x25,x26],b0::⟨93,.lst [I 2,I 3],2,true⟩::⟨127,.lst [I 1,I 5,I (-1),I 300,I 0,I 0,I 1,I 2],8,true⟩::junk,E⟩ K:=same (by kernel_rfl) h
theorem st31_4 {K:St->Prop} (h:K ⟨[oc 0 0,oc 1 0,oc 2 0,x3,x4,x5,x6,x7,x8,some (.agg [I 2,I 3]),some (.agg [I 2,I 3,I 2,I 9,I 17]),x11,x12,x13,x14,x15,x16,x17,x18,x19,x20,x21,x22,x23,x24,x25,x26],(b0::⟨93,.lst [I 2,I 3],2,true⟩::⟨127,.lst [I 1,I 5,I (-1),I 300,I 0,I 0,I 1,I 2],8,true⟩::junk),E⟩):stp31 callW 4 ⟨[oc 0 0,oc 1 0,oc 2 0,x3,x4,x5,x6,x7,x8,some (.agg [I 2,I 3]),x10,x11,x12,x13,x14,x15,x16,x17,x18,x19,x20,x21,x22,x23,x24,x25,x26],b0::⟨93,.lst [I 2,I 3],2,true⟩::⟨127,.lst [I 1,I 5,I (-1),I 300,I 0,I 0,I 1,I 2],8,true⟩::junk,E⟩ K:=same (by kernel_rfl) h
theorem st31_5 {K:St->Prop} (h:K ⟨[oc 0 0,oc 1 0,oc 2 0,x3,x4,x5,x6,x7,x8,x9,some (.agg [I 2,I 3,I 2,I 9,I 17]),os (junk.length+3) 0 1 1,x12,x13,x14,x15,x16,x17,x18,x19,x20,x21,x22,x23,x24,x25,x26],(b0::⟨93,.lst [I 2,I 3],2,true⟩::⟨127,.lst [I 1,I 5,I (-1),I 300,I 0,I 0,I 1,I 2],8,true⟩::junk++[⟨97,.lst [I 2,I 3,I 2,I 9,I 17],5,true⟩]),E⟩):stp31 callW 5 ⟨[oc 0 0,oc 1 0,oc 2 0,x3,x4,x5,x6,x7,x8,x9,some (.agg [I 2,I 3,I 2,I 9,I 17]),x11,x12,x13,x14,x15,x16,x17,x18,x19,x20,x21,x22,x23,x24,x25,x26],b0::⟨93,.lst [I 2,I 3],2,true⟩::⟨127,.lst [I 1,I 5,I (-1),I 300,I 0,I 0,I 1,I 2],8,true⟩::junk,E⟩ K:=same (by kernel_rfl) h
theorem st31_6 {K:St->Prop} (h:K ⟨[oc 0 0,oc 1 0,oc 2 0,x3,x4,x5,x6,x7,x8,x9,x10,x11,some (.agg [I 2,I 3]),x13,x14,x15,x16,x17,x18,x19,x20,x21,x22,x23,x24,x25,x26],(b0::⟨93,.lst [I 2,I 3],2,true⟩::⟨127,.lst [I 1,I 5,I (-1),I 300,I 0,I 0,I 1,I 2],8,true⟩::junk),E⟩):stp31 callW 6 ⟨[oc 0 0,oc 1 0,oc 2 0,x3,x4,x5,x6,x7,x8,x9,x10,x11,x12,x13,x14,x15,x16,x17,x18,x19,x20,x21,x22,x23,x24,x25,x26],b0::⟨93,.lst [I 2,I 3],2,true⟩::⟨127,.lst [I 1,I 5,I (-1),I 300,I 0,I 0,I 1,I 2],8,true⟩::junk,E⟩ K:=same (by kernel_rfl) h
theorem st31_7 {K:St->Prop} (h:K ⟨[oc 0 0,oc 1 0,oc 2 0,x3,x4,x5,x6,x7,x8,x9,x10,x11,some (.agg [I 2,I 3]),some (.agg [I 2,I 3,I 4]),x14,x15,x16,x17,x18,x19,x20,x21,x22,x23,x24,x25,x26],(b0::⟨93,.lst [I 2,I 3],2,true⟩::⟨127,.lst [I 1,I 5,I (-1),I 300,I 0,I 0,I 1,I 2],8,true⟩::junk),E⟩):stp31 callW 7 ⟨[oc 0 0,oc 1 0,oc 2 0,x3,x4,x5,x6,x7,x8,x9,x10,x11,some (.agg [I 2,I 3]),x13,x14,x15,x16,x17,x18,x19,x20,x21,x22,x23,x24,x25,x26],b0::⟨93,.lst [I 2,I 3],2,true⟩::⟨127,.lst [I 1,I 5,I (-1),I 300,I 0,I 0,I 1,I 2],8,true⟩::junk,E⟩ K:=same (by kernel_rfl) h
theorem st31_8 {K:St->Prop} (h:K ⟨[oc 0 0,oc 1 0,oc 2 0,x3,x4,x5,x6,x7,x8,x9,x10,x11,x12,some (.agg [I 2,I 3,I 4]),os (junk.length+3) 0 1 1,x15,x16,x17,x18,x19,x20,x21,x22,x23,x24,x25,x26],(b0::⟨93,.lst [I 2,I 3],2,true⟩::⟨127,.lst [I 1,I 5,I (-1),I 300,I 0,I 0,I 1,I 2],8,true⟩::junk++[⟨99,.lst [I 2,I 3,I 4],3,true⟩]),E⟩):stp31 callW 8 ⟨[oc 0 0,oc 1 0,oc 2 0,x3,x4,x5,x6,x7,x8,x9,x10,x11,x12,some (.agg [I 2,I 3,I 4]),x14,x15,x16,x17,x18,x19,x20,x21,x22,x23,x24,x25,x26],b0::⟨93,.lst [I 2,I 3],2,true⟩::⟨127,.lst [I 1,I 5,I (-1),I 300,I 0,I 0,I 1,I 2],8,true⟩::junk,E⟩ K:=same (by kernel_rfl) h
theorem st31_9 {K:St->Prop} (h:K ⟨[oc 0 0,oc 1 0,oc 2 0,x3,x4,x5,x6,x7,x8,x9,x10,x11,x12,x13,x14,some (.agg [I 6,I 0,I 70,I 0]),x16,x17,x18,x19,x20,x21,x22,x23,x24,x25,x26],(b0::⟨93,.lst [I 2,I 3],2,true⟩::⟨127,.lst [I 1,I 5,I (-1),I 300,I 0,I 0,I 1,I 2],8,true⟩::junk),E⟩):stp31 callW 9 ⟨[oc 0 0,oc 1 0,oc 2 0,x3,x4,x5,x6,x7,x8,x9,x10,x11,x12,x13,x14,x15,x16,x17,x18,x19,x20,x21,x22,x23,x24,x25,x26],b0::⟨93,.lst [I 2,I 3],2,true⟩::⟨127,.lst [I 1,I 5,I (-1),I 300,I 0,I 0,I 1,I 2],8,true⟩::junk,E⟩ K:=same (by kernel_rfl) h
theorem st31_10 {K:St->Prop} (h:K ⟨[oc 0 0,oc 1 0,oc 2 0,x3,x4,x5,x6,x7,x8,x9,x10,x11,x12,x13,x14,some (.agg [I 6,I 0,I 70,I 0]),os (junk.length+3) 0 1 1,x17,x18,x19,x20,x21,x22,x23,x24,x25,x26],(b0::⟨93,.lst [I 2,I 3],2,true⟩::⟨127,.lst [I 1,I 5,I (-1),I 300,I 0,I 0,I 1,I 2],8,true⟩::junk++[⟨101,.lst [I 6,I 0,I 70,I 0],4,true⟩]),E⟩):stp31 callW 10 ⟨[oc 0 0,oc 1 0,oc 2 0,x3,x4,x5,x6,x7,x8,x9,x10,x11,x12,x13,x14,some (.agg [I 6,I 0,I 70,I 0]),x16,x17,x18,x19,x20,x21,x22,x23,x24,x25,x26],b0::⟨93,.lst [I 2,I 3],2,true⟩::⟨127,.lst [I 1,I 5,I (-1),I 300,I 0,I 0,I 1,I 2],8,true⟩::junk,E⟩ K:=same (by kernel_rfl) h
theorem st31_11 {K:St->Prop} (h:K ⟨[oc 0 0,oc 1 0,oc 2 0,x3,x4,x5,x6,x7,x8,x9,x10,x11,x12,x13,x14,x15,x16,some (.agg [I 1,I 5,I (-1),I 300,I 0,I 0,I 1,I 2]),x18,x19,x20,x21,x22,x23,x24,x25,x26],(b0::⟨93,.lst [I 2,I 3],2,true⟩::⟨127,.lst [I 1,I 5,I (-1),I 300,I 0,I 0,I 1,I 2],8,true⟩::junk),E⟩):stp31 callW 11 ⟨[oc 0 0,oc 1 0,oc 2 0,x3,x4,x5,x6,x7,x8,x9,x10,x11,x12,x13,x14,x15,x16,x17,x18,x19,x20,x21,x22,x23,x24,x25,x26],b0::⟨93,.lst [I 2,I 3],2,true⟩::⟨127,.lst [I 1,I 5,I (-1),I 300,I 0,I 0,I 1,I 2],8,true⟩::junk,E⟩ K:=same (by kernel_rfl) h
theorem st31_12 {K:St->Prop} (h:K ⟨[oc 0 0,oc 1 0,oc 2 0,x3,x4,x5,x6,x7,x8,x9,x10,x11,x12,x13,x14,x15,x16,some (.agg [I 1,I 5,I (-1),I 300,I 0,I 0,I 1,I 2]),os (junk.length+3) 0 1 1,x19,x20,x21,x22,x23,x24,x25,x26],(b0::⟨93,.lst [I 2,I 3],2,true⟩::⟨127,.lst [I 1,I 5,I (-1),I 300,I 0,I 0,I 1,I 2],8,true⟩::junk++[⟨127,.lst [I 1,I 5,I (-1),I 300,I 0,I 0,I 1,I 2],8,true⟩]),E⟩):stp31 callW 12 ⟨[oc 0 0,oc 1 0,oc 2 0,x3,x4,x5,x6,x7,x8,x9,x10,x11,x12,x13,x14,x15,x16,some (.agg [I 1,I 5,I (-1),I 300,I 0,I 0,I 1,I 2]),x18,x19,x20,x21,x22,x23,x24,x25,x26],b0::⟨93,.lst [I 2,I 3],2,true⟩::⟨127,.lst [I 1,I 5,I (-1),I 300,I 0,I 0,I 1,I 2],8,true⟩::junk,E⟩ K:=same (by kernel_rfl) h
theorem st31_13 {K:St->Prop} (h:K ⟨[oc 0 0,oc 1 0,oc 2 0,x3,x4,x5,x6,x7,x8,x9,x10,x11,x12,x13,x14,x15,x16,x17,x18,some (.agg [I 1,I 5,I (-1),I 300,I 0,I 0,I 1,I 2]),x20,x21,x22,x23,x24,x25,x26],(b0::⟨93,.lst [I 2,I 3],2,true⟩::⟨127,.lst [I 1,I 5,I (-1),I 300,I 0,I 0,I 1,I 2],8,true⟩::junk),E⟩):stp31 callW 13 ⟨[oc 0 0,oc 1 0,oc 2 0,x3,x4,x5,x6,x7,x8,x9,x10,x11,x12,x13,x14,x15,x16,x17,x18,x19,x20,x21,x22,x23,x24,x25,x26],b0::⟨93,.lst [I 2,I 3],2,true⟩::⟨127,.lst [I 1,I 5,I (-1),I 300,I 0,I 0,I 1,I 2],8,true⟩::junk,E⟩ K:=same (by kernel_rfl) h
theorem st31_14 {K:St->Prop} (h:K ⟨[oc 0 0,oc 1 0,oc 2 0,x3,x4,x5,x6,x7,x8,x9,x10,x11,x12,x13,x14,x15,x16,x17,x18,some (.agg [I 1,I 5,I (-1),I 300,I 0,I 0,I 1,I 2]),os (junk.length+3) 0 1 1,x21,x22,x23,x24,x25,x26],(b0::⟨93,.lst [I 2,I 3],2,true⟩::⟨127,.lst [I 1,I 5,I (-1),I 300,I 0,I 0,I 1,I 2],8,true⟩::junk++[⟨127,.lst [I 1,I 5,I (-1),I 300,I 0,I 0,I 1,I 2],8,true⟩]),E⟩):stp31 callW 14 ⟨[oc 0 0,oc 1 0,oc 2 0,x3,x4,x5,x6,x7,x8,x9,x10,x11,x12,x13,x14,x15,x16,x17,x18,some (.agg [I 1,I 5,I (-1),I 300,I 0,I 0,I 1,I 2]),x20,x21,x22,x23,x24,x25,x26],b0::⟨93,.lst [I 2,I 3],2,true⟩::⟨127,.lst [I 1,I 5,I (-1),I 300,I 0,I 0,I 1,I 2],8,true⟩::junk,E⟩ K:=same (by kernel_rfl) h
theorem st31_15 {K:St->Prop} (h:K ⟨[oc 0 0,oc 1 0,oc 2 0,x3,x4,x5,x6,x7,x8,x9,x10,x11,x12,x13,x14,x15,x16,x17,x18,x19,x20,os (junk.length+3) 0 1 1,x22,x23,x24,x25,x26],(b0::⟨93,.lst [I 2,I 3],2,true⟩::⟨127,.lst [I 1,I 5,I (-1),I 300,I 0,I 0,I 1,I 2],8,true⟩::junk++[⟨3,.lst [I 8],1,true⟩]),E⟩):stp31 callW 15 ⟨[oc 0 0,oc 1 0,oc 2 0,x3,x4,x5,x6,x7,x8,x9,x10,x11,x12,x13,x14,x15,x16,x17,x18,x19,x20,x21,x22,x23,x24,x25,x26],b0::⟨93,.lst [I 2,I 3],2,true⟩::⟨127,.lst [I 1,I 5,I (-1),I 300,I 0,I 0,I 1,I 2],8,true⟩::junk,E⟩ K:=same (by kernel_rfl) h
theorem st31_16 {K:St->Prop} (h:K ⟨[oc 0 0,oc 1 0,oc 2 0,x3,x4,x5,x6,x7,x8,x9,x10,x11,x12,x13,x14,x15,x16,x17,x18,x19,x20,x21,some (.agg [I 2,I 0,.raw (.int .u64 9223372036854775808),I 0]),x23,x24,x25,x26],(b0::⟨93,.lst [I 2,I 3],2,true⟩::⟨127,.lst [I 1,I 5,I (-1),I 300,I 0,I 0,I 1,I 2],8,true⟩::junk),E⟩):stp31 callW 16 ⟨[oc 0 0,oc 1 0,oc 2 0,x3,x4,x5,x6,x7,x8,x9,x10,x11,x12,x13,x14,x15,x16,x17,x18,x19,x20,x21,x22,x23,x24,x25,x26],b0::⟨93,.lst [I 2,I 3],2,true⟩::⟨127,.lst [I 1,I 5,I (-1),I 300,I 0,I 0,I 1,I 2],8,true⟩::junk,E⟩ K:=same (by kernel_rfl) h
theorem st31_17 {K:St->Prop} (h:K ⟨[oc 0 0,oc 1 0,oc 2 0,x3,x4,x5,x6,x7,x8,x9,x10,x11,x12,x13,x14,x15,x16,x17,x18,x19,x20,x21,x22,os (junk.length+3) 0 16 16,x24,x25,x26],(b0::⟨93,.lst [I 2,I 3],2,true⟩::⟨127,.lst [I 1,I 5,I (-1),I 300,I 0,I 0,I 1,I 2],8,true⟩::junk++[⟨5,.vals (zerosV [.int .u8 0] 16),16,true⟩]),E⟩):stp31 callW 17 ⟨[oc 0 0,oc 1 0,oc 2 0,x3,x4,x5,x6,x7,x8,x9,x10,x11,x12,x13,x14,x15,x16,x17,x18,x19,x20,x21,x22,x23,x24,x25,x26],b0::⟨93,.lst [I 2,I 3],2,true⟩::⟨127,.lst [I 1,I 5,I (-1),I 300,I 0,I 0,I 1,I 2],8,true⟩::junk,E⟩ K:=same (by kernel_rfl) h
theorem st31_18 {K:St->Prop} (h:K ⟨[oc 0 0,oc 1 0,oc 2 0,x3,x4,x5,x6,x7,x8,x9,x10,x11,x12,x13,x14,x15,x16,x17,x18,x19,x20,x21,x22,x23,os (junk.length+3) 0 1 1,x25,x26],(b0::⟨93,.lst [I 2,I 3],2,true⟩::⟨127,.lst [I 1,I 5,I (-1),I 300,I 0,I 0,I 1,I 2],8,true⟩::junk++[⟨32,.lst [.raw (.int .u64 5)],1,true⟩]),E⟩):stp31 callW 18 ⟨[oc 0 0,oc 1 0,oc 2 0,x3,x4,x5,x6,x7,x8,x9,x10,x11,x12,x13,x14,x15,x16,x17,x18,x19,x20,x21,x22,x23,x24,x25,x26],b0::⟨93,.lst [I 2,I 3],2,true⟩::⟨127,.lst [I 1,I 5,I (-1),I 300,I 0,I 0,I 1,I 2],8,true⟩::junk,E⟩ K:=same (by kernel_rfl) h
theorem st31_19 {K:St->Prop} (h:K ⟨[oc 0 0,oc 1 0,oc 2 0,x3,x4,x5,x6,x7,x8,x9,x10,x11,x12,x13,x14,x15,x16,x17,x18,x19,x20,x21,x22,oL b27 16 c27,oL b28 1 c28,some (.agg [I 1,I 2,L b27 16 c27,L b28 1 c28]),x26],(b0::⟨93,.lst [I 2,I 3],2,true⟩::⟨127,.lst [I 1,I 5,I (-1),I 300,I 0,I 0,I 1,I 2],8,true⟩::junk),E⟩):stp31 callW 19 ⟨[oc 0 0,oc 1 0,oc 2 0,x3,x4,x5,x6,x7,x8,x9,x10,x11,x12,x13,x14,x15,x16,x17,x18,x19,x20,x21,x22,oL b27 16 c27,oL b28 1 c28,x25,x26],b0::⟨93,.lst [I 2,I 3],2,true⟩::⟨127,.lst [I 1,I 5,I (-1),I 300,I 0,I 0,I 1,I 2],8,true⟩::junk,E⟩ K:=same (by kernel_rfl) h
theorem st31_20 {K:St->Prop} (h:K ⟨[oc 0 0,oc 1 0,oc 2 0,x3,x4,x5,x6,x7,oL b11 1 c11,x9,x10,oL b12 1 c12,x12,x13,oL b13 1 c13,x15,oL b14 1 c14,x17,oL b16 1 c16,x19,oL b17 1 c17,oL b18 1 c18,some (.agg [I 2,I 0,.raw (.int .u64 9223372036854775808),I 0]),x23,x24,some (.agg [I 1,I 2,L b27 16 c27,L b28 1 c28]),some (.agg [I 7,I 100,I 0,I 0,I 0,I 0,I 0,I 0,I (-1),I 0,I 0,L b11 1 c11,L b12 1 c12,L b13 1 c13,L b14 1 c14,B true,L b16 1 c16,L b17 1 c17,L b18 1 c18,I 2,I 0,.raw (.int .u64 9223372036854775808),I 0,I 0,I 0,I 1,I 2,L b27 16 c27,L b28 1 c28,B true])],(b0::⟨93,.lst [I 2,I 3],2,true⟩::⟨127,.lst [I 1,I 5,I (-1),I 300,I 0,I 0,I 1,I 2],8,true⟩::junk),E⟩):stp31 callW 20 ⟨[oc 0 0,oc 1 0,oc 2 0,x3,x4,x5,x6,x7,oL b11 1 c11,x9,x10,oL b12 1 c12,x12,x13,oL b13 1 c13,x15,oL b14 1 c14,x17,oL b16 1 c16,x19,oL b17 1 c17,oL b18 1 c18,some (.agg [I 2,I 0,.raw (.int .u64 9223372036854775808),I 0]),x23,x24,some (.agg [I 1,I 2,L b27 16 c27,L b28 1 c28]),x26],b0::⟨93,.lst [I 2,I 3],2,true⟩::⟨127,.lst [I 1,I 5,I (-1),I 300,I 0,I 0,I 1,I 2],8,true⟩::junk,E⟩ K:=same (by kernel_rfl) h
theorem st31_21 {K:St->Prop} (h:K ⟨[oc 0 0,oc 1 0,oc 2 0,x3,x4,x5,x6,x7,x8,x9,x10,x11,x12,x13,x14,x15,x16,x17,x18,x19,x20,x21,x22,x23,x24,x25,some (.agg [I 7,I 100,I 0,I 0,I 0,I 0,I 0,I 0,I (-1),I 0,I 0,L b11 1 c11,L b12 1 c12,L b13 1 c13,L b14 1 c14,B true,L b16 1 c16,L b17 1 c17,L b18 1 c18,I 2,I 0,.raw (.int .u64 9223372036854775808),I 0,I 0,I 0,I 1,I 2,L b27 16 c27,L b28 1 c28,B true])],(⟨40,.lst [I 7,I 100,I 0,I 0,I 0,I 0,I 0,I 0,I (-1),I 0,I 0,L b11 1 c11,L b12 1 c12,L b13 1 c13,L b14 1 c14,B true,L b16 1 c16,L b17 1 c17,L b18 1 c18,I 2,I 0,.raw (.int .u64 9223372036854775808),I 0,I 0,I 0,I 1,I 2,L b27 16 c27,L b28 1 c28,B true],30,true⟩::⟨93,.lst [I 2,I 3],2,true⟩::⟨127,.lst [I 1,I 5,I (-1),I 300,I 0,I 0,I 1,I 2],8,true⟩::junk),E⟩):stp31 callW 21 ⟨[oc 0 0,oc 1 0,oc 2 0,x3,x4,x5,x6,x7,x8,x9,x10,x11,x12,x13,x14,x15,x16,x17,x18,x19,x20,x21,x22,x23,x24,x25,some (.agg [I 7,I 100,I 0,I 0,I 0,I 0,I 0,I 0,I (-1),I 0,I 0,L b11 1 c11,L b12 1 c12,L b13 1 c13,L b14 1 c14,B true,L b16 1 c16,L b17 1 c17,L b18 1 c18,I 2,I 0,.raw (.int .u64 9223372036854775808),I 0,I 0,I 0,I 1,I 2,L b27 16 c27,L b28 1 c28,B true])],⟨40,.lst [I 0,I 0,I 0,I 0,I 0,I 0,I 0,I 0,I 0,I 0,I 0,L none 0 0,L none 0 0,L none 0 0,L none 0 0,B false,L none 0 0,L none 0 0,L none 0 0,I 0,I 0,.raw (.int .u64 0),I 0,I 0,I 0,I 0,I 0,L none 0 0,L none 0 0,B false],30,true⟩::⟨93,.lst [I 2,I 3],2,true⟩::⟨127,.lst [I 1,I 5,I (-1),I 300,I 0,I 0,I 1,I 2],8,true⟩::junk,E⟩ K:=same (by kernel_rfl) h
def exBc:Bc:=⟨7,100,0,0,0,0,0,0, -1,0,0,[[2,3,1,9]],[[2,3,2,9,17]],[[2,3,4]],[[6,0,70,0]],true,[[1,5, -1,300,0,0,1,2]],[[1,5, -1,300,0,0,1,2]],[[8]],2,0,9223372036854775808,0,0,0,1,2,List.replicate 16 0,[[5]],true⟩
def Pv (i:Nat) (E:Mem) (v:SV):Prop:=match i with
 | 0=>v= .agg [I 2,I 3]
 | 1=>v= .agg [I 2,I 3,I 1,I 9]
 | 2=>∃ (b:Option Addr) (c:Nat),v=L b 1 c/\SL (RK .i64 4) E b 1 c [[2,3,1,9]]
 | 3=>v= .agg [I 2,I 3]
 | 4=>v= .agg [I 2,I 3,I 2,I 9,I 17]
 | 5=>∃ (b:Option Addr) (c:Nat),v=L b 1 c/\SL (RK .i64 5) E b 1 c [[2,3,2,9,17]]
 | 6=>v= .agg [I 2,I 3]
 | 7=>v= .agg [I 2,I 3,I 4]
 | 8=>∃ (b:Option Addr) (c:Nat),v=L b 1 c/\SL (RK .i64 3) E b 1 c [[2,3,4]]
 | 9=>v= .agg [I 6,I 0,I 70,I 0]
 | 10=>∃ (b:Option Addr) (c:Nat),v=L b 1 c/\SL (RK .i64 4) E b 1 c [[6,0,70,0]]
 | 11=>v= .agg [I 1,I 5,I (-1),I 300,I 0,I 0,I 1,I 2]
 | 12=>∃ (b:Option Addr) (c:Nat),v=L b 1 c/\SL (RK .i64 8) E b 1 c [[1,5, -1,300,0,0,1,2]]
 | 13=>v= .agg [I 1,I 5,I (-1),I 300,I 0,I 0,I 1,I 2]
 | 14=>∃ (b:Option Addr) (c:Nat),v=L b 1 c/\SL (RK .i64 8) E b 1 c [[1,5, -1,300,0,0,1,2]]
 | 15=>∃ (b:Option Addr) (c:Nat),v=L b 1 c/\SL (RK .i64 1) E b 1 c [[8]]
 | 16=>v= .agg [I 2,I 0,.raw (.int .u64 9223372036854775808),I 0]
 | 17=>∃ (b:Option Addr) (c:Nat),v=L b 16 c/\Bs E b 16 c (List.replicate 16 0)
 | 18=>∃ (b:Option Addr) (c:Nat),v=L b 1 c/\SL (RK .u64 1) E b 1 c [[5]]
 | 19=>∃ (b:Option Addr) (c:Nat) (d:Option Addr) (e:Nat),v= .agg [I 1,I 2,L b 16 c,L d 1 e]/\Bs E b 16 c (List.replicate 16 0)/\SL (RK .u64 1) E d 1 e [[5]]
 | 20=>∃ (b11:Option Addr) (c11:Nat) (b12:Option Addr) (c12:Nat) (b13:Option Addr) (c13:Nat) (b14:Option Addr) (c14:Nat) (b16:Option Addr) (c16:Nat) (b17:Option Addr) (c17:Nat) (b18:Option Addr) (c18:Nat) (b27:Option Addr) (c27:Nat) (b28:Option Addr) (c28:Nat),v= .agg [I 7,I 100,I 0,I 0,I 0,I 0,I 0,I 0,I (-1),I 0,I 0,L b11 1 c11,L b12 1 c12,L b13 1 c13,L b14 1 c14,B true,L b16 1 c16,L b17 1 c17,L b18 1 c18,I 2,I 0,.raw (.int .u64 9223372036854775808),I 0,I 0,I 0,I 1,I 2,L b27 16 c27,L b28 1 c28,B true]/\BcM E exBc b11 1 c11 b12 1 c12 b13 1 c13 b14 1 c14 b16 1 c16 b17 1 c17 b18 1 c18 b27 16 c27 b28 1 c28
 | _=>False
theorem Pv.mono {E E':Mem} {v:SV} (h:Pv i E v) (he:Mem.le E E'):Pv i E' v:=by
 match i,h with
 | 0,h=>exact h
 | 1,h=>exact h
 | 2,⟨b,c,e,hS⟩=>exact ⟨b,c,e,hS.mono (RK_ok _ (by decide)) he⟩
 | 3,h=>exact h
 | 4,h=>exact h
 | 5,⟨b,c,e,hS⟩=>exact ⟨b,c,e,hS.mono (RK_ok _ (by decide)) he⟩
 | 6,h=>exact h
 | 7,h=>exact h
 | 8,⟨b,c,e,hS⟩=>exact ⟨b,c,e,hS.mono (RK_ok _ (by decide)) he⟩
 | 9,h=>exact h
 | 10,⟨b,c,e,hS⟩=>exact ⟨b,c,e,hS.mono (RK_ok _ (by decide)) he⟩
 | 11,h=>exact h
 | 12,⟨b,c,e,hS⟩=>exact ⟨b,c,e,hS.mono (RK_ok _ (by decide)) he⟩
 | 13,h=>exact h
 | 14,⟨b,c,e,hS⟩=>exact ⟨b,c,e,hS.mono (RK_ok _ (by decide)) he⟩
 | 15,⟨b,c,e,hS⟩=>exact ⟨b,c,e,hS.mono (RK_ok _ (by decide)) he⟩
 | 16,h=>exact h
 | 17,⟨b,c,e,hS⟩=>exact ⟨b,c,e,hS.mono he⟩
 | 18,⟨b,c,e,hS⟩=>exact ⟨b,c,e,hS.mono (RK_ok _ (by decide)) he⟩
 | 19,⟨b,c,d,m,e,hB,hS⟩=>exact ⟨b,c,d,m,e,hB.mono he,hS.mono (RK_ok _ (by decide)) he⟩
 | 20,⟨b11,c11,b12,c12,b13,c13,b14,c14,b16,c16,b17,c17,b18,c18,b27,c27,b28,c28,e,hM⟩=>exact ⟨b11,c11,b12,c12,b13,c13,b14,c14,b16,c16,b17,c17,b18,c18,b27,c27,b28,c28,e,hM.mono he⟩
theorem Pv.raw {E:Mem} {v:SV} {base:Option Addr} (h:Pv i E v):v.subst k base=v:=by
 match i,h with
 | 0,h=>have h:v=_:=h;subst h;rfl
 | 1,h=>have h:v=_:=h;subst h;rfl
 | 2,⟨b,c,e,hS⟩=>subst e;rfl
 | 3,h=>have h:v=_:=h;subst h;rfl
 | 4,h=>have h:v=_:=h;subst h;rfl
 | 5,⟨b,c,e,hS⟩=>subst e;rfl
 | 6,h=>have h:v=_:=h;subst h;rfl
 | 7,h=>have h:v=_:=h;subst h;rfl
 | 8,⟨b,c,e,hS⟩=>subst e;rfl
 | 9,h=>have h:v=_:=h;subst h;rfl
 | 10,⟨b,c,e,hS⟩=>subst e;rfl
 | 11,h=>have h:v=_:=h;subst h;rfl
 | 12,⟨b,c,e,hS⟩=>subst e;rfl
 | 13,h=>have h:v=_:=h;subst h;rfl
 | 14,⟨b,c,e,hS⟩=>subst e;rfl
 | 15,⟨b,c,e,hS⟩=>subst e;rfl
 | 16,h=>have h:v=_:=h;subst h;rfl
 | 17,⟨b,c,e,hS⟩=>subst e;rfl
 | 18,⟨b,c,e,hS⟩=>subst e;rfl
 | 19,⟨b,c,d,m,e,hB,hS⟩=>subst e;rfl
 | 20,⟨b11,c11,b12,c12,b13,c13,b14,c14,b16,c16,b17,c17,b18,c18,b27,c27,b28,c28,e,hM⟩=>subst e;rfl
structure F31 (E0:Mem) (D:Array Bool) (S:St):Prop where
 len:S.fr.length=27
 f0:S.fr[0]? =some (oc 0 0)
 f1:S.fr[1]? =some (oc 1 0)
 f2:S.fr[2]? =some (oc 2 0)
 sl:∀ i,i<21->D.getD i false=true->∃ v,S.fr[i+6]? =some (some v)/\Pv i S.E v
 bx:∃ v junk,S.bx=⟨40,.lst v,30,true⟩::⟨93,.lst [I 2,I 3],2,true⟩::⟨127,.lst [I 1,I 5,I (-1),I 300,I 0,I 0,I 1,I 2],8,true⟩::junk/\(D.getD 21 false=false->v=[I 0,I 0,I 0,I 0,I 0,I 0,I 0,I 0,I 0,I 0,I 0,L none 0 0,L none 0 0,L none 0 0,L none 0 0,B false,L none 0 0,L none 0 0,L none 0 0,I 0,I 0,.raw (.int .u64 0),I 0,I 0,I 0,I 0,I 0,L none 0 0,L none 0 0,B false])/\(D.getD 21 false=true->Pv 20 S.E (.agg v))
 le:Mem.le E0 S.E
 sz:D.size=22
theorem setF (h:(D.setIfInBounds i true).getD j false=true):j=i\/D.getD j false=true:=by
 by_cases e:j=i
 ·exact .inl e
 ·right
  rw [Array.getD_eq_getD_getElem?] at h ⊢
  rwa [Array.getElem?_setIfInBounds_ne (Ne.symm e)] at h
theorem setN (e:j≠i):(D.setIfInBounds i true).getD j false=D.getD j false:=by
 rw [Array.getD_eq_getD_getElem?,Array.getD_eq_getD_getElem?,Array.getElem?_setIfInBounds_ne (Ne.symm e)]
theorem F31.det {v:SV} (h:F31 E0 D S) (hi:i<21) (hv:Pv i S.E v):F31 E0 (D.setIfInBounds i true) ⟨S.fr.set (i+6) (some v),S.bx,S.E⟩ where
 len:=by rw [List.length_set];exact h.len
 f0:=by show (S.fr.set _ _)[0]? =_;rw [List.getElem?_set_ne (by omega)];exact h.f0
 f1:=by show (S.fr.set _ _)[1]? =_;rw [List.getElem?_set_ne (by omega)];exact h.f1
 f2:=by show (S.fr.set _ _)[2]? =_;rw [List.getElem?_set_ne (by omega)];exact h.f2
 sl j hj hl:=by
  by_cases e:j=i
  ·subst e
   exact ⟨v,by show (S.fr.set _ _)[j+6]? =_;rw [List.getElem?_set_self (by rw [h.len];omega)],hv⟩
  ·obtain ⟨u,h1,h2⟩:=h.sl j hj ((setF hl).resolve_left e)
   exact ⟨u,by show (S.fr.set _ _)[j+6]? =_;rw [List.getElem?_set_ne (by omega)];exact h1,h2⟩
 bx:=by
  rw [setN (by omega)];exact h.bx
 le:=h.le
 sz:=by rw [Array.size_setIfInBounds];exact h.sz
theorem F31.pub {n:Nat} {y:Box} {cs:List Value} (h:F31 E0 D S) (hi:i<21) (hk:k=S.bx.length) (hcs:y.row.val=some cs)
  (hP:∀ (base:Option Addr) (E':Mem),Mem.le S.E E'->WinE E' base cs->Pv i E' (.raw (slcAs base 0 n n))):PubS (F31 E0 (D.setIfInBounds i true)) ⟨S.fr.set (i+6) (os k 0 n n),S.bx++[y],S.E⟩:=by
 refine Or.inr ⟨k,y,cs,⟨by show (S.bx++[y])[k]? =_;rw [hk];simp,hcs⟩,fun base E' hle hw=>?_⟩
 obtain ⟨v,junk,hb,h21,h22⟩:=h.bx
 have get:∀ (j:Nat) (u:SV),j≠i+6->S.fr[j]? =some (some u)->u.subst k base=u->((S.fr.set (i+6) (os k 0 n n)).map (Option.map (SV.subst k base)))[j]? =some (some u):=fun j u e hu hs=>by
  rw [List.getElem?_map,List.getElem?_set_ne (Ne.symm e),hu];simp [hs]
 have hv:SV.substL k base v=v:=by
  cases hD:D.getD 21 false with
  | false=>rw [h21 hD];rfl
  | true=>exact SV.agg.inj (Pv.raw (k:=k) (base:=base) (h22 hD))
 refine ⟨by show (List.map _ _).length=_;rw [List.length_map,List.length_set];exact h.len,get 0 _ (by omega) h.f0 rfl,get 1 _ (by omega) h.f1 rfl,get 2 _ (by omega) h.f2 rfl,fun j hj hl=>?_,⟨v,junk.map (Box.subst k base)++[Box.subst k base { y with own:=false }],?_,?_,?_⟩,mt_ h.le hle,by rw [Array.size_setIfInBounds];exact h.sz⟩
 ·by_cases e:j=i
  ·subst e
   refine ⟨.raw (slcAs base 0 n n),?_,hP base E' hle hw⟩
   show ((S.fr.set (j+6) (os k 0 n n)).map (Option.map (SV.subst k base)))[j+6]? =_
   rw [List.getElem?_map,List.getElem?_set_self (by rw [h.len];omega)]
   simp [SV.subst]
  ·obtain ⟨u,h1,h2⟩:=h.sl j hj ((setF hl).resolve_left e)
   exact ⟨u,get (j+6) u (by omega) h1 h2.raw,h2.mono hle⟩
 ·show ((S.bx++[y]).set k { y with own:=false }).map (Box.subst k base)=_
  rw [hk,List.set_append_right _ _ (Nat.le_refl _),Nat.sub_self,List.set_cons_zero,List.map_append,← hk,hb]
  have e0:Box.subst k base ⟨40,.lst v,30,true⟩=⟨40,.lst v,30,true⟩:=by
   show (⟨40,.lst (SV.substL k base v),30,true⟩:Box)=_
   rw [hv]
  rw [List.map_cons,e0];rfl
 ·intro hD
  rw [setN (by omega)] at hD
  exact h21 hD
 ·intro hD
  rw [setN (by omega)] at hD
  exact (h22 hD).mono hle
theorem ops31_size:ops31.size=22:=by kernel_rfl
theorem dep31 (h:i∈Region.ready .any ops31 D) (hd:((ops31[i]?).map fun o=>o.after.any fun e=>Region.binds .any e&&e.on==j)=some true):D.getD j false=true:=by
 obtain ⟨_,o,ho,hall⟩:=mem_ready.1 h
 rw [ho] at hd
 simp only [Option.map_some,Option.some.injEq,Array.any_eq_true,Bool.and_eq_true,beq_iff_eq] at hd
 obtain ⟨k,hk,h1,h2⟩:=hd
 have:=hall _ (Array.getElem_mem hk) h1
 rwa [h2] at this
theorem fr27 {fr:List (Option SV)} (h:fr.length=27):∃ x0 x1 x2 x3 x4 x5 x6 x7 x8 x9 x10 x11 x12 x13 x14 x15 x16 x17 x18 x19 x20 x21 x22 x23 x24 x25 x26,fr=[x0,x1,x2,x3,x4,x5,x6,x7,x8,x9,x10,x11,x12,x13,x14,x15,x16,x17,x18,x19,x20,x21,x22,x23,x24,x25,x26]:=by
 match fr,h with
 | [x0,x1,x2,x3,x4,x5,x6,x7,x8,x9,x10,x11,x12,x13,x14,x15,x16,x17,x18,x19,x20,x21,x22,x23,x24,x25,x26],_=>exact ⟨x0,x1,x2,x3,x4,x5,x6,x7,x8,x9,x10,x11,x12,x13,x14,x15,x16,x17,x18,x19,x20,x21,x22,x23,x24,x25,x26,rfl⟩
theorem step31 (hi:i<22) (hr:i∈Region.ready .any ops31 D) (h:F31 E0 D S):stp31 callW i S (PubS (F31 E0 (D.setIfInBounds i true))):=by
 obtain ⟨fr,bx,E⟩:=S
 obtain ⟨x0,x1,x2,x3,x4,x5,x6,x7,x8,x9,x10,x11,x12,x13,x14,x15,x16,x17,x18,x19,x20,x21,x22,x23,x24,x25,x26,e⟩:=fr27 h.len
 have e:fr=_:=e
 subst e
 have q0:some x0=some (oc 0 0):=h.f0
 have q1:some x1=some (oc 1 0):=h.f1
 have q2:some x2=some (oc 2 0):=h.f2
 cases q0;cases q1;cases q2
 obtain ⟨v,junk,hb,h21,h22⟩:=h.bx
 have hb:bx=_:=hb
 subst hb
 match i,hi with
 | 0,_=>
  exact st31_0 (.inl (F31.det (i:=0) (v:=.agg [I 2,I 3]) h (by decide) rfl))
 | 1,_=>
  obtain ⟨u0,g0,p0⟩:=h.sl 0 (by decide) (dep31 hr (by kernel_rfl))
  have g0:some x6=some (some u0):=g0
  cases g0
  have p0:u0=_:=p0
  subst p0
  exact st31_1 (.inl (F31.det (i:=1) (v:=.agg [I 2,I 3,I 1,I 9]) h (by decide) rfl))
 | 2,_=>
  obtain ⟨u1,g1,p1⟩:=h.sl 1 (by decide) (dep31 hr (by kernel_rfl))
  have g1:some x7=some (some u1):=g1
  cases g1
  have p1:u1=_:=p1
  subst p1
  exact st31_2 (F31.pub (i:=2) (n:=1) (k:=junk.length+3) (y:=⟨95,.lst [I 2,I 3,I 1,I 9],4,true⟩) h (by decide) rfl rfl (fun base E' hle hw=>⟨base.map fun x=>x.add 0,1,rfl,SL.win (RK_ok .i64 (by decide)) (rs:=[([2,3,1,9]:List Int).map (.int .i64)]) hw rfl (SLr_RK (xs:=[[2,3,1,9]]) (fun x hx=>by cases List.mem_singleton.1 hx;rfl)) rfl (Nat.le_refl _)⟩))
 | 3,_=>
  exact st31_3 (.inl (F31.det (i:=3) (v:=.agg [I 2,I 3]) h (by decide) rfl))
 | 4,_=>
  obtain ⟨u3,g3,p3⟩:=h.sl 3 (by decide) (dep31 hr (by kernel_rfl))
  have g3:some x9=some (some u3):=g3
  cases g3
  have p3:u3=_:=p3
  subst p3
  exact st31_4 (.inl (F31.det (i:=4) (v:=.agg [I 2,I 3,I 2,I 9,I 17]) h (by decide) rfl))
 | 5,_=>
  obtain ⟨u4,g4,p4⟩:=h.sl 4 (by decide) (dep31 hr (by kernel_rfl))
  have g4:some x10=some (some u4):=g4
  cases g4
  have p4:u4=_:=p4
  subst p4
  exact st31_5 (F31.pub (i:=5) (n:=1) (k:=junk.length+3) (y:=⟨97,.lst [I 2,I 3,I 2,I 9,I 17],5,true⟩) h (by decide) rfl rfl (fun base E' hle hw=>⟨base.map fun x=>x.add 0,1,rfl,SL.win (RK_ok .i64 (by decide)) (rs:=[([2,3,2,9,17]:List Int).map (.int .i64)]) hw rfl (SLr_RK (xs:=[[2,3,2,9,17]]) (fun x hx=>by cases List.mem_singleton.1 hx;rfl)) rfl (Nat.le_refl _)⟩))
 | 6,_=>
  exact st31_6 (.inl (F31.det (i:=6) (v:=.agg [I 2,I 3]) h (by decide) rfl))
 | 7,_=>
  obtain ⟨u6,g6,p6⟩:=h.sl 6 (by decide) (dep31 hr (by kernel_rfl))
  have g6:some x12=some (some u6):=g6
  cases g6
  have p6:u6=_:=p6
  subst p6
  exact st31_7 (.inl (F31.det (i:=7) (v:=.agg [I 2,I 3,I 4]) h (by decide) rfl))
 | 8,_=>
  obtain ⟨u7,g7,p7⟩:=h.sl 7 (by decide) (dep31 hr (by kernel_rfl))
  have g7:some x13=some (some u7):=g7
  cases g7
  have p7:u7=_:=p7
  subst p7
  exact st31_8 (F31.pub (i:=8) (n:=1) (k:=junk.length+3) (y:=⟨99,.lst [I 2,I 3,I 4],3,true⟩) h (by decide) rfl rfl (fun base E' hle hw=>⟨base.map fun x=>x.add 0,1,rfl,SL.win (RK_ok .i64 (by decide)) (rs:=[([2,3,4]:List Int).map (.int .i64)]) hw rfl (SLr_RK (xs:=[[2,3,4]]) (fun x hx=>by cases List.mem_singleton.1 hx;rfl)) rfl (Nat.le_refl _)⟩))
 | 9,_=>
  exact st31_9 (.inl (F31.det (i:=9) (v:=.agg [I 6,I 0,I 70,I 0]) h (by decide) rfl))
 | 10,_=>
  obtain ⟨u9,g9,p9⟩:=h.sl 9 (by decide) (dep31 hr (by kernel_rfl))
  have g9:some x15=some (some u9):=g9
  cases g9
  have p9:u9=_:=p9
  subst p9
  exact st31_10 (F31.pub (i:=10) (n:=1) (k:=junk.length+3) (y:=⟨101,.lst [I 6,I 0,I 70,I 0],4,true⟩) h (by decide) rfl rfl (fun base E' hle hw=>⟨base.map fun x=>x.add 0,1,rfl,SL.win (RK_ok .i64 (by decide)) (rs:=[([6,0,70,0]:List Int).map (.int .i64)]) hw rfl (SLr_RK (xs:=[[6,0,70,0]]) (fun x hx=>by cases List.mem_singleton.1 hx;rfl)) rfl (Nat.le_refl _)⟩))
 | 11,_=>
  exact st31_11 (.inl (F31.det (i:=11) (v:=.agg [I 1,I 5,I (-1),I 300,I 0,I 0,I 1,I 2]) h (by decide) rfl))
 | 12,_=>
  obtain ⟨u11,g11,p11⟩:=h.sl 11 (by decide) (dep31 hr (by kernel_rfl))
  have g11:some x17=some (some u11):=g11
  cases g11
  have p11:u11=_:=p11
  subst p11
  exact st31_12 (F31.pub (i:=12) (n:=1) (k:=junk.length+3) (y:=⟨127,.lst [I 1,I 5,I (-1),I 300,I 0,I 0,I 1,I 2],8,true⟩) h (by decide) rfl rfl (fun base E' hle hw=>⟨base.map fun x=>x.add 0,1,rfl,SL.win (RK_ok .i64 (by decide)) (rs:=[([1,5, -1,300,0,0,1,2]:List Int).map (.int .i64)]) hw rfl (SLr_RK (xs:=[[1,5, -1,300,0,0,1,2]]) (fun x hx=>by cases List.mem_singleton.1 hx;rfl)) rfl (Nat.le_refl _)⟩))
 | 13,_=>
  exact st31_13 (.inl (F31.det (i:=13) (v:=.agg [I 1,I 5,I (-1),I 300,I 0,I 0,I 1,I 2]) h (by decide) rfl))
 | 14,_=>
  obtain ⟨u13,g13,p13⟩:=h.sl 13 (by decide) (dep31 hr (by kernel_rfl))
  have g13:some x19=some (some u13):=g13
  cases g13
  have p13:u13=_:=p13
  subst p13
  exact st31_14 (F31.pub (i:=14) (n:=1) (k:=junk.length+3) (y:=⟨127,.lst [I 1,I 5,I (-1),I 300,I 0,I 0,I 1,I 2],8,true⟩) h (by decide) rfl rfl (fun base E' hle hw=>⟨base.map fun x=>x.add 0,1,rfl,SL.win (RK_ok .i64 (by decide)) (rs:=[([1,5, -1,300,0,0,1,2]:List Int).map (.int .i64)]) hw rfl (SLr_RK (xs:=[[1,5, -1,300,0,0,1,2]]) (fun x hx=>by cases List.mem_singleton.1 hx;rfl)) rfl (Nat.le_refl _)⟩))
 | 15,_=>
  exact st31_15 (F31.pub (i:=15) (n:=1) (k:=junk.length+3) (y:=⟨3,.lst [I 8],1,true⟩) h (by decide) rfl rfl (fun base E' hle hw=>⟨base.map fun x=>x.add 0,1,rfl,SL.win (RK_ok .i64 (by decide)) (rs:=[([8]:List Int).map (.int .i64)]) hw rfl (SLr_RK (xs:=[[8]]) (fun x hx=>by cases List.mem_singleton.1 hx;rfl)) rfl (Nat.le_refl _)⟩))
 | 16,_=>
  exact st31_16 (.inl (F31.det (i:=16) (v:=.agg [I 2,I 0,.raw (.int .u64 9223372036854775808),I 0]) h (by decide) rfl))
 | 17,_=>
  exact st31_17 (F31.pub (i:=17) (n:=16) (k:=junk.length+3) (y:=⟨5,.vals (zerosV [.int .u8 0] 16),16,true⟩) h (by decide) rfl rfl (fun base E' hle hw=>⟨base.map fun x=>x.add 0,16,rfl,Bs.win hw rfl rfl (Nat.le_refl _) (fun z hz=>by rw [(List.mem_replicate.1 hz).2];decide)⟩))
 | 18,_=>
  exact st31_18 (F31.pub (i:=18) (n:=1) (k:=junk.length+3) (y:=⟨32,.lst [.raw (.int .u64 5)],1,true⟩) h (by decide) rfl rfl (fun base E' hle hw=>⟨base.map fun x=>x.add 0,1,rfl,SL.win (RK_ok .u64 (by decide)) (rs:=[([5]:List Int).map (.int .u64)]) hw rfl (SLr_RK (xs:=[[5]]) (fun x hx=>by cases List.mem_singleton.1 hx;rfl)) rfl (Nat.le_refl _)⟩))
 | 19,_=>
  obtain ⟨u17,g17,p17⟩:=h.sl 17 (by decide) (dep31 hr (by kernel_rfl))
  have g17:some x23=some (some u17):=g17
  cases g17
  obtain ⟨b27,c27,rfl,z17⟩:=p17
  obtain ⟨u18,g18,p18⟩:=h.sl 18 (by decide) (dep31 hr (by kernel_rfl))
  have g18:some x24=some (some u18):=g18
  cases g18
  obtain ⟨b28,c28,rfl,z18⟩:=p18
  exact st31_19 (.inl (F31.det (i:=19) (v:=.agg [I 1,I 2,L b27 16 c27,L b28 1 c28]) h (by decide) ⟨b27,c27,b28,c28,rfl,z17,z18⟩))
 | 20,_=>
  obtain ⟨u2,g2,p2⟩:=h.sl 2 (by decide) (dep31 hr (by kernel_rfl))
  have g2:some x8=some (some u2):=g2
  cases g2
  obtain ⟨b11,c11,rfl,z2⟩:=p2
  obtain ⟨u5,g5,p5⟩:=h.sl 5 (by decide) (dep31 hr (by kernel_rfl))
  have g5:some x11=some (some u5):=g5
  cases g5
  obtain ⟨b12,c12,rfl,z5⟩:=p5
  obtain ⟨u8,g8,p8⟩:=h.sl 8 (by decide) (dep31 hr (by kernel_rfl))
  have g8:some x14=some (some u8):=g8
  cases g8
  obtain ⟨b13,c13,rfl,z8⟩:=p8
  obtain ⟨u10,g10,p10⟩:=h.sl 10 (by decide) (dep31 hr (by kernel_rfl))
  have g10:some x16=some (some u10):=g10
  cases g10
  obtain ⟨b14,c14,rfl,z10⟩:=p10
  obtain ⟨u12,g12,p12⟩:=h.sl 12 (by decide) (dep31 hr (by kernel_rfl))
  have g12:some x18=some (some u12):=g12
  cases g12
  obtain ⟨b16,c16,rfl,z12⟩:=p12
  obtain ⟨u14,g14,p14⟩:=h.sl 14 (by decide) (dep31 hr (by kernel_rfl))
  have g14:some x20=some (some u14):=g14
  cases g14
  obtain ⟨b17,c17,rfl,z14⟩:=p14
  obtain ⟨u15,g15,p15⟩:=h.sl 15 (by decide) (dep31 hr (by kernel_rfl))
  have g15:some x21=some (some u15):=g15
  cases g15
  obtain ⟨b18,c18,rfl,z15⟩:=p15
  obtain ⟨u16,g16,p16⟩:=h.sl 16 (by decide) (dep31 hr (by kernel_rfl))
  have g16:some x22=some (some u16):=g16
  cases g16
  have p16:u16=_:=p16
  subst p16
  obtain ⟨u19,g19,p19⟩:=h.sl 19 (by decide) (dep31 hr (by kernel_rfl))
  have g19:some x25=some (some u19):=g19
  cases g19
  obtain ⟨b27,c27,b28,c28,rfl,z27,z28⟩:=p19
  exact st31_20 (.inl (F31.det (i:=20) (v:=.agg [I 7,I 100,I 0,I 0,I 0,I 0,I 0,I 0,I (-1),I 0,I 0,L b11 1 c11,L b12 1 c12,L b13 1 c13,L b14 1 c14,B true,L b16 1 c16,L b17 1 c17,L b18 1 c18,I 2,I 0,.raw (.int .u64 9223372036854775808),I 0,I 0,I 0,I 1,I 2,L b27 16 c27,L b28 1 c28,B true]) h (by decide) ⟨b11,c11,b12,c12,b13,c13,b14,c14,b16,c16,b17,c17,b18,c18,b27,c27,b28,c28,rfl,⟨z2,z5,z8,z10,z12,z14,z15,z27,z28⟩⟩))
 | 21,_=>
  obtain ⟨u20,g20,p20⟩:=h.sl 20 (by decide) (dep31 hr (by kernel_rfl))
  have g20:some x26=some (some u20):=g20
  cases g20
  obtain ⟨b11,c11,b12,c12,b13,c13,b14,c14,b16,c16,b17,c17,b18,c18,b27,c27,b28,c28,rfl,zM⟩:=p20
  have hu:D.getD 21 true=false:=ready_unlisted hr
  have hv:v=[I 0,I 0,I 0,I 0,I 0,I 0,I 0,I 0,I 0,I 0,I 0,L none 0 0,L none 0 0,L none 0 0,L none 0 0,B false,L none 0 0,L none 0 0,L none 0 0,I 0,I 0,.raw (.int .u64 0),I 0,I 0,I 0,I 0,I 0,L none 0 0,L none 0 0,B false]:=h21 (by
   cases q:D.getD 21 false with
   | false=>rfl
   | true=>
    rw [Array.getD_eq_getD_getElem?] at hu q
    cases r:D[21]? with
    | none=>rw [r] at hu;cases hu
    | some t=>rw [r] at hu q;simp at hu q;rw [hu] at q;cases q)
  subst hv
  refine st31_21 (.inl ⟨rfl,rfl,rfl,rfl,fun j hj hl=>?_,⟨[I 7,I 100,I 0,I 0,I 0,I 0,I 0,I 0,I (-1),I 0,I 0,L b11 1 c11,L b12 1 c12,L b13 1 c13,L b14 1 c14,B true,L b16 1 c16,L b17 1 c17,L b18 1 c18,I 2,I 0,.raw (.int .u64 9223372036854775808),I 0,I 0,I 0,I 1,I 2,L b27 16 c27,L b28 1 c28,B true],junk,rfl,fun q=>?_,fun _=>⟨b11,c11,b12,c12,b13,c13,b14,c14,b16,c16,b17,c17,b18,c18,b27,c27,b28,c28,rfl,zM⟩⟩,h.le,by rw [Array.size_setIfInBounds];exact h.sz⟩)
  ·exact h.sl j hj ((setF hl).resolve_left (by omega))
  ·exfalso
   have hlt:21<D.size:=by
    rcases Nat.lt_or_ge 21 D.size with r|r
    ·exact r
    ·rw [Array.getD_eq_getD_getElem?,Array.getElem?_eq_none r] at hu;cases hu
   rw [Array.getD_eq_getD_getElem?,Array.getElem?_setIfInBounds_self_of_lt hlt] at q
   cases q
 | n+22,hn=>exact absurd hn (by omega)
theorem aft31:(List.range 22).all (fun i=>match ops31[i]? with |some o=>o.after.all fun e=> !Region.binds .any e||decide (e.on<i)|none=>false)=true:=by kernel_rfl
theorem all31 (hsz:D.size=22) (hr:Region.ready .any ops31 D=[]):∀ i,i<22->D.getD i false=true:=by
 intro i
 induction i using Nat.strongRecOn with
 | _ i ih=>
  intro hi
  cases q:D.getD i false with
  | true=>rfl
  | false=>
   exfalso
   have h1:=List.all_eq_true.1 aft31 i (List.mem_range.2 hi)
   have h2:D.getD i true=false:=by
    rw [Array.getD_eq_getD_getElem?,Array.getElem?_eq_getElem (by omega)] at q ⊢
    exact q
   cases ho:ops31[i]? with
   | none=>rw [ho] at h1;cases h1
   | some o=>
    rw [ho] at h1
    have :i∈Region.ready .any ops31 D:=mem_ready.2 ⟨h2,o,ho,fun e he hb=>by
     have h3:=(Array.all_eq_true_iff_forall_mem.1 h1) e he
     rw [hb] at h3
     have h4:e.on<i:=by simpa using h3
     exact ih e.on h4 (by omega)⟩
    rw [hr] at this;cases this
theorem ss31 (h:∀ (b11:Option Addr) (c11:Nat) (b12:Option Addr) (c12:Nat) (b13:Option Addr) (c13:Nat) (b14:Option Addr) (c14:Nat) (b16:Option Addr) (c16:Nat) (b17:Option Addr) (c17:Nat) (b18:Option Addr) (c18:Nat) (b27:Option Addr) (c27:Nat) (b28:Option Addr) (c28:Nat) (E':Mem),Mem.le E E'->BcM E' exBc b11 1 c11 b12 1 c12 b13 1 c13 b14 1 c14 b16 1 c16 b17 1 c17 b18 1 c18 b27 16 c27 b28 1 c28->K (.agg [I 7,I 100,I 0,I 0,I 0,I 0,I 0,I 0,I (-1),I 0,I 0,L b11 1 c11,L b12 1 c12,L b13 1 c13,L b14 1 c14,B true,L b16 1 c16,L b17 1 c17,L b18 1 c18,I 2,I 0,.raw (.int .u64 9223372036854775808),I 0,I 0,I 0,I 1,I 2,L b27 16 c27,L b28 1 c28,B true]) E'):Ent W31 8 Try.f31 [] E K:=by
 refine same (q:=Ct W31 8 Try.f31 [1,1,1] 0 (pubK E K) ⟨[oc 0 0,oc 1 0,oc 2 0,some (.agg [I 2,I 3]),some (.agg [I 1,I 2]),some (.agg [I 1,I 5,I (-1),I 300,I 0,I 0,I 1,I 2]),none,none,none,none,none,none,none,none,none,none,none,none,none,none,none,none,none,none,none,none,none],[⟨40,.lst [I 0,I 0,I 0,I 0,I 0,I 0,I 0,I 0,I 0,I 0,I 0,L none 0 0,L none 0 0,L none 0 0,L none 0 0,B false,L none 0 0,L none 0 0,L none 0 0,I 0,I 0,.raw (.int .u64 0),I 0,I 0,I 0,I 0,I 0,L none 0 0,L none 0 0,B false],30,true⟩,⟨93,.lst [I 2,I 3],2,true⟩,⟨127,.lst [I 1,I 5,I (-1),I 300,I 0,I 0,I 1,I 2],8,true⟩],E⟩) (by kernel_rfl) ?_
 refine Ct_fam okW31 (id:=3) ops31_eq (F31 E) ⟨rfl,rfl,rfl,rfl,fun i hi hl=>?_,⟨[I 0,I 0,I 0,I 0,I 0,I 0,I 0,I 0,I 0,I 0,I 0,L none 0 0,L none 0 0,L none 0 0,L none 0 0,B false,L none 0 0,L none 0 0,L none 0 0,I 0,I 0,.raw (.int .u64 0),I 0,I 0,I 0,I 0,I 0,L none 0 0,L none 0 0,B false],[],rfl,fun _=>rfl,fun hl=>?_⟩,mr_,by rw [Array.size_replicate];exact ops31_size⟩ (fun D i o S ho hr hf=>?_) (fun D S hr hf=>?_)
 ·exfalso;rw [Array.getD_eq_getD_getElem?,Array.getElem?_replicate] at hl;split at hl<;>cases hl
 ·exfalso;rw [Array.getD_eq_getD_getElem?,Array.getElem?_replicate] at hl;split at hl<;>cases hl
 ·have hi:i<22:=by rw [← ops31_size];exact (Array.getElem?_eq_some_iff.1 ho).1
  have:=step31 (callW:=callF W31 8) hi hr hf
  unfold stp31 at this
  rw [ho] at this
  exact this
 ·have hall:=all31 hf.sz hr
  obtain ⟨fr,bx,E'⟩:=S
  obtain ⟨x0,x1,x2,x3,x4,x5,x6,x7,x8,x9,x10,x11,x12,x13,x14,x15,x16,x17,x18,x19,x20,x21,x22,x23,x24,x25,x26,e⟩:=fr27 hf.len
  have e:fr=_:=e
  subst e
  have q0:some x0=some (oc 0 0):=hf.f0
  cases q0
  obtain ⟨v,junk,hb,h21,h22⟩:=hf.bx
  have hb:bx=_:=hb
  subst hb
  obtain ⟨b11,c11,b12,c12,b13,c13,b14,c14,b16,c16,b17,c17,b18,c18,b27,c27,b28,c28,ev,hM⟩:=h22 (hall 21 (by decide))
  have ev:=SV.agg.inj ev
  subst ev
  exact same (q:=Mem.le E E'/\K (.agg [I 7,I 100,I 0,I 0,I 0,I 0,I 0,I 0,I (-1),I 0,I 0,L b11 1 c11,L b12 1 c12,L b13 1 c13,L b14 1 c14,B true,L b16 1 c16,L b17 1 c17,L b18 1 c18,I 2,I 0,.raw (.int .u64 9223372036854775808),I 0,I 0,I 0,I 1,I 2,L b27 16 c27,L b28 1 c28,B true]) E') (by kernel_rfl) ⟨hf.le,h b11 c11 b12 c12 b13 c13 b14 c14 b16 c16 b17 c17 b18 c18 b27 c27 b28 c28 E' hf.le hM⟩
structure OfS (xs:List (Int×Bc)) (p:Int) (x:Bc) (f:Bool):Prop where
 eq:ofN xs p=(x,f)
noncomputable def tabL:FuncId->List SV->Mem->(SV->Mem->Prop)->Prop:=fun f args E K=>match f with
 | 11=>d1 args fun x0=>∃ x:Bc,BcV E x0 x/\∀ f:Bool,(f=true->BcFew x)->K (B f) E
 | 14=>d2 args fun x0 x1=>∃ x:Bc,(BcV E x0 x/\BcV E x1 x/\BcSm x)/\K (B true) E
 | 15=>d2 args fun x0 x1=>dS x0 fun b n c=>dS x1 fun d m e=>∃ zs,(Bs E b n c zs/\Bs E d m e zs/\n<=1000000)/\K (B true) E
 | 17=>d1 args fun x0=>dS x0 fun b n c=>∃ xs,SL NearR E b n c xs/\∀ f:Bool,(f=true->n<=70/\∀ x∈xs,BcFew x.2)->K (B f) E
 | 18=>d3 args fun x0 x1 x2=>dS x0 fun b n c=>dI x2 fun fr=>∃ (xs:List (Int×Bc)) (x:Bc),(SL NearR E b n c xs/\n<=1000000/\BcV E x1 x/\BcSm x)/\∀ (ys:List (Int×Bc)) (e:Int) (b':Option Addr) (n' c':Nat) (E':Mem),Mem.le E E'->NoteS xs x fr ys e->SL NearR E' b' n' c' ys->K (.tup [L b' n' c',I e]) E'
 | 19=>d2 args fun x0 x1=>dS x0 fun b n c=>dS x1 fun d m e=>∃ xs,(SL NearR E b n c xs/\SL NearR E d m e xs/\(∀ x∈xs,BcSm x.2)/\n<=1000000)/\K (B true) E
 | 20=>d2 args fun x0 x1=>dS x0 fun b n c=>dI x1 fun fr=>∃ xs,(SL NearR E b n c xs/\n<=1000000)/\∀ (b':Option Addr) (n' c':Nat) (E':Mem),Mem.le E E'->SL NearR E' b' n' c' (xs.filter fun x=> !oldN fr x)->K (L b' n' c') E'
 | 24=>d2 args fun x0 x1=>dS x0 fun b n c=>dI x1 fun p=>∃ xs,(SL NearR E b n c xs/\n<=9223372036854775807)/\∀ (x:Bc) b11 n11 c11 b12 n12 c12 b13 n13 c13 b14 n14 c14 b16 n16 c16 b17 n17 c17 b18 n18 c18 b27 n27 c27 b28 n28 c28 (f:Bool),OfS xs p x f->BcM E x b11 n11 c11 b12 n12 c12 b13 n13 c13 b14 n14 c14 b16 n16 c16 b17 n17 c17 b18 n18 c18 b27 n27 c27 b28 n28 c28->K (.tup [.agg [I x.from_,I x.asn,I x.boot,I x.hops,I x.bound,I x.fresh,I x.seq,I x.rank,I x.parent,I x.first,I x.next,L b11 n11 c11,L b12 n12 c12,L b13 n13 c13,L b14 n14 c14,B x.full,L b16 n16 c16,L b17 n17 c17,L b18 n18 c18,I x.nver,I x.size,.raw (.int .u64 x.dig),I x.start,I x.pages,I x.version,I x.page,I x.seed,L b27 n27 c27,L b28 n28 c28,B x.has],B f]) E
 | 31=>(args.length=0)/\∀ (b11:Option Addr) (c11:Nat) (b12:Option Addr) (c12:Nat) (b13:Option Addr) (c13:Nat) (b14:Option Addr) (c14:Nat) (b16:Option Addr) (c16:Nat) (b17:Option Addr) (c17:Nat) (b18:Option Addr) (c18:Nat) (b27:Option Addr) (c27:Nat) (b28:Option Addr) (c28:Nat) (E':Mem),Mem.le E E'->BcM E' exBc b11 1 c11 b12 1 c12 b13 1 c13 b14 1 c14 b16 1 c16 b17 1 c17 b18 1 c18 b27 16 c27 b28 1 c28->K (.agg [I 7,I 100,I 0,I 0,I 0,I 0,I 0,I 0,I (-1),I 0,I 0,L b11 1 c11,L b12 1 c12,L b13 1 c13,L b14 1 c14,B true,L b16 1 c16,L b17 1 c17,L b18 1 c18,I 2,I 0,.raw (.int .u64 9223372036854775808),I 0,I 0,I 0,I 1,I 2,L b27 16 c27,L b28 1 c28,B true]) E'
 | _=>False
theorem tabL_ok:TabOK Try.prog tabL:=by
 intro f args E K h
 unfold tabL at h
 split at h
 ·exact tabS3_ok 11 args E K h
 ·exact tabS3_ok 14 args E K h
 ·exact tabS1_ok 15 args E K h
 ·obtain ⟨x0,rfl,h1⟩:=d1_elim h
  obtain ⟨b,n,c,rfl,xs,hx,hk⟩:=dS_elim h1
  exact esm okV4 Try.func17 rfl (ss17 hx hk)
 ·obtain ⟨x0,x1,x2,rfl,h1⟩:=d3_elim h
  obtain ⟨b,n,c,rfl,h2⟩:=dS_elim h1
  obtain ⟨fr,rfl,xs,x,⟨hx,hn,hv,hs⟩,hk⟩:=dI_elim h2
  obtain ⟨d11,m11,e11,d12,m12,e12,d13,m13,e13,d14,m14,e14,d16,m16,e16,d17,m17,e17,d18,m18,e18,d27,m27,e27,d28,m28,e28,rfl,M⟩:=hv.ex
  exact esm okU2 Try.func18 rfl (ss18 hx hn M hs hk)
 ·obtain ⟨x0,x1,rfl,h1⟩:=d2_elim h
  obtain ⟨b,n,c,rfl,h2⟩:=dS_elim h1
  obtain ⟨d,m,e,rfl,xs,⟨hx,hy,hs,hn⟩,hk⟩:=dS_elim h2
  have e1:=hx.len
  have e2:=hy.len
  obtain rfl:n=m:=by omega
  exact esm okV4 Try.func19 rfl (ss19 hx hy hs hn hk)
 ·obtain ⟨x0,x1,rfl,h1⟩:=d2_elim h
  obtain ⟨b,n,c,rfl,h2⟩:=dS_elim h1
  obtain ⟨fr,rfl,xs,⟨hx,hn⟩,hk⟩:=dI_elim h2
  exact esm okT2 Try.func20 rfl (ss20 hx hn hk)
 ·obtain ⟨x0,x1,rfl,h1⟩:=d2_elim h
  obtain ⟨b,n,c,rfl,h2⟩:=dS_elim h1
  obtain ⟨p,rfl,xs,⟨hx,hn⟩,hk⟩:=dI_elim h2
  exact esm okU0 Try.func24 rfl (ss24 hx hn (fun x b11 n11 c11 b12 n12 c12 b13 n13 c13 b14 n14 c14 b16 n16 c16 b17 n17 c17 b18 n18 c18 b27 n27 c27 b28 n28 c28 f hq hM=>hk x b11 n11 c11 b12 n12 c12 b13 n13 c13 b14 n14 c14 b16 n16 c16 b17 n17 c17 b18 n18 c18 b27 n27 c27 b28 n28 c28 f ⟨hq⟩ hM))
 ·obtain ⟨h0,hk⟩:=h
  have h0:=List.eq_nil_of_length_eq_zero h0
  subst h0
  exact esm okW31 Try.func31 rfl (ss31 hk)
 ·exact h.elim
noncomputable def tabM:FuncId->List SV->Mem->(SV->Mem->Prop)->Prop:=fun f args E K=>match f with
 | 12=>tab36 12 args E K
 | 13=>d1 args fun v=>dS v fun b l c=>∃ zs,(Bs E b l c zs/\l<=100000)/\∀ (x:Bc) (e:Int) b11 n11 c11 b12 n12 c12 b13 n13 c13 b14 n14 c14 b16 n16 c16 b17 n17 c17 b18 n18 c18 b27 n27 c27 b28 n28 c28 (E':Mem),Mem.le E E'->DecS zs x e->BcM E' x b11 n11 c11 b12 n12 c12 b13 n13 c13 b14 n14 c14 b16 n16 c16 b17 n17 c17 b18 n18 c18 b27 n27 c27 b28 n28 c28->K (.tup [.agg [I x.from_,I x.asn,I x.boot,I x.hops,I x.bound,I x.fresh,I x.seq,I x.rank,I x.parent,I x.first,I x.next,L b11 n11 c11,L b12 n12 c12,L b13 n13 c13,L b14 n14 c14,B x.full,L b16 n16 c16,L b17 n17 c17,L b18 n18 c18,I x.nver,I x.size,.raw (.int .u64 x.dig),I x.start,I x.pages,I x.version,I x.page,I x.seed,L b27 n27 c27,L b28 n28 c28,B x.has],I e]) E'
 | f=>tabL f args E K
theorem tabM_ok:TabOK Try.prog tabM:=by
 intro f args E K h
 unfold tabM at h
 split at h
 ·exact tab36_ok 12 args E K h
 ·obtain ⟨v,rfl,h1⟩:=d1_elim h
  obtain ⟨b,l,c,rfl,zs,⟨hB,hl⟩,hk⟩:=dS_elim h1
  have hzl:=hB.2.1
  refine esm okZ4 Try.func13 rfl (p13 hB hl (fun y s' b11 n11 c11 b12 n12 c12 b13 n13 c13 b14 n14 c14 b16 n16 c16 b17 n17 c17 b18 n18 c18 b27 n27 c27 b28 n28 c28 E' hE hq hs hM=>?_))
  split
  ·rename_i h0
   split
   ·rename_i h1
    exact hk zeroBc 11 none 0 0 none 0 0 none 0 0 none 0 0 none 0 0 none 0 0 none 0 0 none 0 0 none 0 0 E' hE ⟨y,s',hq,by rw [if_pos h0,if_pos (by omega)];exact ⟨rfl,rfl⟩⟩ zeroM
   ·rename_i h1
    exact hk y 0 b11 n11 c11 b12 n12 c12 b13 n13 c13 b14 n14 c14 b16 n16 c16 b17 n17 c17 b18 n18 c18 b27 n27 c27 b28 n28 c28 E' hE ⟨y,s',hq,by rw [if_pos h0,if_neg (by omega)];exact ⟨rfl,rfl⟩⟩ hM
  ·rename_i h0
   exact hk zeroBc s'.2 none 0 0 none 0 0 none 0 0 none 0 0 none 0 0 none 0 0 none 0 0 none 0 0 none 0 0 E' hE ⟨y,s',hq,by rw [if_neg h0];exact ⟨rfl,rfl⟩⟩ zeroM
 ·exact tabL_ok _ _ _ _ h
theorem SLr_of {α:Type} {R:RowR α} {Q:α->Prop}:∀ {z:List (List Value)},(∀ r∈z,∃ x,R E x r/\Q x)->∃ xs,SLr R E z xs/\∀ x∈xs,Q x
 | [],_=>⟨[],SLr.nil,fun x h=>by cases h⟩
 | r::z,h=>by
  obtain ⟨x,h1,h2⟩:=h r (by simp)
  obtain ⟨xs,h3,h4⟩:=SLr_of (fun r hr=>h r (List.mem_cons_of_mem _ hr))
  exact ⟨x::xs,(SLr.one h1).app h3,fun y hy=>by
   rcases List.mem_cons.1 hy with rfl|hy
   ·exact h2
   ·exact h4 y hy⟩
theorem RowAt_take {v:Value} {cs:List Value} (h:RowAt W v cs) (k:Nat):RowAt W v (cs.take k):=by
 rcases h with rfl|⟨a,n,c,h1,h2,h3⟩
 ·exact .inl (by simp)
 ·exact .inr ⟨a,n,c,h1,h2,fun i x hx=>h3 i x (by
   have hk:=(List.getElem?_eq_some_iff.1 hx).1
   rw [List.length_take] at hk
   rwa [List.getElem?_take_of_lt (by omega)] at hx)⟩
theorem SL_of {R:RowR α} {Q:α->Prop} {b:Option Addr} {z:List (List Value)} (hl:l<=c) (hb:b=none->c=0) (hz:z.length=c) (hE:RowAt W (.slice b l c) z.flatten) (hk:∀ r∈z,r.length=k)
  (hr:∀ r∈z,∃ x,R (fun v cs=>RowAt W v cs) x r/\Q x):∃ xs,SL R (fun v cs=>RowAt W v cs) b l c xs/\∀ x∈xs,Q x:=by
 obtain ⟨xs,h1,h2⟩:=SLr_of (z:=z.take l) (fun r h=>hr r (List.mem_of_mem_take h))
 refine ⟨xs,⟨z.take l,h1,?_,hl,.inr ?_,fun e=>by have:=hb e;omega⟩,h2⟩
 ·rw [← h1.1,List.length_take];omega
 ·show RowAt W _ _
  rw [← flat_take hk];exact RowAt_take hE _
theorem ints_of {W:World} {q:IntKind}:∀ {ts:List TypeId} {vs:List Value},CellsShp Try.prog W ts vs->(∀ t∈ts,Try.prog.underlying t=some (.int q))->∃ x:List Int,vs=x.map (.int q)/\x.length=ts.length/\∀ z∈x,(Lit.int q z).wf=true
 | [],[],_,_=>⟨[],rfl,rfl,fun z h=>by cases h⟩
 | t::ts,v::vs,⟨⟨m,s⟩,h⟩,ha=>by
  obtain ⟨z,rfl,hw⟩:=Shp_int1 (ha t (by simp)) s
  obtain ⟨x,rfl,hl,hx⟩:=ints_of h (fun t ht=>ha t (List.mem_cons_of_mem _ ht))
  exact ⟨z::x,rfl,by simp [hl],fun y hy=>by
   rcases List.mem_cons.1 hy with rfl|hy
   ·exact hw
   ·exact hx y hy⟩
 | [],_::_,h,_=>h.elim
 | _::_,[],h,_=>h.elim
theorem RKof {n:Nat} {e:TypeId} {ts:List TypeId} {b:Option Addr} {z:List (List Value)} (hf:flatT Try.prog n e=some ts) (ht:ts.length=k) (ha:∀ t∈ts,Try.prog.underlying t=some (.int q)) (hc:Try.prog.cellsOf e=k)
  (hl:l<=c) (hb:b=none->c=0) (hz:z.length=c) (hE:RowAt W (.slice b l c) z.flatten) (hr:∀ r∈z,r.length=k/\Shp Try.prog W n e r):
  ∃ xs,SL (RK q k) (fun v cs=>RowAt W v cs) b l c xs/\∀ x∈xs,x.length=k/\∀ z∈x,(Lit.int q z).wf=true:=
 SL_of (R:=RK q k) hl hb hz hE (fun r h=>(hr r h).1) (fun r h=>by
  obtain ⟨x,e1,e2,e3⟩:=ints_of (flatT_sound n e ts r hf ((hr r h).1.trans hc.symm) (hr r h).2) ha
  exact ⟨x,⟨e1,e2.trans ht⟩,e2.trans ht,e3⟩)
theorem RK1of {b:Option Addr} {z:List Int} (hl:l<=c) (hb:b=none->c=0) (hz:z.length=c) (hE:RowAt W (.slice b l c) (z.map (.int q))):SL (RK q 1) (fun v cs=>RowAt W v cs) b l c ((z.take l).map fun v=>[v]):=by
 refine ⟨((z.take l).map fun v=>[v]).map fun x=>x.map (Value.int q),SLr_RK (fun x hx=>?_),?_,hl,.inr ?_,fun e=>by have:=hb e;omega⟩
 ·obtain ⟨v,_,rfl⟩:=List.mem_map.1 hx;rfl
 ·rw [List.length_map,List.length_take];omega
 ·show RowAt W _ _
  have e:∀ w:List Int,((w.map fun v=>[v]).map fun x=>x.map (Value.int q)).flatten=w.map (Value.int q):=fun w=>by
   induction w with
   | nil=>rfl
   | cons x w ih=>simp only [List.map_cons,List.flatten_cons,ih,List.map_nil,List.singleton_append]
  rw [e,List.map_take];exact RowAt_take hE _
theorem RK1wf {z:List Int} (hw:∀ x∈z,(Lit.int q x).wf=true):∀ x∈(z.take l).map fun v=>[v],x.length=1/\∀ z∈x,(Lit.int q z).wf=true:=fun x hx=>by
 obtain ⟨v,hv,rfl⟩:=List.mem_map.1 hx
 exact ⟨rfl,fun y hy=>by cases List.mem_singleton.1 hy;exact hw _ (List.mem_of_mem_take hv)⟩
theorem wf64 {z:Int} (h:(Lit.int .u64 z).wf=true):0<=z/\z<18446744073709551616:=by
 have :0<=z/\z<=18446744073709551615:=by simpa [Lit.wf,IntKind.min,IntKind.max,IntKind.signed,IntKind.bits] using h
 omega
theorem wf_prf {xs:List (List Int)} (h:∀ x∈xs,x.length=1/\∀ z∈x,(Lit.int .u64 z).wf=true):∀ r∈xs,∃ v,r=[v]/\0<=v/\v<18446744073709551616:=fun r hr=>by
 obtain ⟨h1,h2⟩:=h r hr
 match r,h1 with
 | [v],_=>exact ⟨v,rfl,wf64 (h2 v (by simp))⟩
noncomputable def H0:Cx:={ P:=Try.prog,inl:=fun f=>List.contains [] f,tab:=tabM,isB:=fun _=>false,tabB:=fun _ _ _ _ _=>False,opt:={ unroll:=0,carry:=[],cuts:=[11,12] },muts:=mutsD }
theorem okH0:CxOK H0:=CxOK.four tabM_ok (by kernel_rfl) (okInl (by kernel_rfl)) (fun _ _ _ _ _ h=>h.elim)
def fromF (v:Int):Bc:={ zeroBc with from_:=v }
theorem encR_zero:encR zeroBc=(List.replicate 33 0,0):=by kernel_rfl
theorem encR_60:encR (fromF 60)=([],1):=by kernel_rfl
theorem enc_ex:(enc exBc).2=false/\(enc exBc).1.length<=1000:=by decide+kernel
theorem enc_3:(enc (fromF 3)).2=false:=by decide+kernel
theorem enc_1:(enc (fromF 1)).2=false:=by decide+kernel
theorem enc_9:(enc (fromF 9)).2=false:=by decide+kernel
def nrA:List (Int×Bc):=[(4,fromF 3)]
def nrB:List (Int×Bc):=[(7,fromF 1),(4,fromF 3)]
def nrC:List (Int×Bc):=[(7,fromF 1),(4,fromF 3),(8,fromF 9)]
def nrD:List (Int×Bc):=[(7,fromF 1),(8,fromF 9)]
theorem note1:noteF [] (fromF 3) 4=(nrA,0):=by rfl
theorem note2:noteF nrA (fromF 1) 7=(nrB,0):=by rfl
theorem note3:noteF nrB (fromF 9) 8=(nrC,0):=by rfl
theorem note4:noteF nrC (fromF 9) 7=([],14):=by rfl
theorem exp1:(nrC.filter fun x=> !oldN 8 x)=nrD:=by rfl
theorem okA:nbOK nrA:=fun i x hx=>by
 match i,hx with
 | 0,hx=>cases hx;exact ⟨by decide,by decide,fun y h=>absurd h (by decide)⟩
theorem okB:nbOK nrB:=fun i x hx=>by
 match i,hx with
 | 0,hx=>cases hx;exact ⟨by decide,by decide,fun y h=>absurd h (by decide)⟩
 | 1,hx=>cases hx;exact ⟨by decide,by decide,fun y _ h=>by cases h;decide⟩
theorem okC:nbOK nrC:=fun i x hx=>by
 match i,hx with
 | 0,hx=>cases hx;exact ⟨by decide,by decide,fun y h=>absurd h (by decide)⟩
 | 1,hx=>cases hx;exact ⟨by decide,by decide,fun y _ h=>by cases h;decide⟩
 | 2,hx=>cases hx;exact ⟨by decide,by decide,fun y _ h=>by cases h;decide⟩
theorem sm_F (v:Int):BcSm (fromF v):=⟨Nat.zero_le _,Nat.zero_le _,Nat.zero_le _,Nat.zero_le _,Nat.zero_le _,Nat.zero_le _,Nat.zero_le _,Nat.zero_le _,Nat.zero_le _⟩
theorem bcv_F (v:Int):BcV E (.agg [I v,I 0,I 0,I 0,I 0,I 0,I 0,I 0,I 0,I 0,I 0,L none 0 0,L none 0 0,L none 0 0,L none 0 0,B false,L none 0 0,L none 0 0,L none 0 0,I 0,I 0,.raw (.int .u64 0),I 0,I 0,I 0,I 0,I 0,L none 0 0,L none 0 0,B false]) (fromF v):=⟨⟨none,0,0,none,0,0,none,0,0,none,0,0,none,0,0,none,0,0,none,0,0,none,0,0,none,0,0,rfl,⟨SL.nil,SL.nil,SL.nil,SL.nil,SL.nil,SL.nil,SL.nil,Bs.nil _,SL.nil⟩⟩⟩
theorem sm_ex:BcSm exBc:=by constructor<;>decide
theorem wf_ex:BcWf exBc:=by
 constructor
 ·decide
 all_goals
  intro r hr
  first
   | (have hr:r=_:=List.mem_singleton.1 hr;subst hr;rfl)
   | (have hr:r=_:=List.mem_singleton.1 hr;subst hr;exact ⟨_,rfl,by decide,by decide⟩)
def sh12 (b d:Option Addr) (c e:Nat) (b11:Option Addr) (n11 c11:Nat) (b12:Option Addr) (n12 c12:Nat) (b13:Option Addr) (n13 c13:Nat) (b14:Option Addr) (n14 c14:Nat) (b16:Option Addr) (n16 c16:Nat) (b17:Option Addr) (n17 c17:Nat) (b18:Option Addr) (n18 c18:Nat) (b27:Option Addr) (n27 c27:Nat) (b28:Option Addr) (n28 c28:Nat) (E:Mem):St:=⟨[none,none,none,none,none,oc 0 0,none,none,none,none,none,oL b 3 c,none,none,none,none,none,oL d 2 e,oB true]++List.replicate 129 none,[⟨40,.lst [I exBc.from_,I exBc.asn,I exBc.boot,I exBc.hops,I exBc.bound,I exBc.fresh,I exBc.seq,I exBc.rank,I exBc.parent,I exBc.first,I exBc.next,L b11 n11 c11,L b12 n12 c12,L b13 n13 c13,L b14 n14 c14,B exBc.full,L b16 n16 c16,L b17 n17 c17,L b18 n18 c18,I exBc.nver,I exBc.size,.raw (.int .u64 exBc.dig),I exBc.start,I exBc.pages,I exBc.version,I exBc.page,I exBc.seed,L b27 n27 c27,L b28 n28 c28,B exBc.has],30,true⟩],E⟩
def sh11 (b0 b d:Option Addr) (c0 c e:Nat) (b11:Option Addr) (n11 c11:Nat) (b12:Option Addr) (n12 c12:Nat) (b13:Option Addr) (n13 c13:Nat) (b14:Option Addr) (n14 c14:Nat) (b16:Option Addr) (n16 c16:Nat) (b17:Option Addr) (n17 c17:Nat) (b18:Option Addr) (n18 c18:Nat) (b27:Option Addr) (n27 c27:Nat) (b28:Option Addr) (n28 c28:Nat) (E:Mem):St:=⟨[none,oL b0 33 c0,oI 0,none,oI 0,oc 0 0,oI 0,none,oI 1,none,oI 3,oL b 3 c,oI 0,oI 0,oI 0,none,oI 14,oL d 2 e]++List.replicate 130 none,[⟨40,.lst [I exBc.from_,I exBc.asn,I exBc.boot,I exBc.hops,I exBc.bound,I exBc.fresh,I exBc.seq,I exBc.rank,I exBc.parent,I exBc.first,I exBc.next,L b11 n11 c11,L b12 n12 c12,L b13 n13 c13,L b14 n14 c14,B exBc.full,L b16 n16 c16,L b17 n17 c17,L b18 n18 c18,I exBc.nver,I exBc.size,.raw (.int .u64 exBc.dig),I exBc.start,I exBc.pages,I exBc.version,I exBc.page,I exBc.seed,L b27 n27 c27,L b28 n28 c28,B exBc.has],30,true⟩],E⟩
theorem pc10_12 {b d:Option Addr} {e:Nat} (hM:BcM E exBc b11 n11 c11 b12 n12 c12 b13 n13 c13 b14 n14 c14 b16 n16 c16 b17 n17 c17 b18 n18 c18 b27 n27 c27 b28 n28 c28) (hB:SL NearR E b 3 c nrC) (hD:SL NearR E d 2 e nrD) (q:Mem.le E0 E) (h:∀ E',Mem.le E0 E'->K (B true) E'):Pc H0 8 Try.f10 [1,1,1,1,1,1,1,1,1,1,1,1] 0 (pubK E0 K) (sh12 b d c e b11 n11 c11 b12 n12 c12 b13 n13 c13 b14 n14 c14 b16 n16 c16 b17 n17 c17 b18 n18 c18 b27 n27 c27 b28 n28 c28 E):=by
 refine sm_ (?_:0=0/\∀ (b11_1:Option Addr) (c11_1:Nat) (b12_1:Option Addr) (c12_1:Nat) (b13_1:Option Addr) (c13_1:Nat) (b14_1:Option Addr) (c14_1:Nat) (b16_1:Option Addr) (c16_1:Nat) (b17_1:Option Addr) (c17_1:Nat) (b18_1:Option Addr) (c18_1:Nat) (b27_1:Option Addr) (c27_1:Nat) (b28_1:Option Addr) (c28_1:Nat) (E':Mem),Mem.le E E'->BcM E' exBc b11_1 1 c11_1 b12_1 1 c12_1 b13_1 1 c13_1 b14_1 1 c14_1 b16_1 1 c16_1 b17_1 1 c17_1 b18_1 1 c18_1 b27_1 16 c27_1 b28_1 1 c28_1->Mem.le E E'/\∃ (x:Bc),(BcV E' (SV.agg (bcl 7 100 0 0 0 0 0 0 (-1:Int) 0 0 true 2 0 9223372036854775808 0 0 0 1 2 true b11 n11 c11 b12 n12 c12 b13 n13 c13 b14 n14 c14 b16 n16 c16 b17 n17 c17 b18 n18 c18 b27 n27 c27 b28 n28 c28)) x/\BcV E' (SV.agg (bcl 7 100 0 0 0 0 0 0 (-1:Int) 0 0 true 2 0 9223372036854775808 0 0 0 1 2 true b11_1 1 c11_1 b12_1 1 c12_1 b13_1 1 c13_1 b14_1 1 c14_1 b16_1 1 c16_1 b17_1 1 c17_1 b18_1 1 c18_1 b27_1 16 c27_1 b28_1 1 c28_1)) x/\BcSm x)/\Mem.le E' E'/\(∃ (cs:List Value),E' (VS b 3 c) cs/\(cs=[]->False))/\∃ (n:Int),LoadE H0.P E' 3 (VS b 3 c) 1 (I n)/\bif bif true then n==(1:Int) else false then (∃ (cs:List Value),E' (VS b 3 c) cs/\(cs=[]->False))/\∃ (n:Int),LoadE H0.P E' 3 (VS b 3 c) 32 (I n)/\bif bif true then n==(3:Int) else false then (∃ (cs:List Value),E' (VS d 2 e) cs/\(cs=[]->False))/\∃ (n:Int),LoadE H0.P E' 3 (VS d 2 e) 32 (I n)/\Mem.le E0 E'/\K (B (bif true then n==(9:Int) else false)) E' else Mem.le E0 E'/\K (B false) E' else Mem.le E0 E'/\K (B false) E')
 delta VS bcl
 refine ⟨rfl,fun d11 e11 d12 e12 d13 e13 d14 e14 d16 e16 d17 e17 d18 e18 d27 e27 d28 e28 E1 m hM2=>?_⟩
 have hB:=hB.mono NearR_ok m
 have hD:=hD.mono NearR_ok m
 refine ⟨m,exBc,⟨⟨⟨b11,n11,c11,b12,n12,c12,b13,n13,c13,b14,n14,c14,b16,n16,c16,b17,n17,c17,b18,n18,c18,b27,n27,c27,b28,n28,c28,rfl,hM.mono m⟩⟩,⟨⟨d11,1,e11,d12,1,e12,d13,1,e13,d14,1,e14,d16,1,e16,d17,1,e17,d18,1,e18,d27,16,e27,d28,1,e28,rfl,hM2⟩⟩,sm_ex⟩,mr_,SL.ne NearR_ok hB (i:=0) (by decide),1,near_from hB (i:=0) rfl,condC (fun _=>?_) (fun g=>absurd g (by decide))⟩
 refine ⟨SL.ne NearR_ok hB (i:=1) (by decide),3,near_from hB (i:=1) rfl,condC (fun _=>?_) (fun g=>absurd g (by decide))⟩
 exact ⟨SL.ne NearR_ok hD (i:=1) (by decide),9,near_from hD (i:=1) rfl,mt_ q m,h E1 (mt_ q m)⟩
theorem pc10_11 {b0 b d:Option Addr} {c0 e:Nat} (hM:BcM E exBc b11 n11 c11 b12 n12 c12 b13 n13 c13 b14 n14 c14 b16 n16 c16 b17 n17 c17 b18 n18 c18 b27 n27 c27 b28 n28 c28) (h0:Bs E b0 33 c0 (List.replicate 33 0)) (hB:SL NearR E b 3 c nrC) (hD:SL NearR E d 2 e nrD) (q:Mem.le E0 E) (h:∀ E',Mem.le E0 E'->K (B true) E'):Pc H0 8 Try.f10 [1,1,1,1,1,1,1,1,1,1,1] 0 (pubK E0 K) (sh11 b0 b d c0 c e b11 n11 c11 b12 n12 c12 b13 n13 c13 b14 n14 c14 b16 n16 c16 b17 n17 c17 b18 n18 c18 b27 n27 c27 b28 n28 c28 E):=by
 refine sm_ (?_:∀ (base:Option Addr) (E':Mem),Mem.le E E'->WinE E' base [U8 0,U8 0,U8 0,U8 0,U8 0,U8 0,U8 0,U8 0,U8 0,U8 0,U8 0,U8 0,U8 0,U8 0,U8 0,U8 0,U8 0,U8 0,U8 0,U8 0,U8 0,U8 0,U8 0,U8 0,U8 0,U8 0,U8 0,U8 0,U8 0,U8 0,U8 0,U8 0,U8 0]->∃ (zs:List Int),(Bs E' b0 33 c0 zs/\Bs E' (Option.map (fun (x:Addr)=>Addr.add x 0) base) 33 33 zs/\33<=1000000)/\Ct H0 8 Try.f10 [1,1,1,1,1,1,1,1,1,1,1,1] 0 (pubK E0 K) { fr:=none::oL b0 33 c0::oI 0::none::oI 0::oc 0 0::oI 0::none::oI 1::none::oI 3::oL b 3 c::oI 0::oI 0::oI 0::none::oI 14::oL d 2 e::oB true::no32 (no16 (no2 (oI 0::oB true::oB true::oL b0 33 c0::os 1 0 33 33::oB true::oB true::oB true::oI 0::oB true::oB true::oB true::oI 0::oB true::oB true::oB true::oI 1::oB true::oB true::oB true::oI 3::oB true::oB true::oB true::oI 0::oB true::oB true::oB true::oI 0::oB true::oB true::oB true::oI 0::oB true::oB true::oB true::oI 14::oB true::oB true::no32 (no8 [])))),bx:=[(⟨40,.lst (bcl 7 100 0 0 0 0 0 0 (-1:Int) 0 0 true 2 0 9223372036854775808 0 0 0 1 2 true b11 n11 c11 b12 n12 c12 b13 n13 c13 b14 n14 c14 b16 n16 c16 b17 n17 c17 b18 n18 c18 b27 n27 c27 b28 n28 c28),30,true⟩:Box),⟨5,.vals [U8 0,U8 0,U8 0,U8 0,U8 0,U8 0,U8 0,U8 0,U8 0,U8 0,U8 0,U8 0,U8 0,U8 0,U8 0,U8 0,U8 0,U8 0,U8 0,U8 0,U8 0,U8 0,U8 0,U8 0,U8 0,U8 0,U8 0,U8 0,U8 0,U8 0,U8 0,U8 0,U8 0],33,false⟩],E:=E':St })
 delta U8 no2 no8 no16 no32 bcl
 refine fun base E1 m hw=>⟨List.replicate 33 0,⟨h0.mono m,Bs.win hw rfl rfl (Nat.le_refl _) (fun z hz=>by rw [(List.mem_replicate.1 hz).2];decide),by decide⟩,?_⟩
 exact Ct_re [some 0] (Ct_intro okH0 (pc10_12 (E:=E1) (hM.mono m) (hB.mono NearR_ok m) (hD.mono NearR_ok m) (mt_ q m) h)) (wkH mr_)
theorem rd120 {s':Int×Int} (d:DecR [120] x s'):s'.2=3:=by
 obtain ⟨s1,s2,s3,s4,s5,s6,s7,s8,s9,s10,s11,s12,s13,s14,s15,s16,s17,s18,s19,s20,s21,s22,s23,s24,s25,s26,vf,vh,dA,dB⟩:=d
 have gA:=rA_of dA
 have e0:(rA_ [120] (0,0)).2.2=3:=by kernel_rfl
 rw [gA] at e0
 have e0:s26.2=3:=e0
 by_cases hy:x.has=true
 ·rw [if_pos hy] at dB
  obtain ⟨s27,s28,s29,dB⟩:=dB
  have gB:=rB_of dB
  obtain ⟨a,e⟩:=s26
  simp only at e0
  subst e0
  have:=stpB_.sticky [120] a 3 (by decide)
  rw [gB] at this
  simp only at this
  rw [this]
 ·rw [if_neg hy] at dB
  rw [dB.2.2.2.2];exact e0
theorem n10 (h:∀ E',Mem.le E E'->K (B true) E'):Ent H0 8 Try.f10 [] E K:=by
 refine sm_ (?_:∃ (x:Bc),(BcV E (SV.agg (bcl 0 0 0 0 0 0 0 0 0 0 0 false 0 0 0 0 0 0 0 0 false none 0 0 none 0 0 none 0 0 none 0 0 none 0 0 none 0 0 none 0 0 none 0 0 none 0 0)) x/\BcSm x)/\∀ (ys:List Int) (e:Int) (b:Option Addr) (n c:Nat) (E':Mem),Mem.le E E'->EncS x ys e->Bs E' b n c ys->Mem.le E E'/\0=0/\∀ (b11:Option Addr) (c11:Nat) (b12:Option Addr) (c12:Nat) (b13:Option Addr) (c13:Nat) (b14:Option Addr) (c14:Nat) (b16:Option Addr) (c16:Nat) (b17:Option Addr) (c17:Nat) (b18:Option Addr) (c18:Nat) (b27:Option Addr) (c27:Nat) (b28:Option Addr) (c28:Nat) (E'_1:Mem),Mem.le E' E'_1->BcM E'_1 exBc b11 1 c11 b12 1 c12 b13 1 c13 b14 1 c14 b16 1 c16 b17 1 c17 b18 1 c18 b27 16 c27 b28 1 c28->Mem.le E' E'_1/\∃ (x:Bc),(BcV E'_1 (SV.agg (bcl 7 100 0 0 0 0 0 0 (-1:Int) 0 0 true 2 0 9223372036854775808 0 0 0 1 2 true b11 1 c11 b12 1 c12 b13 1 c13 b14 1 c14 b16 1 c16 b17 1 c17 b18 1 c18 b27 16 c27 b28 1 c28)) x/\BcSm x)/\∀ (ys:List Int) (e_1:Int) (b_1:Option Addr) (n_1 c_1:Nat) (E':Mem),Mem.le E'_1 E'->EncS x ys e_1->Bs E' b_1 n_1 c_1 ys->Mem.le E'_1 E'/\∃ (zs:List Int),(Bs E' b_1 n_1 c_1 zs/\n_1<=100000)/\∀ (x:Bc) (e_2:Int) b11_1 n11 c11_1 b12_1 n12 c12_1 b13_1 n13 c13_1 b14_1 n14 c14_1 b16_1 n16 c16_1 b17_1 n17 c17_1 b18_1 n18 c18_1 b27_1 n27 c27_1 b28_1 n28 c28_1 (E'_2:Mem),Mem.le E' E'_2->DecS zs x e_2->BcM E'_2 x b11_1 n11 c11_1 b12_1 n12 c12_1 b13_1 n13 c13_1 b14_1 n14 c14_1 b16_1 n16 c16_1 b17_1 n17 c17_1 b18_1 n18 c18_1 b27_1 n27 c27_1 b28_1 n28 c28_1->Mem.le E' E'_2/\∃ (x_1:Bc),(BcV E'_2 (SV.agg (bcl 60 0 0 0 0 0 0 0 0 0 0 false 0 0 0 0 0 0 0 0 false none 0 0 none 0 0 none 0 0 none 0 0 none 0 0 none 0 0 none 0 0 none 0 0 none 0 0)) x_1/\BcSm x_1)/\∀ (ys:List Int) (e_3:Int) (b_2:Option Addr) (n_2 c_2:Nat) (E':Mem),Mem.le E'_2 E'->EncS x_1 ys e_3->Bs E' b_2 n_2 c_2 ys->Mem.le E'_2 E'/\∀ (base:Option Addr) (E'_3:Mem),Mem.le E' E'_3->WinE E'_3 base [U8 120]->∃ (zs:List Int),(Bs E'_3 (Option.map (fun (x:Addr)=>Addr.add x 0) base) 1 1 zs/\1<=100000)/\∀ (x_2:Bc) (e_4:Int) b11_2 n11_1 c11_2 b12_2 n12_1 c12_2 b13_2 n13_1 c13_2 b14_2 n14_1 c14_2 b16_2 n16_1 c16_2 b17_2 n17_1 c17_2 b18_2 n18_1 c18_2 b27_2 n27_1 c27_2 b28_2 n28_1 c28_2 (E':Mem),Mem.le E'_3 E'->DecS zs x_2 e_4->BcM E' x_2 b11_2 n11_1 c11_2 b12_2 n12_1 c12_2 b13_2 n13_1 c13_2 b14_2 n14_1 c14_2 b16_2 n16_1 c16_2 b17_2 n17_1 c17_2 b18_2 n18_1 c18_2 b27_2 n27_1 c27_2 b28_2 n28_1 c28_2->∃ (xs:List (Int×Bc)),∃ (x_3:Bc),(SL NearR E' none 0 0 xs/\0<=1000000/\BcV E' (SV.agg (bcl 3 0 0 0 0 0 0 0 0 0 0 false 0 0 0 0 0 0 0 0 false none 0 0 none 0 0 none 0 0 none 0 0 none 0 0 none 0 0 none 0 0 none 0 0 none 0 0)) x_3/\BcSm x_3)/\∀ (ys:List (Int×Bc)) (e_5:Int) (b':Option Addr) (n' c':Nat) (E'_4:Mem),Mem.le E' E'_4->NoteS xs x_3 4 ys e_5->SL NearR E'_4 b' n' c' ys->Mem.le E' E'_4/\∃ (xs:List (Int×Bc)),∃ (x_4:Bc),(SL NearR E'_4 b' n' c' xs/\n'<=(1000000:Nat)/\BcV E'_4 (SV.agg [I 1,I 0,I 0,I 0,I 0,I 0,I 0,I 0,I 0,I 0,I 0,L none 0 0,L none 0 0,L none 0 0,L none 0 0,B false,L none 0 0,L none 0 0,L none 0 0,I 0,I 0,SV.raw (Value.int IntKind.u64 0),I 0,I 0,I 0,I 0,I 0,L none 0 0,L none 0 0,B false]) x_4/\BcSm x_4)/\∀ (ys:List (Int×Bc)) (e_6:Int) (b'_1:Option Addr) (n'_1 c'_1:Nat) (E':Mem),Mem.le E'_4 E'->NoteS xs x_4 7 ys e_6->SL NearR E' b'_1 n'_1 c'_1 ys->Mem.le E'_4 E'/\∃ (xs:List (Int×Bc)),∃ (x_5:Bc),(SL NearR E' b'_1 n'_1 c'_1 xs/\n'_1<=(1000000:Nat)/\BcV E' (SV.agg [I 9,I 0,I 0,I 0,I 0,I 0,I 0,I 0,I 0,I 0,I 0,L none 0 0,L none 0 0,L none 0 0,L none 0 0,B false,L none 0 0,L none 0 0,L none 0 0,I 0,I 0,SV.raw (Value.int IntKind.u64 0),I 0,I 0,I 0,I 0,I 0,L none 0 0,L none 0 0,B false]) x_5/\BcSm x_5)/\∀ (ys:List (Int×Bc)) (e_7:Int) (b'_2:Option Addr) (n'_2 c'_2:Nat) (E'_5:Mem),Mem.le E' E'_5->NoteS xs x_5 8 ys e_7->SL NearR E'_5 b'_2 n'_2 c'_2 ys->Mem.le E' E'_5/\∃ (xs:List (Int×Bc)),∃ (x_6:Bc),(SL NearR E'_5 b'_2 n'_2 c'_2 xs/\n'_2<=(1000000:Nat)/\BcV E'_5 (SV.agg [I 9,I 0,I 0,I 0,I 0,I 0,I 0,I 0,I 0,I 0,I 0,L none 0 0,L none 0 0,L none 0 0,L none 0 0,B false,L none 0 0,L none 0 0,L none 0 0,I 0,I 0,SV.raw (Value.int IntKind.u64 0),I 0,I 0,I 0,I 0,I 0,L none 0 0,L none 0 0,B false]) x_6/\BcSm x_6)/\∀ (ys:List (Int×Bc)) (e_8:Int) (b'_3:Option Addr) (n'_3 c'_3:Nat) (E':Mem),Mem.le E'_5 E'->NoteS xs x_6 7 ys e_8->SL NearR E' b'_3 n'_3 c'_3 ys->Mem.le E'_5 E'/\∃ (xs:List (Int×Bc)),(SL NearR E' b'_2 n'_2 c'_2 xs/\n'_2<=(1000000:Nat))/\∀ (b'_4:Option Addr) (n'_4 c'_4:Nat) (E'_6:Mem),Mem.le E' E'_6->SL NearR E'_6 b'_4 n'_4 c'_4 (List.filter (fun (x:Int×Bc)=> !oldN 8 x) xs)->Mem.le E' E'_6/\Ct H0 8 Try.f10 [(1:Nat),(1:Nat),(1:Nat),(1:Nat),(1:Nat),(1:Nat),(1:Nat),(1:Nat),(1:Nat),(1:Nat),(1:Nat)] (0:Nat) (pubK E K) { fr:=some (B false)::oL b n c::oI e::oL b_1 n_1 c_1::oI e_1::oc 0 0::oI e_2::oL b_2 n_2 c_2::oI e_3::oc 2 0::oI e_4::oL b'_2 n'_2 c'_2::oI e_5::oI e_6::oI e_7::oL b'_3 n'_3 c'_3::oI e_8::oL b'_4 n'_4 c'_4::none::some (SV.tup [L b n c,I e])::some (SV.agg [I 0,I 0,I 0,I 0,I 0,I 0,I 0,I 0,I 0,I 0,I 0,L none 0 0,L none 0 0,L none 0 0,L none 0 0,B false,L none 0 0,L none 0 0,L none 0 0,I 0,I 0,SV.raw (Value.int IntKind.u64 0),I 0,I 0,I 0,I 0,I 0,L none 0 0,L none 0 0,B false])::some (SV.tup [L b n c,I e])::oL b n c::oI e::some (SV.tup [L b_1 n_1 c_1,I e_1])::some (SV.agg [I 7,I 100,I 0,I 0,I 0,I 0,I 0,I 0,I (-1),I 0,I 0,L b11 1 c11,L b12 1 c12,L b13 1 c13,L b14 1 c14,B true,L b16 1 c16,L b17 1 c17,L b18 1 c18,I 2,I 0,SV.raw (Value.int IntKind.u64 9223372036854775808),I 0,I 0,I 0,I 1,I 2,L b27 16 c27,L b28 1 c28,B true])::some (SV.tup [L b_1 n_1 c_1,I e_1])::oL b_1 n_1 c_1::oI e_1::some (SV.tup [SV.agg (bcx x b11_1 n11 c11_1 b12_1 n12 c12_1 b13_1 n13 c13_1 b14_1 n14 c14_1 b16_1 n16 c16_1 b17_1 n17 c17_1 b18_1 n18 c18_1 b27_1 n27 c27_1 b28_1 n28 c28_1),I e_2])::oL b_1 n_1 c_1::some (SV.tup [SV.agg (bcx x b11_1 n11 c11_1 b12_1 n12 c12_1 b13_1 n13 c13_1 b14_1 n14 c14_1 b16_1 n16 c16_1 b17_1 n17 c17_1 b18_1 n18 c18_1 b27_1 n27 c27_1 b28_1 n28 c28_1),I e_2])::some (SV.agg (bcx x b11_1 n11 c11_1 b12_1 n12 c12_1 b13_1 n13 c13_1 b14_1 n14 c14_1 b16_1 n16 c16_1 b17_1 n17 c17_1 b18_1 n18 c18_1 b27_1 n27 c27_1 b28_1 n28 c28_1))::oI e_2::some (SV.tup [L b_2 n_2 c_2,I e_3])::some (SV.agg [I 60,I 0,I 0,I 0,I 0,I 0,I 0,I 0,I 0,I 0,I 0,L none 0 0,L none 0 0,L none 0 0,L none 0 0,B false,L none 0 0,L none 0 0,L none 0 0,I 0,I 0,SV.raw (Value.int IntKind.u64 0),I 0,I 0,I 0,I 0,I 0,L none 0 0,L none 0 0,B false])::some (SV.tup [L b_2 n_2 c_2,I e_3])::oL b_2 n_2 c_2::oI e_3::some (SV.tup [SV.agg (bcx x_2 b11_2 n11_1 c11_2 b12_2 n12_1 c12_2 b13_2 n13_1 c13_2 b14_2 n14_1 c14_2 b16_2 n16_1 c16_2 b17_2 n17_1 c17_2 b18_2 n18_1 c18_2 b27_2 n27_1 c27_2 b28_2 n28_1 c28_2),I e_4])::os 1 0 1 1::some (SV.tup [SV.agg (bcx x_2 b11_2 n11_1 c11_2 b12_2 n12_1 c12_2 b13_2 n13_1 c13_2 b14_2 n14_1 c14_2 b16_2 n16_1 c16_2 b17_2 n17_1 c17_2 b18_2 n18_1 c18_2 b27_2 n27_1 c27_2 b28_2 n28_1 c28_2),I e_4])::some (SV.agg (bcx x_2 b11_2 n11_1 c11_2 b12_2 n12_1 c12_2 b13_2 n13_1 c13_2 b14_2 n14_1 c14_2 b16_2 n16_1 c16_2 b17_2 n17_1 c17_2 b18_2 n18_1 c18_2 b27_2 n27_1 c27_2 b28_2 n28_1 c28_2))::oI e_4::some (SV.tup [L b' n' c',I e_5])::some (SV.agg [I 3,I 0,I 0,I 0,I 0,I 0,I 0,I 0,I 0,I 0,I 0,L none 0 0,L none 0 0,L none 0 0,L none 0 0,B false,L none 0 0,L none 0 0,L none 0 0,I 0,I 0,SV.raw (Value.int IntKind.u64 0),I 0,I 0,I 0,I 0,I 0,L none 0 0,L none 0 0,B false])::some (SV.tup [L b' n' c',I e_5])::oL b' n' c'::oI e_5::some (SV.tup [L b'_1 n'_1 c'_1,I e_6])::oL b' n' c'::some (SV.agg [I 1,I 0,I 0,I 0,I 0,I 0,I 0,I 0,I 0,I 0,I 0,L none 0 0,L none 0 0,L none 0 0,L none 0 0,B false,L none 0 0,L none 0 0,L none 0 0,I 0,I 0,SV.raw (Value.int IntKind.u64 0),I 0,I 0,I 0,I 0,I 0,L none 0 0,L none 0 0,B false])::some (SV.tup [L b'_1 n'_1 c'_1,I e_6])::oL b'_1 n'_1 c'_1::oI e_6::some (SV.tup [L b'_2 n'_2 c'_2,I e_7])::oL b'_1 n'_1 c'_1::some (SV.agg [I 9,I 0,I 0,I 0,I 0,I 0,I 0,I 0,I 0,I 0,I 0,L none 0 0,L none 0 0,L none 0 0,L none 0 0,B false,L none 0 0,L none 0 0,L none 0 0,I 0,I 0,SV.raw (Value.int IntKind.u64 0),I 0,I 0,I 0,I 0,I 0,L none 0 0,L none 0 0,B false])::some (SV.tup [L b'_2 n'_2 c'_2,I e_7])::oL b'_2 n'_2 c'_2::oI e_7::some (SV.tup [L b'_3 n'_3 c'_3,I e_8])::oL b'_2 n'_2 c'_2::some (SV.agg [I 9,I 0,I 0,I 0,I 0,I 0,I 0,I 0,I 0,I 0,I 0,L none 0 0,L none 0 0,L none 0 0,L none 0 0,B false,L none 0 0,L none 0 0,L none 0 0,I 0,I 0,SV.raw (Value.int IntKind.u64 0),I 0,I 0,I 0,I 0,I 0,L none 0 0,L none 0 0,B false])::some (SV.tup [L b'_3 n'_3 c'_3,I e_8])::oL b'_3 n'_3 c'_3::oI e_8::oL b'_2 n'_2 c'_2::oL b'_4 n'_4 c'_4::no32 (no32 (no8 (no4 (no2 (none::[]))))),bx:=[(⟨(40:Nat),Row.lst (bcx x b11_1 n11 c11_1 b12_1 n12 c12_1 b13_1 n13 c13_1 b14_1 n14 c14_1 b16_1 n16 c16_1 b17_1 n17 c17_1 b18_1 n18 c18_1 b27_1 n27 c27_1 b28_1 n28 c28_1),(30:Nat),true⟩:Box),⟨(5:Nat),Row.lst [SV.raw (U8 120)],(1:Nat),false⟩,⟨(40:Nat),Row.lst (bcx x_2 b11_2 n11_1 c11_2 b12_2 n12_1 c12_2 b13_2 n13_1 c13_2 b14_2 n14_1 c14_2 b16_2 n16_1 c16_2 b17_2 n17_1 c17_2 b18_2 n18_1 c18_2 b27_2 n27_1 c27_2 b28_2 n28_1 c28_2),(30:Nat),true⟩],E:=E'_6:St })
 delta U8 no2 no4 no8 no32 bcx bcl
 refine ⟨zeroBc,⟨bcv_F 0,sm_F 0⟩,fun ys0 e0 b0 n0 c0 E1 m1 hq1 hb1=>⟨m1,rfl,fun p11 r11 p12 r12 p13 r13 p14 r14 p16 r16 p17 r17 p18 r18 p27 r27 p28 r28 E2 m2 hM2=>?_⟩⟩
 have hq:=hq1.eq
 rw [encR_zero] at hq
 simp only [Prod.mk.injEq] at hq
 obtain ⟨rfl,rfl⟩:=hq
 refine ⟨m2,exBc,⟨⟨⟨p11,1,r11,p12,1,r12,p13,1,r13,p14,1,r14,p16,1,r16,p17,1,r17,p18,1,r18,p27,16,r27,p28,1,r28,rfl,hM2⟩⟩,sm_ex⟩,fun ys1 e1 b1 n1 c1 E3 m3 hq2 hb2=>?_⟩
 have hq:=hq2.eq
 unfold encR at hq
 rw [if_neg (by rw [enc_ex.1];exact Bool.false_ne_true)] at hq
 simp only [Prod.mk.injEq] at hq
 obtain ⟨rfl,rfl⟩:=hq
 refine ⟨m3,_,⟨hb2,by have:=hb2.2.1;have:=enc_ex.2;omega⟩,fun x2 e2 t11 u11 v11 t12 u12 v12 t13 u13 v13 t14 u14 v14 t16 u16 v16 t17 u17 v17 t18 u18 v18 t27 u27 v27 t28 u28 v28 E4 m4 hd hM4=>?_⟩
 have hd:=hd.eq
 obtain ⟨y,s',hr,hy⟩:=hd
 obtain ⟨q1,q2⟩:=dec_of_enc wf_ex enc_ex.1 (List.append_nil _).symm hr
 rw [q2] at hy
 simp only [Int.lt_irrefl,if_true,if_false] at hy
 obtain ⟨rfl,rfl⟩:=hy
 subst q1
 refine ⟨m4,fromF 60,⟨bcv_F 60,sm_F 60⟩,fun ys3 e3 b2 n2 c2 E5 m5 hq3 hb3=>?_⟩
 have hq:=hq3.eq
 rw [encR_60] at hq
 simp only [Prod.mk.injEq] at hq
 obtain ⟨rfl,rfl⟩:=hq
 refine ⟨m5,fun base E6 m6 hw=>⟨[120],⟨Bs.win hw rfl rfl (Nat.le_refl _) (fun z hz=>by cases List.mem_singleton.1 hz;decide),by decide⟩,fun x4 e4 f11 g11 h11 f12 g12 h12 f13 g13 h13 f14 g14 h14 f16 g16 h16 f17 g17 h17 f18 g18 h18 f27 g27 h27 f28 g28 h28 E7 m7 hd2 hM7=>?_⟩⟩
 have e4':e4=3:=by
  obtain ⟨y,s2,hr2,hy2⟩:=hd2.eq
  have:=rd120 hr2
  rw [if_neg (by rw [this];decide)] at hy2
  rw [hy2.2,this]
 subst e4'
 refine ⟨[],fromF 3,⟨SL.nil,by decide,bcv_F 3,sm_F 3⟩,fun l1 a1 d1 i1 j1 E8 m8 hn1 hs1=>?_⟩
 have hq:=hn1.eq.1 ⟨enc_3,(fun i x hx=>by simp at hx),by decide,by decide⟩
 rw [note1] at hq
 simp only [Prod.mk.injEq] at hq
 obtain ⟨rfl,rfl⟩:=hq
 have hl:=hs1.len
 obtain rfl:i1=1:=hl.symm
 refine ⟨m8,nrA,fromF 1,⟨hs1,by decide,bcv_F 1,sm_F 1⟩,fun l2 a2 d2 i2 j2 E9 m9 hn2 hs2=>?_⟩
 have hq:=hn2.eq.1 ⟨enc_1,okA,by decide,by decide⟩
 rw [note2] at hq
 simp only [Prod.mk.injEq] at hq
 obtain ⟨rfl,rfl⟩:=hq
 have hl:=hs2.len
 obtain rfl:i2=2:=hl.symm
 refine ⟨m9,nrB,fromF 9,⟨hs2,by decide,bcv_F 9,sm_F 9⟩,fun l3 a3 d3 i3 j3 E10 m10 hn3 hs3=>?_⟩
 have hq:=hn3.eq.1 ⟨enc_9,okB,by decide,by decide⟩
 rw [note3] at hq
 simp only [Prod.mk.injEq] at hq
 obtain ⟨rfl,rfl⟩:=hq
 have hl:=hs3.len
 obtain rfl:i3=3:=hl.symm
 refine ⟨m10,nrC,fromF 9,⟨hs3,by decide,bcv_F 9,sm_F 9⟩,fun l4 a4 d4 i4 j4 E11 m11 hn4 hs4=>?_⟩
 have hq:=hn4.eq.1 ⟨enc_9,okC,by decide,by decide⟩
 rw [note4] at hq
 simp only [Prod.mk.injEq] at hq
 obtain ⟨rfl,rfl⟩:=hq
 have s3:=hs3.mono NearR_ok m11
 refine ⟨m11,nrC,⟨s3,by decide⟩,fun d5 i5 j5 E12 m12 hs5=>⟨m12,?_⟩⟩
 have hs5:SL NearR E12 d5 i5 j5 nrD:=by rw [exp1] at hs5;exact hs5
 have hl:=hs5.len
 obtain rfl:i5=2:=hl.symm
 have hl:=hb1.2.1
 obtain rfl:n0=33:=by rw [← hl];rfl
 have k4:Mem.le E4 E12:=mt_ m5<|mt_ m6<|mt_ m7<|mt_ m8<|mt_ m9<|mt_ m10<|mt_ m11 m12
 have k1:Mem.le E1 E12:=mt_ m2<|mt_ m3<|mt_ m4 k4
 exact Ct_re [some 0] (Ct_intro okH0 (pc10_11 (E:=E12) (hM4.mono k4) (hb1.mono k1) (s3.mono NearR_ok m12) hs5 (mt_ m1 k1) h)) (wkH mr_)
theorem BcFew.sm (h:BcFew x):BcSm x:=⟨Nat.le_trans h.l11 (by decide),Nat.le_trans h.l12 (by decide),Nat.le_trans h.l13 (by decide),Nat.le_trans h.l14 (by decide),Nat.le_trans h.l16 (by decide),Nat.le_trans h.l17 (by decide),Nat.le_trans h.l18 (by decide),Nat.le_trans h.l27 (by decide),Nat.le_trans h.l28 (by decide)⟩
noncomputable def tabHd:FuncId->List SV->Mem->(SV->Mem->Prop)->Prop:=fun f args E K=>match f with
 | 10=>args.length=0/\∀ E',Mem.le E E'->K (B true) E'
 | f=>tabM f args E K
theorem tabHd_ok:TabOK Try.prog tabHd:=by
 intro f args E K h
 unfold tabHd at h
 split at h
 ·obtain ⟨h0,hk⟩:=h
  have h0:=List.eq_nil_of_length_eq_zero h0
  subst h0
  exact esm okH0 Try.func10 rfl (n10 hk)
 ·exact tabM_ok _ _ _ _ h
section
variable {xs ys:List (Int×Bc)} {x a b:Bc} {y:Int×Bc} {fr later:Int}
end
noncomputable def R0:Cx:={ P:=Try.prog,inl:=fun f=>List.contains [] f,tab:=fun _ _ _ _=>False,isB:=fun _=>false,tabB:=fun _ _ _ _ _=>False,opt:={ unroll:=0,carry:=[] },muts:=mutsD }
theorem okR0:CxOK R0:=CxOK.four (fun _ _ _ _ h=>h.elim) (by kernel_rfl) (okInl (by kernel_rfl)) (fun _ _ _ _ _ h=>h.elim)
def inB (n lo hi:Int):Bool:=decide (lo<=n)&&decide (n<=hi)
theorem inB_iff:inB n lo hi=true↔lo<=n/\n<=hi:=by simp [inB]
theorem ss52 (h:K (B (inB n lo hi)) E):Ent R0 8 Try.f52 [I n,I lo,I hi] E K:=by
  refine sm_ (?_:bif decide (n>=lo) then Mem.le E E/\K (B (bif true then decide (n<=hi) else false)) E else Mem.le E E/\K (B false) E)
  refine condC (fun g=>?_) (fun g=>?_)
  · have e : inB n lo hi = decide (n ≤ hi) := by have :lo<=n:=by simpa using g
                                                 simp [inB,this]
    rw [e] at h;exact ⟨mr_,h⟩
  · have e : inB n lo hi = false := by have :¬ lo<=n:=by simpa using g
                                       simp only [inB,this,decide_false,Bool.false_and]
    rw [e] at h;exact ⟨mr_,h⟩
theorem ss51 (h:K (B (inB n 0 1000000000)) E):Ent R0 8 Try.f51 [I n] E K:=by
  refine sm_ (?_:bif decide (n>=(0:Int)) then Mem.le E E/\K (B (bif true then decide (n<=(1000000000:Int)) else false)) E else Mem.le E E/\K (B false) E)
  refine condC (fun g=>?_) (fun g=>?_)
  · have e : inB n 0 1000000000 = decide (n ≤ 1000000000) := by have :0<=n:=by simpa using g
                                                                simp [inB,this]
    rw [e] at h;exact ⟨mr_,h⟩
  · have e : inB n 0 1000000000 = false := by have :¬ 0<=n:=by simpa using g
                                              simp only [inB,this,decide_false,Bool.false_and]
    rw [e] at h;exact ⟨mr_,h⟩
noncomputable def tab52:FuncId->List SV->Mem->(SV->Mem->Prop)->Prop:=fun f args E K=>match f with
 | 52=>d3 args fun x0 x1 x2=>dI x0 fun n=>dI x1 fun lo=>dI x2 fun hi=>K (B (inB n lo hi)) E
 | 51=>d1 args fun x0=>dI x0 fun n=>K (B (inB n 0 1000000000)) E
 | _=>False
theorem tab52_ok:TabOK Try.prog tab52:=by
 intro f args E K h
 unfold tab52 at h
 split at h
 ·obtain ⟨x0,x1,x2,rfl,h1⟩:=d3_elim h
  obtain ⟨n,rfl,h2⟩:=dI_elim h1
  obtain ⟨lo,rfl,h3⟩:=dI_elim h2
  obtain ⟨hi,rfl,h4⟩:=dI_elim h3
  exact esm okR0 Try.func52 rfl (ss52 h4)
 ·obtain ⟨x0,rfl,h1⟩:=d1_elim h
  obtain ⟨n,rfl,h2⟩:=dI_elim h1
  exact esm okR0 Try.func51 rfl (ss51 h2)
 ·exact h.elim
noncomputable def R1:Cx:={ P:=Try.prog,inl:=fun f=>List.contains [] f,tab:=tab52,isB:=fun _=>false,tabB:=fun _ _ _ _ _=>False,opt:={ unroll:=0,carry:=[3] },muts:=mutsD }
theorem okR1:CxOK R1:=CxOK.four tab52_ok (by kernel_rfl) (okInl (by kernel_rfl)) (fun _ _ _ _ _ h=>h.elim)
def sh27 (b:Option Addr) (n c i:Nat) (E:Mem):St:=⟨[oL b n c,none,none,oI (i:Nat)]++List.replicate 47 none,[],E⟩
theorem rn27 {b:Option Addr} {n:Nat} (h0:SL NearR E b n c xs) (hn:n<=9223372036854775807) (hi:i<=n/\∀ (j:Nat) x,j<i->xs[j]? =some x->nbAt xs j x) (h:∀ v:Bool,(v=true↔nbOK xs)->K (B v) E)
  (ih:i<n->(∀ x,xs[i]? =some x->nbAt xs i x)->Lp R1 8 Try.f27 [1,0,1,0] 0 (pubK E K) (sh27 b n c (i+1) E)):Rnd R1 8 Try.f27 [1,0,1,0] 0 (pubK E K) (sh27 b n c i E):=by
 refine sm_ (?_:bif decide ((NI i)<(NI n)) then req (0<=(NI i)/\(NI i)<(NI n)) ((∃ (cs:List Value),E (VS b n c) cs/\(cs=[]->False))/\∃ (n_1:Int),LoadE R1.P E 3 (VS b n c) (Int.toNat (NI i)*31+1+0) (I n_1)/\Mem.le E E/\req (0<=(NI i)/\(NI i)<(NI n)) ((∃ (cs:List Value),E (VS b n c) cs/\(cs=[]->False))/\∃ (n_2:Int),LoadE R1.P E 3 (VS b n c) (Int.toNat (NI i)*31+0) (I n_2)/\Mem.le E E/\bif !inB n_1 0 59 then Mem.le E E/\K (B false) E else bif bif false then true else !inB n_2 0 1000000000 then Mem.le E E/\K (B false) E else bif decide ((NI i)>0) then req ((0:Int)<=WI ((NI i)-1)/\WI ((NI i)-1)<(NI n)) ((∃ (cs:List Value),E (VS b n c) cs/\(cs=[]->False))/\∃ (n_3:Int),LoadE R1.P E 3 (VS b n c) (Int.toNat (WI ((NI i)-1))*31+1+0) (I n_3)/\req (0<=(NI i)/\(NI i)<(NI n)) ((∃ (cs:List Value),E (VS b n c) cs/\(cs=[]->False))/\∃ (n_4:Int),LoadE R1.P E 3 (VS b n c) (Int.toNat (NI i)*31+1+0) (I n_4)/\bif bif false then true else bif true then decide (n_3>=n_4) else false then Mem.le E E/\K (B false) E else Lp R1 8 Try.f27 [1,0,1,0] 0 (pubK E K) { fr:=some (L b n c)::none::none::oI (WI ((NI i)+1))::no32 (no8 (no4 (no2 (none::[])))),bx:=[],E:=E:St })) else Lp R1 8 Try.f27 [1,0,1,0] 0 (pubK E K) { fr:=some (L b n c)::none::none::oI (WI ((NI i)+1))::no32 (no8 (no4 (no2 (none::[])))),bx:=[],E:=E:St })) else Mem.le E E/\K (B true) E)
 delta WI NI VS no2 no4 no8 no32
 have hl:=h0.len
 refine condC (fun g=>?_) (fun g=>⟨mr_,h true ⟨fun _ j x hx=>hi.2 j x (by have:=(List.getElem?_eq_some_iff.1 hx).1;simp at g;omega) hx,fun _=>rfl⟩⟩)
 have g:i<n:=by simpa using g
 have w:IntKind.wrap .i64 ((i:Int)+1)=((i+1:Nat):Int):=by rw [wrap_i64 (by omega)];omega
 obtain ⟨x,hx⟩:∃ x,xs[i]? =some x:=⟨_,List.getElem?_eq_getElem (by omega)⟩
 have no:¬ nbAt xs i x->Mem.le E E/\K (B false) E:=fun q=>⟨mr_,h false ⟨fun e=>(by cases e),fun e=>absurd (e i x hx) q⟩⟩
 have nx:nbAt xs i x->_:=fun q=>ih g (fun y hy=>by rw [hx] at hy;cases hy;exact q)
 refine req_intro (by omega) ⟨SL.ne NearR_ok h0 g,x.2.from_,near_from h0 hx,mr_,req_intro (by omega) ⟨SL.ne NearR_ok h0 g,x.1,near_frame h0 hx,mr_,?_⟩⟩
 rw [w]
 refine condC (fun g1=>no (fun q=>by have e:=inB_iff.2 q.1;simp [e] at g1)) (fun g1=>condC (fun g2=>no (fun q=>by have e:=inB_iff.2 q.2.1;simp [e] at g2)) (fun g2=>?_))
 have g1:=inB_iff.1 (by simpa using g1)
 have g2:=inB_iff.1 (by simpa using g2)
 refine condC (fun g5=>?_) (fun g5=>Lp_re [] (nx ⟨g1,g2,fun y hy=>by simp at g5;omega⟩) (wkH mr_))
 have g5:0<i:=by simpa using g5
 have w2:IntKind.wrap .i64 ((i:Int)-1)=((i-1:Nat):Int):=by rw [wrap_i64 (by omega)];omega
 obtain ⟨y,hy⟩:∃ y,xs[i-1]? =some y:=⟨_,List.getElem?_eq_getElem (by omega)⟩
 rw [w2]
 refine req_intro (by omega) ⟨SL.ne NearR_ok h0 g,y.2.from_,near_from h0 hy,req_intro (by omega) ⟨SL.ne NearR_ok h0 g,x.2.from_,near_from h0 hx,?_⟩⟩
 refine condC (fun g6=>no (fun q=>by have:=q.2.2 y g5 hy;simp at g6;omega)) (fun g6=>Lp_re [] (nx ⟨g1,g2,fun z _ hz=>by rw [hy] at hz;cases hz;simp at g6;omega⟩) (wkH mr_))
theorem ss27 {b:Option Addr} {n:Nat} (h0:SL NearR E b n c xs) (hn:n<=9223372036854775807) (h:∀ v:Bool,(v=true↔nbOK xs)->K (B v) E):Ent R1 8 Try.f27 [L b n c] E K:=by
 refine sm_ (?_:Lp R1 8 Try.f27 [1,0,1,0] 0 (pubK E K) { fr:=some (L b n c)::none::none::oI 0::no32 (no8 (no4 (no2 (none::[])))),bx:=[],E:=E:St })
 delta no2 no4 no8 no32
 exact Lp_re [] (Lp_ind okR1 (fun z:{i:Nat//i<=n/\∀ (j:Nat) x,j<i->xs[j]? =some x->nbAt xs j x}=>sh27 b n c z.1 E) (fun z=>n-z.1) (fun z ih=>rn27 h0 hn z.2 h fun g hf=>ih ⟨z.1+1,g,fun j x hj hx=>by
  rcases Nat.lt_succ_iff_lt_or_eq.1 hj with h1|h1
  ·exact z.2.2 j x h1 hx
  ·subst h1;exact hf x hx⟩ (by show n-(_+1)<n-_;omega)) ⟨0,Nat.zero_le _,fun j x hj=>absurd hj (Nat.not_lt_zero _)⟩) (wkH mr_)
noncomputable def tabHe:FuncId->List SV->Mem->(SV->Mem->Prop)->Prop:=fun f args E K=>match f with
 | 27=>d1 args fun x0=>dS x0 fun b n c=>∃ xs,(SL NearR E b n c xs/\n<=9223372036854775807)/\∀ v:Bool,(v=true↔nbOK xs)->K (B v) E
 | f=>tabHd f args E K
theorem tabHe_ok:TabOK Try.prog tabHe:=by
 intro f args E K h
 unfold tabHe at h
 split at h
 ·obtain ⟨x0,rfl,h1⟩:=d1_elim h
  obtain ⟨b,n,c,rfl,xs,⟨hx,hn⟩,hk⟩:=dS_elim h1
  exact esm okR1 Try.func27 rfl (ss27 hx hn hk)
 ·exact tabHd_ok _ _ _ _ h
def rowOK (its:List Item) (x:List Int):Bool:=its.all fun it=>match it.2 with
 | some r=>decide (r.1<=x.getD it.1 0/\x.getD it.1 0<=r.2)
 | none=>decide (x.getD it.1 0=0)
theorem wnum_iff:(wnum o v lo hi).2=false↔o.2=false/\lo<=v/\v<=hi:=by
 refine ⟨good_num,fun h=>?_⟩
 rw [wnum_ok (by rw [h.1];rintro (q|q|q);omega;omega;cases q)]
theorem wuns_iff:(wuns o v).2=false↔o.2=false/\v=0:=by simp [wuns]
theorem wdat_iff:(wdat o zs m).2=false↔o.2=false/\(zs.length:Int)=m:=by simp [wdat]
theorem wdig_iff:(wdig o d).2=false↔o.2=false:=Iff.rfl
theorem wflag_iff {b:Bool}:(wnum o (if b then 1 else 0) 0 1).2=false↔o.2=false:=by
 rw [wnum_iff]
 cases b<;>simp
theorem weI_iff (x:List Int):∀ (its:List Item) {o:List Int×Bool},(its.foldl (wItem x) o).2=false↔o.2=false/\rowOK its x=true
 | [],o=>by simp [rowOK]
 | it::its,o=>by
  rw [List.foldl_cons,weI_iff x its]
  unfold wItem rowOK
  rw [List.all_cons,Bool.and_eq_true]
  obtain ⟨j,r⟩:=it
  cases r with
  | none=>simp only [wuns_iff,decide_eq_true_eq];exact and_assoc
  | some r=>simp only [wnum_iff,decide_eq_true_eq];exact and_assoc
theorem weF_iff {its:List Item}:∀ (xs:List (List Int)) {o:List Int×Bool},(xs.foldl (weI its) o).2=false↔o.2=false/\∀ r∈xs,rowOK its r=true
 | [],o=>by simp
 | x::xs,o=>by
  rw [List.foldl_cons,weF_iff xs,List.forall_mem_cons]
  unfold weI
  rw [weI_iff x its];exact and_assoc
theorem wLI_iff {its:List Item} {xs:List (List Int)}:(wList (weI its) hi o xs).2=false↔o.2=false/\(xs.length:Int)<=hi/\∀ r∈xs,rowOK its r=true:=by
 unfold wList
 split
 ·rw [wnum_iff]
  constructor
  ·intro h;omega
  ·intro h;omega
 ·rw [weF_iff,wnum_iff]
  constructor
  ·intro h;exact ⟨h.1.1,h.1.2.2,h.2⟩
  ·intro h;exact ⟨⟨h.1,by omega,h.2.1⟩,h.2.2⟩
theorem weDF:∀ (xs:List (List Int)) (o:List Int×Bool),(xs.foldl weD o).2=o.2
 | [],o=>rfl
 | x::xs,o=>by rw [List.foldl_cons,weDF xs];rfl
theorem wLD_iff {xs:List (List Int)}:(wList weD hi o xs).2=false↔o.2=false/\(xs.length:Int)<=hi:=by
 unfold wList
 split
 ·rw [wnum_iff]
  constructor<;>intro h<;>omega
 ·rw [weDF,wnum_iff]
  constructor
  ·intro h;exact ⟨h.1,h.2.2⟩
  ·intro h;exact ⟨h.1,by omega,h.2⟩
structure GoodA (x:Bc):Prop where
 from_:0<=x.from_/\x.from_<=59
 asn:0<=x.asn/\x.asn<=1000000000
 boot:0<=x.boot/\x.boot<=1000000000
 hops:0<=x.hops/\x.hops<=60
 bound:0<=x.bound/\x.bound<=2000
 fresh:0<=x.fresh/\x.fresh<=1000000000
 seq:0<=x.seq/\x.seq<=1000000000
 rank:0<=x.rank/\x.rank<=1000000
 parent: -1<=x.parent/\x.parent<=59
 first:0<=x.first/\x.first<=500002
 next:0<=x.next/\x.next<=500002
 uses:(x.uses.length:Int)<=24/\∀ r∈x.uses,rowOK [(0,some (0,59)),(1,some (0,15)),(2,some (0,59)),(3,some (0,1000000000))] r=true
 grants:(x.grants.length:Int)<=24/\∀ r∈x.grants,rowOK [(0,some (0,59)),(1,some (0,15)),(2,some (0,59)),(3,some (0,1000000000)),(4,some (0,1000000000))] r=true
 asks:(x.asks.length:Int)<=24/\∀ r∈x.asks,rowOK [(0,some (0,59)),(1,some (0,15)),(2,some (0,59))] r=true
 below:(x.below.length:Int)<=60/\∀ r∈x.below,rowOK [(0,some (0,59)),(2,some (0,1000000000)),(1,none),(3,none)] r=true
 words:(x.words.length:Int)<=4/\∀ r∈x.words,rowOK [(0,some (1,4)),(1,some (0,59)),(2,some (-1,59)),(3,some (0,10000000000000)),(4,some (0,10000000000000)),(5,some (0,2000000)),(6,some (0,500002)),(7,some (0,500002))] r=true
 mail:(x.mail.length:Int)<=1/\∀ r∈x.mail,rowOK [(0,some (1,4)),(1,some (0,59)),(2,some (-1,59)),(3,some (0,10000000000000)),(4,some (0,10000000000000)),(5,some (0,2000000)),(6,some (0,500002)),(7,some (0,500002))] r=true
 got:(x.got.length:Int)<=60/\∀ r∈x.got,rowOK [(0,some (0,59))] r=true
 nver:0<=x.nver/\x.nver<=1000000000
 size:0<=x.size/\x.size<=4096
 start:0<=x.start/\x.start<=1000000000
 pages:0<=x.pages/\x.pages<=16
 version:0<=x.version/\x.version<=1000000000
structure GoodB (x:Bc):Prop where
 page:0<=x.page/\x.page<=15
 seed:0<=x.seed/\x.seed<=1000000000
 data:(x.data.length:Int)=16
 proof:(x.proof.length:Int)<=5
theorem encA_iff:(encA x).2=false↔GoodA x:=by
 unfold encA
 rw [wflag_iff,wnum_iff,wnum_iff,wnum_iff,wdig_iff,wnum_iff,wnum_iff,wLI_iff,wLI_iff,wLI_iff,wflag_iff,wLI_iff,wLI_iff,wLI_iff,wLI_iff,wnum_iff,wnum_iff,wnum_iff,wnum_iff,wnum_iff,wnum_iff,wnum_iff,wnum_iff,wnum_iff,wnum_iff,wnum_iff]
 constructor
 ·rintro ⟨⟨⟨⟨⟨⟨⟨⟨⟨⟨⟨⟨⟨⟨⟨⟨⟨⟨⟨⟨⟨⟨⟨_,h_from_⟩,h_asn⟩,h_boot⟩,h_hops⟩,h_bound⟩,h_fresh⟩,h_seq⟩,h_rank⟩,h_parent⟩,h_first⟩,h_next⟩,h_uses⟩,h_grants⟩,h_asks⟩,h_below⟩,h_words⟩,h_mail⟩,h_got⟩,h_nver⟩,h_size⟩,h_start⟩,h_pages⟩,h_version⟩
  exact ⟨h_from_,h_asn,h_boot,h_hops,h_bound,h_fresh,h_seq,h_rank,h_parent,h_first,h_next,h_uses,h_grants,h_asks,h_below,h_words,h_mail,h_got,h_nver,h_size,h_start,h_pages,h_version⟩
 ·rintro ⟨h_from_,h_asn,h_boot,h_hops,h_bound,h_fresh,h_seq,h_rank,h_parent,h_first,h_next,h_uses,h_grants,h_asks,h_below,h_words,h_mail,h_got,h_nver,h_size,h_start,h_pages,h_version⟩
  exact ⟨⟨⟨⟨⟨⟨⟨⟨⟨⟨⟨⟨⟨⟨⟨⟨⟨⟨⟨⟨⟨⟨⟨rfl,h_from_⟩,h_asn⟩,h_boot⟩,h_hops⟩,h_bound⟩,h_fresh⟩,h_seq⟩,h_rank⟩,h_parent⟩,h_first⟩,h_next⟩,h_uses⟩,h_grants⟩,h_asks⟩,h_below⟩,h_words⟩,h_mail⟩,h_got⟩,h_nver⟩,h_size⟩,h_start⟩,h_pages⟩,h_version⟩
theorem enc_iff:(enc x).2=false↔GoodA x/\(if x.has=true then GoodB x else x.page=0/\x.seed=0/\x.data.length=0/\x.proof.length=0):=by
 unfold enc
 split
 ·rw [wLD_iff,wdat_iff,wnum_iff,wnum_iff,encA_iff]
  constructor
  ·rintro ⟨⟨⟨⟨h,h_page⟩,h_seed⟩,h_data⟩,h_proof⟩
   exact ⟨h,h_page,h_seed,h_data,h_proof⟩
  ·rintro ⟨h,h_page,h_seed,h_data,h_proof⟩
   exact ⟨⟨⟨⟨h,h_page⟩,h_seed⟩,h_data⟩,h_proof⟩
 ·rw [wuns_iff,wuns_iff,wuns_iff,encA_iff]
  constructor
  ·rintro ⟨⟨⟨h,h1⟩,h2⟩,h3⟩
   exact ⟨h,h1,h2,by omega,by omega⟩
  ·rintro ⟨h,h1,h2,h3,h4⟩
   exact ⟨⟨⟨h,h1⟩,h2⟩,by omega⟩
theorem len_num (hb: -10000000000000<=lo/\hi<=10000000000000):(wnum o v lo hi).1.length<=o.1.length+7:=by
 unfold wnum
 split
 ·simp
 ·rename_i q
  have k:okN v:=by unfold okN;omega
  have:=(dig_len8 (zig_b k).1 (zig_lt k)).1
  rw [List.length_append];omega
theorem len_I (x:List Int):∀ (its:List Item) {o:List Int×Bool},itsOK its=true->(its.foldl (wItem x) o).1.length<=o.1.length+(its.filter fun it=>it.2.isSome).length*7
 | [],o,_=>by simp
 | it::its,o,h=>by
  unfold itsOK at h
  rw [List.all_cons,Bool.and_eq_true] at h
  rw [List.foldl_cons]
  have ih:=len_I x its (o:=wItem x o it) h.2
  obtain ⟨j,r⟩:=it
  cases r with
  | none=>
   rw [List.filter_cons_of_neg (by simp)]
   exact ih
  | some r=>
   rw [List.filter_cons_of_pos rfl,List.length_cons]
   have :(wItem x o (j,some r)).1.length<=o.1.length+7:=len_num (by simpa using h.1)
   omega
theorem len_F {F:List Int×Bool->List Int->List Int×Bool} {k:Nat} (hF:∀ o x,(F o x).1.length<=o.1.length+k):∀ (xs:List (List Int)) {o:List Int×Bool},(xs.foldl F o).1.length<=o.1.length+xs.length*k
 | [],o=>by simp
 | x::xs,o=>by
  have h1:=len_F hF xs (o:=F o x)
  have h2:=hF o x
  rw [List.foldl_cons,List.length_cons,Nat.add_mul];omega
theorem len_L {m:Nat} (hF:∀ o x,(F o x).1.length<=o.1.length+k) {xs:List (List Int)} (hm:hi<=(m:Int)) (hb:(m:Int)<=10000000000000):(wList F hi o xs).1.length<=o.1.length+(7+m*k):=by
 unfold wList
 have h0:=len_num (o:=o) (v:=(xs.length:Int)) (lo:=0) (hi:=hi) ⟨by decide,by omega⟩
 split
 ·omega
 ·have h1:=len_F hF xs (o:=wnum o xs.length 0 hi)
  have :xs.length*k<=m*k:=Nat.mul_le_mul_right k (by omega)
  omega
theorem len_dig:(wdig o d).1.length<=o.1.length+8:=by unfold wdig;simp [digB]
theorem len_weD (o:List Int×Bool) (x:List Int):(weD o x).1.length<=o.1.length+8:=len_dig
theorem gen_num (hb: -10000000000000<=lo/\hi<=10000000000000) (h:o.1.length<=k):(wnum o v lo hi).1.length<=k+7:=Nat.le_trans (len_num hb) (by omega)
theorem gen_dig (h:o.1.length<=k):(wdig o d).1.length<=k+8:=Nat.le_trans len_dig (by omega)
theorem gen_L {m:Nat} (hF:∀ o x,(F o x).1.length<=o.1.length+j) {xs:List (List Int)} (hm:hi<=(m:Int)) (hb:(m:Int)<=10000000000000) (h:o.1.length<=k):(wList F hi o xs).1.length<=k+(7+m*j):=Nat.le_trans (len_L hF hm hb) (by omega)
theorem gen_dat (h:o.1.length<=k) (hz:zs.length=16):(wdat o zs m).1.length<=k+16:=by unfold wdat;rw [List.length_append];omega
theorem encA_len (x:Bc):(encA x).1.length<=3739:=(gen_num (by decide) (gen_num (by decide) (gen_num (by decide) (gen_num (by decide) (gen_dig (gen_num (by decide) (gen_num (by decide) (gen_L (j:=7) (m:=60) (fun o x=>len_I x [(0,some (0,59))] (by decide)) (by decide) (by decide) (gen_L (j:=56) (m:=1) (fun o x=>len_I x [(0,some (1,4)),(1,some (0,59)),(2,some (-1,59)),(3,some (0,10000000000000)),(4,some (0,10000000000000)),(5,some (0,2000000)),(6,some (0,500002)),(7,some (0,500002))] (by decide)) (by decide) (by decide) (gen_L (j:=56) (m:=4) (fun o x=>len_I x [(0,some (1,4)),(1,some (0,59)),(2,some (-1,59)),(3,some (0,10000000000000)),(4,some (0,10000000000000)),(5,some (0,2000000)),(6,some (0,500002)),(7,some (0,500002))] (by decide)) (by decide) (by decide) (gen_num (by decide) (gen_L (j:=14) (m:=60) (fun o x=>len_I x [(0,some (0,59)),(2,some (0,1000000000)),(1,none),(3,none)] (by decide)) (by decide) (by decide) (gen_L (j:=21) (m:=24) (fun o x=>len_I x [(0,some (0,59)),(1,some (0,15)),(2,some (0,59))] (by decide)) (by decide) (by decide) (gen_L (j:=35) (m:=24) (fun o x=>len_I x [(0,some (0,59)),(1,some (0,15)),(2,some (0,59)),(3,some (0,1000000000)),(4,some (0,1000000000))] (by decide)) (by decide) (by decide) (gen_L (j:=28) (m:=24) (fun o x=>len_I x [(0,some (0,59)),(1,some (0,15)),(2,some (0,59)),(3,some (0,1000000000))] (by decide)) (by decide) (by decide) (gen_num (by decide) (gen_num (by decide) (gen_num (by decide) (gen_num (by decide) (gen_num (by decide) (gen_num (by decide) (gen_num (by decide) (gen_num (by decide) (gen_num (by decide) (gen_num (by decide) (gen_num (by decide) (Nat.le_refl 0)))))))))))))))))))))))))))
theorem enc_len (h:(enc x).2=false):(enc x).1.length<=3816:=by
 have hg:=(enc_iff.1 h).2
 unfold enc
 split
 ·rename_i q
  rw [if_pos q] at hg
  have hz:x.data.length=16:=by have:=hg.data;omega
  exact (gen_L (j:=8) (m:=5) len_weD (by decide) (by decide) (gen_dat (gen_num (by decide) (gen_num (by decide) (encA_len x))) hz))
 ·exact Nat.le_trans (encA_len x) (by decide)
theorem ss78 {a b c:Int} (h:∀ v:Bool,(v=true↔inB a 0 59=true/\inB b 0 15=true/\inB c 0 59=true)->K (B v) E):Ent R1 8 Try.f78 [.agg [I a,I b],I c] E K:=by
 refine sm_ (?_:Mem.le E E/\Mem.le E E/\Mem.le E E/\bif inB a (0:Int) (59:Int) then bif bif true then inB b (0:Int) (15:Int) else false then Mem.le E E/\K (B (bif true then inB c (0:Int) (59:Int) else false)) E else Mem.le E E/\K (B false) E else Mem.le E E/\K (B false) E)
 refine ⟨mr_,mr_,mr_,condC (fun g1=>condC (fun g2=>?_) (fun g2=>?_)) (fun g1=>?_)⟩
 all_goals exact ⟨mr_,h _ (by (try simp [inB] at g1);(try simp [inB] at g2);simp [inB];omega)⟩
theorem ss53 {a b:Int} (h:∀ v:Bool,(v=true↔inB a 0 500002=true/\inB b 0 500002=true)->K (B v) E):Ent R1 8 Try.f53 [.agg [I a,I b]] E K:=by
 refine sm_ (?_:bif decide (a>=(0:Int)) then bif bif true then decide (a<=(500002:Int)) else false then bif bif true then decide (b>=(0:Int)) else false then Mem.le E E/\K (B (bif true then decide (b<=(500002:Int)) else false)) E else Mem.le E E/\K (B false) E else Mem.le E E/\K (B false) E else Mem.le E E/\K (B false) E)
 refine condC (fun g1=>condC (fun g2=>condC (fun g3=>?_) (fun g3=>?_)) (fun g2=>?_)) (fun g1=>?_)
 all_goals exact ⟨mr_,h _ (by simp [inB] at *;omega)⟩
theorem goodB_iff:GoodB x↔(0<=x.page/\x.page<=15)/\(0<=x.seed/\x.seed<=1000000000)/\((x.data.length:Int)=16)/\((x.proof.length:Int)<=5):=⟨fun ⟨h_page,h_seed,h_data,h_proof⟩=>⟨h_page,h_seed,h_data,h_proof⟩,fun ⟨h_page,h_seed,h_data,h_proof⟩=>⟨h_page,h_seed,h_data,h_proof⟩⟩
theorem ss56 (hM:BcM E x b11 n11 c11 b12 n12 c12 b13 n13 c13 b14 n14 c14 b16 n16 c16 b17 n17 c17 b18 n18 c18 b27 n27 c27 b28 n28 c28) (h:∀ v:Bool,(v=true↔(inB x.nver 0 1000000000=true/\inB x.size 0 4096=true/\inB x.start 0 1000000000=true/\inB x.pages 0 16=true/\inB x.version 0 1000000000=true)/\(if x.has=true then GoodB x else x.page=0/\x.seed=0/\x.data.length=0/\x.proof.length=0))->K (B v) E):Ent R1 8 Try.f56 [.agg [I x.from_,I x.asn,I x.boot,I x.hops,I x.bound,I x.fresh,I x.seq,I x.rank,I x.parent,I x.first,I x.next,L b11 n11 c11,L b12 n12 c12,L b13 n13 c13,L b14 n14 c14,B x.full,L b16 n16 c16,L b17 n17 c17,L b18 n18 c18,I x.nver,I x.size,.raw (.int .u64 x.dig),I x.start,I x.pages,I x.version,I x.page,I x.seed,L b27 n27 c27,L b28 n28 c28,B x.has]] E K:=by
 refine sm_ (?_:Mem.le E E/\Mem.le E E/\Mem.le E E/\Mem.le E E/\Mem.le E E/\bif !inB x.nver 0 1000000000 then Mem.le E E/\K (B false) E else bif bif false then true else !inB x.size 0 4096 then Mem.le E E/\K (B false) E else bif bif false then true else !inB x.start 0 1000000000 then Mem.le E E/\K (B false) E else bif bif false then true else !inB x.pages 0 16 then Mem.le E E/\K (B false) E else bif bif false then true else !inB x.version 0 1000000000 then Mem.le E E/\K (B false) E else bif !x.has then bif x.page==(0:Int) then bif bif true then x.seed==(0:Int) else false then bif bif true then (NI n27)==0 else false then Mem.le E E/\K (B (bif true then (NI n28)==0 else false)) E else Mem.le E E/\K (B false) E else Mem.le E E/\K (B false) E else Mem.le E E/\K (B false) E else Mem.le E E/\bif inB x.seed 0 1000000000 then bif bif true then decide (x.page>=(0:Int)) else false then bif bif true then decide (x.page<=(15:Int)) else false then bif bif true then (NI n27)==16 else false then Mem.le E E/\K (B (bif true then decide ((NI n28)<=5) else false)) E else Mem.le E E/\K (B false) E else Mem.le E E/\K (B false) E else Mem.le E E/\K (B false) E else Mem.le E E/\K (B false) E)
 delta NI
 have l27:=hM.h27.2.1
 have l28:=hM.h28.len
 have no:∀ {p:Prop},(p->False)->¬ p:=fun h=>h
 refine ⟨mr_,mr_,mr_,mr_,mr_,?_⟩
 refine condC (fun g=>⟨mr_,h false (by simp at g;simp [g])⟩) (fun g1=>condC (fun g=>⟨mr_,h false (by simp at g;simp [g])⟩) (fun g2=>condC (fun g=>⟨mr_,h false (by simp at g;simp [g])⟩) (fun g3=>condC (fun g=>⟨mr_,h false (by simp at g;simp [g])⟩) (fun g4=>condC (fun g=>⟨mr_,h false (by simp at g;simp [g])⟩) (fun g5=>?_)))))
 simp only [cond_false,Bool.not_eq_false'] at g1 g2 g3 g4 g5
 simp only [g1,g2,g3,g4,g5,true_and,and_true,and_self] at h
 refine condC (fun g6=>?_) (fun g6=>⟨mr_,?_⟩)
 ·have g6:¬ x.has=true:=by simpa using g6
  simp only [if_neg g6,l27,l28] at h
  refine condC (fun g1=>condC (fun g2=>condC (fun g3=>?_) (fun g3=>?_)) (fun g2=>?_)) (fun g1=>?_)
  all_goals exact ⟨mr_,h _ (by (try simp at g1);(try simp at g2);(try simp at g3);simp;omega)⟩
 ·have g6:x.has=true:=by simpa using g6
  simp only [if_pos g6,goodB_iff,l27,l28] at h
  refine condC (fun g1=>condC (fun g2=>condC (fun g3=>condC (fun g4=>?_) (fun g4=>?_)) (fun g3=>?_)) (fun g2=>?_)) (fun g1=>?_)
  all_goals exact ⟨mr_,h _ (by simp [inB] at *;omega)⟩
end Go.Proofs.Ytnjmojacdkjfoaa.BeaconOwn
