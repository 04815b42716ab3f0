/- Walks and plain laws. Conditions: none. -/
import Derived.Test.YtdaakdbkmjgloaaGreatDg18
import Derived.Test.YtdaakdbkmjgloaaGreatSyBB
namespace Go.Proofs.YtdaakdbkmjgloaaGreat.CustodyOwn
open Go Go.Sx
set_option maxRecDepth 100000
set_option maxHeartbeats 4000000
set_option linter.all false
variable {E:Mem} {K:SV->Mem->Prop}
variable {lo a h hi N k c m tot l i l2 c3 p:Nat} {w z ds zs ws x ns:List Int} {ls xs ys:List (List Int)} {g s n u a1 o a4 a5 a2 a3 me cnt:Int} {Q KK:KT} {b b1:Option Addr} {E0:Mem} {q:IntKind} {js:List Value} {bx:List Box}
theorem band8_eq (x y:Int):band8 x y=((BitVec.ofInt 8 x&&& BitVec.ofInt 8 y).toNat:Int):=by
 have h:=(BitVec.ofInt 8 x&&& BitVec.ofInt 8 y).isLt
 exact wu8 ⟨by omega,by show ((BitVec.ofInt 8 x&&& BitVec.ofInt 8 y).toNat:Int)<=255;omega⟩
theorem band8_255 {y:Int} (h:0<=y/\y<=255):band8 255 y=y:=by
 rw [band8_eq]
 obtain ⟨n,rfl⟩:∃ n:Nat,y=n:=⟨y.toNat,by omega⟩
 have :n<256:=by omega
 rw [show BitVec.ofInt 8 255=BitVec.allOnes 8 from by decide,BitVec.allOnes_and]
 simp;omega
theorem band8_bd (x y:Int):0<=band8 x y/\band8 x y<=255:=wu8b _
theorem getD_set (zs:List Int) (p:Nat) (x:Int) (j:Nat):(zs.set p x).getD j 0=if p=j/\j<zs.length then x else zs.getD j 0:=by
 rw [List.getD_eq_getElem?_getD,List.getD_eq_getElem?_getD,List.getElem?_set]
 by_cases h:p=j
 ·subst h
  by_cases h2:p<zs.length
  ·simp [h2]
  ·simp [h2]
 ·simp [h]
theorem stp_get (g:Nat->Int->Int) (a:Nat) (zs:List Int):∀ i j,(stp g a zs i).getD j 0=if a<=j/\j<a+i/\j<zs.length then g (j-a) (zs.getD j 0) else zs.getD j 0
 | 0,j=>by rw [if_neg (by omega)];rfl
 | i+1,j=>by
  show ((stp g a zs i).set (a+i) (g i ((stp g a zs i).getD (a+i) 0))).getD j 0=_
  rw [getD_set,stp_len,stp_get g a zs i j,stp_get g a zs i (a+i),if_neg (c:=a<=a+i/\a+i<a+i/\a+i<zs.length) (by omega)]
  by_cases h:a+i=j/\j<zs.length
  ·obtain ⟨rfl,h⟩:=h
   rw [if_pos ⟨rfl,h⟩,if_pos ⟨by omega,by omega,h⟩,show a+i-a=i by omega]
  ·rw [if_neg h]
   by_cases h2:a<=j/\j<a+i/\j<zs.length
   ·rw [if_pos h2,if_pos (by omega)]
   ·rw [if_neg h2,if_neg (by omega)]
theorem ext_getD {xs ys:List Int} (hl:xs.length=ys.length) (h:∀ j,j<xs.length->xs.getD j 0=ys.getD j 0):xs=ys:=by
 apply List.ext_getElem hl
 intro i h1 h2
 have:=h i h1
 simpa [List.getD_eq_getElem?_getD,h1,h2] using this
def encL (ls:List (List Int)):List Int:=ls.flatMap fun d=>90::bodyF d
theorem encL_len (ls:List (List Int)):(encL ls).length=needF ls:=by
 induction ls with
 | nil=>rfl
 | cons d ls ih=>rw [needF_cons];simp only [encL,List.flatMap_cons,List.length_append,List.length_cons,bodyF_len] at ih ⊢;omega
theorem encL_app (ls:List (List Int)) (d:List Int):encL (ls++[d])=encL ls++(90::bodyF d):=by simp [encL]
theorem needF_snoc (ls:List (List Int)) (d:List Int):needF (ls++[d])=needF ls+d.length+11:=by
 rw [← encL_len,encL_app,List.length_append,encL_len,List.length_cons,bodyF_len];omega
theorem numF_cons (x:Int) (zs:List Int):numF (x::zs)=x*256 ^ zs.length+numF zs:=by
 have key:∀ (zs:List Int) (n:Int),zs.foldl (fun n x=>256*n+x) n=n*256 ^ zs.length+zs.foldl (fun n x=>256*n+x) 0:=by
  intro zs
  induction zs with
  | nil=>intro n;simp
  | cons y zs ih=>
   intro n
   simp only [List.foldl_cons,List.length_cons]
   rw [ih (256*n+y),ih (256*0+y),Int.mul_zero,Int.zero_add,Int.add_mul,Int.pow_succ,Int.mul_comm 256 n,Int.mul_assoc n 256,Int.mul_comm 256 (256 ^ zs.length),Int.add_assoc]
 unfold numF
 simp only [List.foldl_cons]
 rw [key];simp
theorem numF_stor {n:Int} (hn:0<=n):∀ k,numF (storF n k)=n % 256 ^ k
 | 0=>by simp [storF,numF]
 | k+1=>by
  rw [storF,numF_cons,storF_len,numF_stor hn k,Int.pow_succ]
  have hp:(0:Int)<256 ^ k:=Int.pow_pos (by decide)
  generalize (256:Int) ^ k=m at *
  have e1:=Int.mul_ediv_add_emod n m
  have e2:=Int.mul_ediv_add_emod (n / m) 256
  have e3:n % (m*256)=n-m*256*(n / (m*256)):=by have:=Int.mul_ediv_add_emod n (m*256);omega
  have e4:n / (m*256)=n / m / 256:=by rw [Int.ediv_ediv_of_nonneg (Int.le_of_lt hp)]
  rw [e3,e4,Int.mul_assoc m 256]
  have e5:m*(256*(n / m / 256))=m*(n / m)-m*(n / m % 256):=by rw [show 256*(n / m / 256)=n / m-n / m % 256 by omega,Int.mul_sub]
  rw [e5,Int.mul_comm (n / m % 256) m]
  omega
theorem getA (X Y:List Int) (j:Nat):(X++Y).getD j 0=if j<X.length then X.getD j 0 else Y.getD (j-X.length) 0:=by
 rw [List.getD_eq_getElem?_getD]
 by_cases h:j<X.length
 ·rw [if_pos h,List.getElem?_append_left h,List.getD_eq_getElem?_getD]
 ·rw [if_neg h,List.getElem?_append_right (by omega),List.getD_eq_getElem?_getD]
theorem getTake (X:List Int) (n j:Nat) (h:j<n):(X.take n).getD j 0=X.getD j 0:=by
 rw [List.getD_eq_getElem?_getD,List.getElem?_take,if_pos h,List.getD_eq_getElem?_getD]
theorem getDrop (X:List Int) (n j:Nat):(X.drop n).getD j 0=X.getD (n+j) 0:=by
 rw [List.getD_eq_getElem?_getD,List.getElem?_drop,List.getD_eq_getElem?_getD]
theorem part_congr {n:Nat} (hl:z.length=w.length) (h:∀ j,lo<=j->j<lo+n->z.getD j 0=w.getD j 0):(z.drop lo).take n=(w.drop lo).take n:=by
 apply ext_getD (by simp [hl])
 intro j hj
 rw [List.length_take] at hj
 rw [getTake _ _ _ (by omega),getTake _ _ _ (by omega),getDrop,getDrop]
 exact h _ (by omega) (by omega)
theorem parse_mk:∀ {ls:List (List Int)} {t:List Int},(∀ d∈ls,d.length<65536)->(t=[]\/t.getD 0 0=255)->parseF (encL ls++t)=some (ls,needF ls)
 | [],t,_,ht=>by
  rw [parseF_step,if_pos (by simpa [encL] using ht)];rfl
 | d::ls,t,hs,ht=>by
  have hd:=hs d (by simp)
  have ih:=parse_mk (ls:=ls) (t:=t) (fun x hx=>hs x (List.mem_cons_of_mem _ hx)) ht
  have er:encL (d::ls)++t=90::(bodyF d++(encL ls++t)):=by simp [encL]
  rw [er,parseF_step]
  have h1:((90::(bodyF d++(encL ls++t)):List Int).drop 1)=bodyF d++(encL ls++t):=rfl
  have eb:bodyF d=storF (d.length:Int) 2++(d++storF (sumF (storF (d.length:Int) 2++d)) 8):=by unfold bodyF;rw [List.append_assoc]
  have h2:(numF ((bodyF d++(encL ls++t)).take 2)).toNat=d.length:=by
   rw [eb,List.append_assoc,List.take_left' (storF_len _ _),numF_stor (by omega)]
   omega
  have h3:((90::(bodyF d++(encL ls++t)):List Int).drop 3).take d.length=d:=by
   rw [show ((90::(bodyF d++(encL ls++t)):List Int).drop 3)=(bodyF d++(encL ls++t)).drop 2 from rfl,eb,List.append_assoc,List.drop_left' (storF_len _ _),List.append_assoc,List.take_left' rfl]
  have h4:(bodyF d++(encL ls++t)).take (d.length+10)=bodyF d:=List.take_left' (bodyF_len d)
  have h5:(90::(bodyF d++(encL ls++t)):List Int).drop (d.length+11)=encL ls++t:=by
   show (bodyF d++(encL ls++t)).drop (d.length+10)=_
   rw [List.drop_left' (bodyF_len d)]
  rw [if_neg (by simp),h1,h2,if_neg (by simp [bodyF_len];omega),if_neg (by simp [bodyF_len]),h3,h4,if_neg (by simp),h5,ih,needF_cons]
  rfl
theorem parseN_inv:∀ (f:Nat) (r:List Int) (ls:List (List Int)) (n:Nat),r.length<=f->(∀ z∈r,0<=z/\z<=255)->parseN f r=some (ls,n)->r.take n=encL ls/\n=needF ls/\n<=r.length/\(n=r.length\/r.getD n 0=255)/\∀ d∈ls,d.length<65536/\∀ z∈d,0<=z/\z<=255
 | 0,r,ls,n,hf,hb,h=>by
  simp [parseN] at h
  obtain ⟨rfl,rfl⟩:=h
  have :r=[]:=List.length_eq_zero_iff.1 (by omega)
  subst this
  exact ⟨rfl,rfl,Nat.le_refl _,.inl rfl,by simp⟩
 | f+1,r,ls,n,hf,hb,h=>by
  unfold parseN at h
  split at h
  ·rename_i q
   simp at h;obtain ⟨rfl,rfl⟩:=h
   exact ⟨rfl,rfl,Nat.zero_le _,q.imp (fun e=>by rw [e];rfl) id,by simp⟩
  split at h
  ·cases h
  rename_i q2
  split at h
  ·cases h
  rename_i q3
  split at h
  ·cases h
  rename_i q4
  have hlen:(numF ((r.drop 1).take 2)).toNat<65536:=(lenF_bd hb 0).1
  generalize hm:(numF ((r.drop 1).take 2)).toNat=m at *
  cases hp:parseN f (r.drop (m+11)) with
  | none=>rw [hp] at h;cases h
  | some x=>
   rw [hp] at h
   simp only [Option.map_some,Option.some.injEq,Prod.mk.injEq] at h
   obtain ⟨rfl,rfl⟩:=h
   obtain ⟨i1,i2,i3,i4,i5⟩:=parseN_inv f (r.drop (m+11)) x.1 x.2 (by rw [List.length_drop];omega) (fun z hz=>hb z (List.drop_subset _ _ hz)) hp
   rw [List.length_drop] at i3 i4
   simp only [not_or,Decidable.not_not] at q2 q4
   have h0:r=90::r.drop 1:=by
    cases r with
    | nil=>simp at q3
    | cons y r=>have:=q2.1;simp at this;subst this;rfl
   have ed:((r.drop 3).take m).length=m:=by rw [List.length_take,List.length_drop];omega
   refine ⟨?_,by rw [needF_cons,ed];omega,by omega,?_,?_⟩
   ·rw [show encL ((r.drop 3).take m::x.1)=90::(bodyF ((r.drop 3).take m)++encL x.1) by simp [encL],q4,← i1]
    conv=>lhs;rw [h0]
    rw [show m+11+x.2=(m+10+x.2)+1 by omega,List.take_succ_cons]
    congr 1
    rw [show r.drop (m+11)=(r.drop 1).drop (m+10) by rw [List.drop_drop];congr 1;omega,List.take_add]
   ·rw [getDrop] at i4
    exact i4.imp (fun e=>by omega) id
   ·intro d hd
    rcases List.mem_cons.1 hd with rfl|hd
    ·exact ⟨by omega,fun z hz=>hb z (List.drop_subset _ _ (List.take_subset _ _ hz))⟩
    ·exact i5 d hd
theorem parse_inv {r:List Int} {n:Nat} (hb:∀ z∈r,0<=z/\z<=255) (h:parseF r=some (ls,n)):r.take n=encL ls/\n=needF ls/\n<=r.length/\(n=r.length\/r.getD n 0=255)/\∀ d∈ls,d.length<65536/\∀ z∈d,0<=z/\z<=255:=parseN_inv _ _ _ _ (Nat.le_refl _) hb h
theorem used_mark (hu:usedF h z=((a:Int),g)):z.getD a 0=90/\g=genF z a:=by
 unfold usedF at hu
 by_cases q0:z.getD 0 0=90
 ·rw [if_pos q0] at hu
  simp only at hu
  split at hu
  ·rename_i q
   obtain ⟨e1,e2⟩:=Prod.mk.inj hu
   have :h=a:=by omega
   subst this
   exact ⟨q.1,e2.symm⟩
  ·obtain ⟨e1,e2⟩:=Prod.mk.inj hu
   have :a=0:=by omega
   subst this
   exact ⟨q0,e2.symm⟩
 ·rw [if_neg q0] at hu
  simp only at hu
  split at hu
  ·rename_i q
   obtain ⟨e1,e2⟩:=Prod.mk.inj hu
   have :h=a:=by omega
   subst this
   exact ⟨q.1,e2.symm⟩
  ·obtain ⟨e1,e2⟩:=Prod.mk.inj hu
   omega
theorem used_one {o:Nat} (ha:(a=0/\o=h)\/(a=h/\o=0)) (hb:∀ x∈z,0<=x/\x<=255) (h1:z.getD a 0=90) (h2:z.getD o 0≠90):usedF h z=((a:Int),genF z a):=by
 have g0:=genF_bd hb a
 unfold usedF
 rcases ha with ⟨rfl,rfl⟩|⟨rfl,rfl⟩
 ·rw [if_pos h1,if_neg (fun q=>h2 q.1)];rfl
 ·rw [if_neg h2,if_pos ⟨h1,by show genF z a> -1;omega⟩]
theorem used_new {o:Nat} (ha:(a=0/\o=h)\/(a=h/\o=0)) (h1:z.getD o 0=90) (h2:genF z o=genF z a+1) (hb:∀ x∈z,0<=x/\x<=255):usedF h z=((o:Int),genF z o):=by
 have g0:=genF_bd hb o
 unfold usedF
 rcases ha with ⟨rfl,rfl⟩|⟨rfl,rfl⟩
 ·by_cases q:z.getD 0 0=90
  ·rw [if_pos q,if_pos ⟨h1,by show genF z o>genF z 0;omega⟩]
  ·rw [if_neg q,if_pos ⟨h1,by show genF z o> -1;omega⟩]
 ·rw [if_pos h1,if_neg (fun q=>by have:=q.2;simp only at this;omega)];rfl
theorem used_congr (hl:z.length=w.length) (c:∀ j,j<5\/(h<=j/\j<h+5)->z.getD j 0=w.getD j 0):usedF h z=usedF h w:=by
 have e0:genF z 0=genF w 0:=by unfold genF;rw [part_congr hl (fun j h1 h2=>c j (.inl (by omega)))]
 have e1:genF z h=genF w h:=by unfold genF;rw [part_congr hl (fun j h1 h2=>c j (.inr (by omega)))]
 unfold usedF
 rw [e0,e1,c 0 (.inl (by omega)),c h (.inr (by omega))]
def AllM (s:Int) (N:Nat) (P R:List Int->Prop) (l:List (Int×List Int)):Prop:=
 l≠[]/\(∀ m∈l,m.1=s/\m.2.length=N/\(∀ x∈m.2,0<=x/\x<=255)/\R m.2)/\P (lastM l).2
def Out (w z:List Int) (lo hi:Nat):Prop:=w.length=z.length/\∀ j,j<lo\/hi<=j->w.getD j 0=z.getD j 0
theorem Out.trans {v:List Int} {lo1 hi1:Nat} (h:Out w v lo1 hi1) (g:Out v z lo hi) (h1:lo<=lo1) (h2:hi1<=hi):Out w z lo hi:=
 ⟨h.1.trans g.1,fun j hj=>(h.2 j (by omega)).trans (g.2 j hj)⟩
theorem Out.refl (z:List Int) (lo hi:Nat):Out z z lo hi:=⟨rfl,fun _ _=>rfl⟩
theorem Out.mono {lo1 hi1:Nat} (h:Out w z lo1 hi1) (h1:lo<=lo1) (h2:hi1<=hi):Out w z lo hi:=⟨h.1,fun j hj=>h.2 j (by omega)⟩
def Er (z:List Int) (lo hi:Nat):Prop:=∀ j,lo<=j->j<hi->z.getD j 0=255
def At (z:List Int) (a:Nat) (ds:List Int):Prop:=∀ j,j<ds.length->z.getD (a+j) 0=ds.getD j 0
def Keeps (lo hi:Nat) (P:List Int->Prop):Prop:=∀ z w:List Int,P z->Out w z lo hi->P w
theorem last_mem {l:List (Int×List Int)} (h:l≠[]):lastM l∈l:=by
 unfold lastM
 rw [List.getLastD_eq_getLast?,List.getLast?_eq_some_getLast h]
 exact List.getLast_mem h
theorem stp_out (g:Nat->Int->Int) (a:Nat) (z:List Int) (i:Nat):Out (stp g a z i) z a (a+i):=
 ⟨stp_len _ _ _ _,fun j hj=>by rw [stp_get,if_neg (by omega)]⟩
theorem chg_all {n:Nat} {g:Nat->Int->Int} {P R:List Int->Prop} {l:List (Int×List Int)} (hP:Keeps lo hi P) (hR:∀ z,P z->R z) (hg:∀ i x,0<=g i x/\g i x<=255)
  (h:AllM s N P R l) (h1:lo<=a) (h2:a+n<=hi) (hn:1<=n):AllM s N P R (chgF l (mems s g a (lastM l).2 (n+1))):=by
 obtain ⟨hl,ha,hp⟩:=h
 obtain ⟨z1,z2,z3,z4⟩:=ha _ (last_mem hl)
 have hst:∀ i,i<=n->P (stp g a (lastM l).2 i):=fun i hi'=>hP _ _ hp ((stp_out g a _ i).mono h1 (by omega))
 refine ⟨by simp [chgF,hl],fun m hm=>?_,?_⟩
 ·rcases List.mem_append.1 hm with h|h
  ·exact ha m h
  ·have h:=List.mem_of_mem_drop h
   simp only [mems,List.mem_map,List.mem_range] at h
   obtain ⟨i,hi',rfl⟩:=h
   exact ⟨rfl,by rw [stp_len];exact z2,stp_byte z3 hg i,hR _ (hst i (by omega))⟩
 ·rw [mems_last hn];exact hst n (Nat.le_refl _)
section
variable {s:Int} {N lo hi:Nat} {P R:List Int->Prop} (hv:validF s N) (hP:Keeps lo hi P) (hR:∀ z,P z->R z)
include hv hP hR
theorem progL_all {l:List (Int×List Int)} (h1:lo<=a) (h2:a+ds.length<=hi) (hN:a+ds.length<=N) (hn:1<=ds.length) (h:AllM s N P R l):AllM s N P R (progL l a ds):=by
 obtain ⟨z1,z2,z3,z4⟩:=h.2.1 _ (last_mem h.1)
 unfold progL
 rw [z1,progF_mk (by rw [z2];exact hv) (by omega) (by omega)]
 exact chg_all hP hR (fun i x=>band8_bd _ _) h (by simpa using h1) (by simpa using h2) hn
theorem writeL_all {l:List (Int×List Int)} (h1:lo<=a) (h2:a+ds.length+11<=hi) (hN:a+ds.length+11<=N) (h:AllM s N P R l):AllM s N P R (writeL l a ds):=
 progL_all hv hP hR h1 (by simp;omega) (by simp;omega) (by simp) (progL_all hv hP hR (by omega) (by rw [bodyF_len];omega) (by rw [bodyF_len];omega) (by rw [bodyF_len];omega) h)
theorem writesL_all:∀ {keep:List (List Int)} {k:Nat} {l:List (Int×List Int)},lo<=k->k+needF keep<=hi->k+needF keep<=N->AllM s N P R l->AllM s N P R (writesL k l keep).1
 | [],_,_,_,_,_,h=>h
 | d::keep,k,l,h1,h2,hN,h=>by
  rw [needF_cons] at h2 hN
  rw [writesL_cons]
  exact writesL_all (by omega) (by omega) (by omega) (writeL_all hv hP hR h1 (by omega) (by omega) h)
end
section
variable {st N lo hi:Nat} {P R:List Int->Prop} (hv:validF st N) (hP:Keeps lo hi P) (hR:∀ z,P z->R z)
include hv
theorem erasL_eq {l:List (Int×List Int)} (h:AllM st N P R l) (hN:(k+1)*st<=N):erasL l k=chgF l (mems st gE (k*st) (lastM l).2 (st+1)):=by
 obtain ⟨z1,z2,z3,z4⟩:=h.2.1 _ (last_mem h.1)
 have h1:1<=st:=by have:=hv.1;omega
 unfold erasL
 rw [z1,erasF_mk (by rw [z2];exact hv) (by omega) (by
   rw [Int.lt_iff_add_one_le,Int.le_ediv_iff_mul_le (by omega),z2]
   have :(((k+1)*st:Nat):Int)<=(N:Int):=by omega
   rw [Int.natCast_mul] at this
   simpa using this),← Int.natCast_mul,Int.toNat_natCast,Int.toNat_natCast]
include hP hR
theorem erasL_all {l:List (Int×List Int)} (h1:lo<=k*st) (h2:(k+1)*st<=hi) (hN:(k+1)*st<=N) (h:AllM st N P R l):AllM st N P R (erasL l k):=by
 rw [erasL_eq hv h hN]
 rw [Nat.add_mul] at h2
 exact chg_all hP hR (fun i x=>by simp [gE]) h h1 (by omega) (by have:=hv.1;omega)
theorem erases_all {p:Nat} {zs:List Int} (hl:zs.length=N) (hz:∀ x∈zs,0<=x/\x<=255) (hR0:R zs) (h0:∀ w,w.getD (p*st) 0=255->Out w zs (p*st) hi->P w) (h1:lo<=p*st+1):
  ∀ {n:Nat},(p+n+1)*st<=hi->(p+n+1)*st<=N->AllM st N P R (erasesL p (n+1) [((st:Int),zs)])
 | 0,h2,hN=>by
  have hs1:1<=st:=by have:=hv.1;omega
  have h:AllM st N R R [((st:Int),zs)]:=⟨by simp,fun m hm=>by
   rw [List.mem_singleton] at hm;subst hm;exact ⟨rfl,hl,hz,hR0⟩,hR0⟩
  show AllM st N P R (erasL [((st:Int),zs)] p)
  rw [erasL_eq hv h hN]
  show AllM st N P R (chgF [((st:Int),zs)] (mems st gE (p*st) zs (st+1)))
  have hw:∀ i,1<=i->i<=st->P (stp gE (p*st) zs i):=fun i hi1 hi2=>by
   rw [Nat.add_mul,Nat.add_zero] at h2 hN
   refine h0 _ ?_ ((stp_out gE _ _ i).mono (Nat.le_refl _) (by omega))
   rw [stp_get,if_pos (by omega)];rfl
  refine ⟨by simp [chgF],fun m hm=>?_,by rw [mems_last hs1];exact hw _ hs1 (Nat.le_refl _)⟩
  rcases List.mem_append.1 hm with q|q
  ·exact h.2.1 m q
  ·rw [List.mem_iff_getElem?] at q
   obtain ⟨i,q⟩:=q
   rw [List.getElem?_drop] at q
   have hi':1+i<st+1:=by
    have:=(List.getElem?_eq_some_iff.1 q).1
    rwa [mems_len] at this
   rw [mems_get hi'] at q
   cases q
   exact ⟨rfl,by rw [stp_len];exact hl,stp_byte hz (fun i x=>by simp [gE]) _,hR _ (hw _ (by omega) (by omega))⟩
 | n+1,h2,hN=>by
  have hs1:1<=st:=by have:=hv.1;omega
  have e:(p+(n+1)+1)*st=(p+n+1)*st+st:=by rw [show p+(n+1)+1=(p+n+1)+1 by omega,Nat.add_mul,Nat.one_mul]
  have ih:=erases_all hl hz hR0 h0 h1 (n:=n) (by omega) (by omega)
  have e2:(p+(n+1))*st=p*st+(n+1)*st:=Nat.add_mul _ _ _
  have e3:(n+1)*st=n*st+st:=by rw [Nat.add_mul,Nat.one_mul]
  exact erasL_all hv hP hR (k:=p+(n+1)) (by omega) h2 hN ih
end
theorem prog_last {l:List (Int×List Int)} (hv:validF s N) (hl:lastM l=(s,z)) (hN:z.length=N) (ha:a+ds.length<=N) (hd:1<=ds.length) (hds:∀ x∈ds,0<=x/\x<=255) (he:Er z a (a+ds.length)):
  ∃ w,lastM (progL l a ds)=(s,w)/\At w a ds/\Out w z a (a+ds.length):=by
 obtain ⟨e1,_⟩:=progL_ok (l:=l) (a:=a) (ds:=ds) (by rw [hl];simp only;rw [hN];exact hv) (by rw [hl];simp only;omega) hd
 rw [hl] at e1
 refine ⟨_,e1,fun j hj=>?_,stp_out _ _ _ _⟩
 show (stp (gP ds) a z ds.length).getD _ _=_
 rw [stp_get,if_pos (by omega),he _ (by omega) (by omega)]
 show band8 255 (ds.getD (a+j-a) 0)=_
 rw [show a+j-a=j by omega]
 refine band8_255 (hds _ ?_)
 rw [List.getD_eq_getElem?_getD,List.getElem?_eq_getElem hj]
 exact List.getElem_mem hj
theorem At.app {xs ys:List Int} (h:At z a xs) (g:At z (a+xs.length) ys):At z a (xs++ys):=fun j hj=>by
 rw [getA]
 by_cases q:j<xs.length
 ·rw [if_pos q];exact h j q
 ·rw [if_neg q]
  rw [List.length_append] at hj
  have:=g (j-xs.length) (by omega)
  rwa [show a+xs.length+(j-xs.length)=a+j by omega] at this
theorem At.out {xs:List Int} (h:At z a xs) (g:Out w z lo hi) (h1:a+xs.length<=lo\/hi<=a):At w a xs:=fun j hj=>(g.2 _ (by omega)).trans (h j hj)
theorem Er.out {b:Nat} (h:Er z a b) (g:Out w z lo hi) (h1:b<=lo\/hi<=a):Er w a b:=fun j q1 q2=>(g.2 _ (by omega)).trans (h j q1 q2)
theorem Er.sub {b d:Nat} (h:Er z a b) (h1:a<=c) (h2:d<=b):Er z c d:=fun j q1 q2=>h j (by omega) (by omega)
theorem write_last {l:List (Int×List Int)} (hv:validF s N) (hl:lastM l=(s,z)) (hN:z.length=N) (ha:a+ds.length+11<=N) (hds:∀ x∈ds,0<=x/\x<=255) (he:Er z a (a+ds.length+11)):
  ∃ w,lastM (writeL l a ds)=(s,w)/\At w a (90::bodyF ds)/\Out w z a (a+ds.length+11):=by
 have hb:=bodyF_len ds
 obtain ⟨v,h1,h2,h3⟩:=prog_last (a:=a+1) (ds:=bodyF ds) hv hl hN (by omega) (by omega) (bodyF_byte hds) (he.sub (by omega) (by omega))
 have h4:v.length=N:=h3.1.trans hN
 obtain ⟨w,g1,g2,g3⟩:=prog_last (a:=a) (ds:=[90]) hv h1 h4 (by simp;omega) (by simp) (by simp) ((he.sub (Nat.le_refl a) (show a+[90].length<=_ by simp;omega)).out h3 (.inl (by simp)))
 refine ⟨w,g1,At.app (xs:=[90]) g2 (h2.out g3 (.inr (by simp))),?_⟩
 exact (g3.mono (Nat.le_refl _) (by simp;omega)).trans (h3.mono (by omega) (by omega)) (Nat.le_refl a) (Nat.le_refl (a+ds.length+11))
theorem writes_last {s:Int} {N:Nat} (hv:validF s N):∀ {keep:List (List Int)} {k:Nat} {l:List (Int×List Int)} {z:List Int},lastM l=(s,z)->z.length=N->k+needF keep<=N->(∀ d∈keep,∀ x∈d,0<=x/\x<=255)->Er z k (k+needF keep)->
  ∃ w,lastM (writesL k l keep).1=(s,w)/\At w k (encL keep)/\Out w z k (k+needF keep)
 | [],k,l,z,hl,_,_,_,_=>⟨z,hl,fun j hj=>by simp [encL] at hj,Out.refl _ _ _⟩
 | d::keep,k,l,z,hl,hN,hk,hd,he=>by
  rw [needF_cons] at hk he ⊢
  obtain ⟨v,h1,h2,h3⟩:=write_last (a:=k) (ds:=d) hv hl hN (by omega) (hd d (by simp)) (he.sub (by omega) (by omega))
  obtain ⟨w,g1,g2,g3⟩:=writes_last (keep:=keep) (k:=k+d.length+11) (l:=writeL l k d) hv h1 (h3.1.trans hN) (by omega) (fun x hx=>hd x (List.mem_cons_of_mem _ hx)) ((he.sub (by omega) (by omega)).out h3 (.inr (Nat.le_refl _)))
  rw [writesL_cons]
  refine ⟨w,g1,?_,(g3.mono (show k<=_ by omega) (by omega)).trans (h3.mono (Nat.le_refl _) (by omega)) (Nat.le_refl _) (Nat.le_refl (k+(d.length+11+needF keep)))⟩
  have hb:(90::bodyF d).length=d.length+11:=by rw [List.length_cons,bodyF_len]
  exact At.app (xs:=90::bodyF d) (h2.out g3 (.inl (by omega))) (by rw [hb,← Nat.add_assoc];exact g2)
theorem erases_last {st N p:Nat} {z:List Int} (hv:validF st N) (hN:z.length=N):∀ {n:Nat},(p+n)*st<=N->∃ w,lastM (erasesL p n [((st:Int),z)])=((st:Int),w)/\Er w (p*st) ((p+n)*st)/\Out w z (p*st) ((p+n)*st)
 | 0,_=>⟨z,rfl,fun j h1 h2=>by rw [Nat.add_zero] at h2;omega,Out.refl _ _ _⟩
 | n+1,h=>by
  have e:(p+(n+1))*st=(p+n)*st+st:=by rw [← Nat.add_assoc,Nat.add_mul,Nat.one_mul]
  have e2:(p+n)*st=p*st+n*st:=Nat.add_mul _ _ _
  obtain ⟨v,h1,h2,h3⟩:=erases_last (p:=p) hv hN (n:=n) (by omega)
  have h4:=h3.1.trans hN
  obtain ⟨g1,_,_⟩:=erasL_ok (k:=p+n) h1 (by rw [h4];exact hv) (by rw [h4];exact h)
  have g3:=stp_out gE ((p+n)*st) v st
  rw [e]
  refine ⟨_,g1,fun j q1 q2=>?_,(g3.mono (by omega) (Nat.le_refl _)).trans (h3.mono (Nat.le_refl _) (by omega)) (Nat.le_refl _) (Nat.le_refl _)⟩
  by_cases q:j<(p+n)*st
  ·rw [g3.2 j (.inl q)];exact h2 j q1 q
  ·rw [stp_get,if_pos (by rw [h4];omega)];rfl
theorem rewL_eq (g:Int) (keep:List (List Int)) (hA:areaF s zs.length≠0) (ha:a=0\/a=areaF s zs.length):
  ∃ st p q:Nat,s=(st:Int)/\areaF s zs.length=(q+1)*st/\areaF s zs.length-a=p*st/\(p+q+1)*st=areaF s zs.length-a+areaF s zs.length/\1<=st/\
   rewL s zs (areaF s zs.length) a g keep=progL (progL (writesL (areaF s zs.length-a+5) (erasesL p (q+1) [((st:Int),zs)]) keep).1 (areaF s zs.length-a+1) (storF (g+1) 4)) (areaF s zs.length-a) [90]:=by
 obtain ⟨st,q,rfl,hq,hst1,hst2,hl⟩:=areaF_div hA
 have hq0:q≠0:=fun e=>by subst e;simp at hq;exact hA hq
 obtain ⟨q,rfl⟩:∃ k,q=k+1:=⟨q-1,by omega⟩
 obtain ⟨p,hp⟩:∃ p,areaF st zs.length-a=st*p:=by
  rcases ha with rfl|rfl
  ·exact ⟨q+1,by omega⟩
  ·exact ⟨0,by omega⟩
 refine ⟨st,p,q,rfl,by rw [hq,Nat.mul_comm],by rw [hp,Nat.mul_comm],?_,hst1,?_⟩
 ·rw [hp,hq,← Nat.mul_add,Nat.mul_comm,Nat.add_assoc]
 ·unfold rewL
  rw [hp,hq,Int.toNat_natCast,Nat.mul_div_cancel_left _ hst1,Nat.mul_div_cancel_left _ hst1]
theorem rew_all {o:Nat} {keep:List (List Int)} {P R:List Int->Prop} (hA:areaF s zs.length≠0) (hh:h=areaF s zs.length) (ha:(a=0/\o=h)\/(a=h/\o=0)) (hroom:5+needF keep<=h)
  (hz:∀ x∈zs,0<=x/\x<=255) (hk:∀ d∈keep,∀ x∈d,0<=x/\x<=255) (hR:∀ z,P z->R z) (hR0:R zs) (h0:∀ w,w.getD o 0=255->Out w zs o (o+h)->P w) (hP:Keeps (o+1) (o+h) P):
  ∃ X w,rewL s zs h a g keep=X++[(s,w)]/\AllM s zs.length P R X/\AllM s zs.length (fun _=>True) (fun _=>True) (X++[(s,w)])/\
   w.getD o 0=90/\At w (o+1) (storF (g+1) 4)/\At w (o+5) (encL keep)/\Er w (o+5+needF keep) (o+h)/\Out w zs o (o+h):=by
 obtain ⟨a1,hv,a3,a4,a5,a6⟩:=areaF_ok hA
 obtain ⟨st,p,q,rfl,hq,hp,hpq,hst1,er⟩:=rewL_eq (a:=a) g keep hA (by omega)
 rw [← hh] at hq hp hpq er a5
 have ho:h-a=o:=by omega
 rw [ho] at hp hpq er
 have c1:=erases_all hv hP hR (lo:=o+1) (hi:=o+h) (p:=p) (zs:=zs) rfl hz hR0 (by rw [← hp];exact h0) (by omega) (n:=q) (by omega) (by omega)
 have c2:=writesL_all hv hP hR (keep:=keep) (k:=o+5) (by omega) (by omega) (by omega) c1
 have c3:=progL_all hv hP hR (a:=o+1) (ds:=storF (g+1) 4) (by omega) (by rw [storF_len];omega) (by rw [storF_len];omega) (by rw [storF_len];omega) c2
 obtain ⟨w1,d1,d2,d3⟩:=erases_last (p:=p) (z:=zs) hv rfl (n:=q+1) (by rw [← Nat.add_assoc];omega)
 rw [← Nat.add_assoc,hpq,← hp] at d2 d3
 obtain ⟨w2,e1,e2,e3⟩:=writes_last hv d1 d3.1 (k:=o+5) (keep:=keep) (by omega) hk (d2.sub (by omega) (by omega))
 have l2:=e3.1.trans d3.1
 obtain ⟨w3,f1,f2,f3⟩:=prog_last (a:=o+1) (ds:=storF (g+1) 4) hv e1 l2 (by rw [storF_len];omega) (by rw [storF_len];omega) (storF_byte _ _) ((d2.sub (show o<=o+1 by omega) (by rw [storF_len];omega)).out e3 (.inl (by rw [storF_len];omega)))
 rw [storF_len] at f3
 have l3:=f3.1.trans l2
 have er3:Er w3 o (o+1):=((d2.sub (Nat.le_refl _) (by omega)).out e3 (.inl (by omega))).out f3 (.inl (by omega))
 obtain ⟨w,g1,g2,g3⟩:=prog_last (a:=o) (ds:=[90]) hv f1 l3 (by simp;omega) (by simp) (by simp) er3
 have g3:Out w w3 o (o+1):=g3
 generalize progL (writesL (o+5) (erasesL p (q+1) [((st:Int),zs)]) keep).1 (o+1) (storF (g+1) 4)=X at er c3 f1 g1
 have hX:progL X o [90]=X++[((st:Int),w)]:=by
  have e9:progL X o [90]=X++[((st:Int),stp (gP [90]) o w3 1)]:=by
   unfold progL
   rw [f1]
   simp only
   rw [progF_mk (by rw [l3];exact hv) (by omega) (by rw [l3];simp;omega),Int.toNat_natCast]
   rfl
  rw [e9] at g1 ⊢
  unfold lastM at g1
  rw [List.getLastD_concat] at g1
  rw [g1]
 have hT:AllM st zs.length (fun _=>True) (fun _=>True) X:=⟨c3.1,fun m hm=>by obtain ⟨x1,x2,x3,x4⟩:=c3.2.1 m hm;exact ⟨x1,x2,x3,trivial⟩,trivial⟩
 refine ⟨X,w,by rw [er,hX],c3,by rw [← hX];exact progL_all (lo:=0) (hi:=o+h) hv (fun _ _ _ _=>trivial) (fun _ _=>trivial) (by omega) (by simp;omega) (by simp;omega) (by simp) hT,?_,f2.out g3 (.inr (by omega)),(e2.out f3 (.inr (by omega))).out g3 (.inr (by omega)),?_,?_⟩
 ·exact g2 0 (by simp)
 ·exact (((d2.sub (show o<=o+5+needF keep by omega) (Nat.le_refl _)).out e3 (.inr (by omega))).out f3 (.inr (by omega))).out g3 (.inr (by omega))
 ·exact (g3.mono (Nat.le_refl _) (show o+1<=o+h by omega)).trans ((f3.mono (show o<=o+1 by omega) (show _<=o+h by omega)).trans ((e3.mono (show o<=o+5 by omega) (show _<=o+h by omega)).trans d3 (Nat.le_refl _) (Nat.le_refl _)) (Nat.le_refl _) (Nat.le_refl _)) (Nat.le_refl _) (Nat.le_refl _)
theorem recs_at (ha:a+h<=z.length) (hat:At z (a+5) (encL ls)) (hr:5+needF ls<=h):∃ t,recsB h a z=encL ls++t/\t.length+needF ls=h-5/\t.getD 0 0=if 5+needF ls<h then z.getD (a+5+needF ls) 0 else 0:=by
 have hn:=encL_len ls
 refine ⟨(recsB h a z).drop (needF ls),?_,?_,?_⟩
 ·conv=>lhs;rw [← List.take_append_drop (needF ls) (recsB h a z)]
  congr 1
  apply ext_getD (by rw [List.length_take];unfold recsB;rw [List.length_take,List.length_drop];omega)
  intro j hj
  rw [List.length_take] at hj
  rw [getTake _ _ _ (by omega),recs_get (by omega)]
  exact hat j (by omega)
 ·unfold recsB;rw [List.length_drop,List.length_take,List.length_drop];omega
 ·rw [getDrop]
  by_cases q:5+needF ls<h
  ·rw [if_pos q,recs_get (by omega)];rfl
  ·rw [if_neg q,List.getD_eq_getElem?_getD,List.getElem?_eq_none (by unfold recsB;rw [List.length_take,List.length_drop];omega)];rfl
structure Jo (s:Int) (z:List Int) (ls:List (List Int)) (a:Nat) (g:Int) (h:Nat):Prop where
 op:openF s z=((ls,a,g,5+needF ls),0)
 ar:areaF s z.length=h
 h0:h≠0
 us:usedF h z=((a:Int),g)
 hat:At z (a+5) (encL ls)
 rm:5+needF ls<=h
 en:5+needF ls=h\/z.getD (a+5+needF ls) 0=255
 sm:∀ d∈ls,d.length<65536/\∀ x∈d,0<=x/\x<=255
 bz:∀ x∈z,0<=x/\x<=255
 pl:a=0\/a=h
 sz:2*h=z.length
theorem Jo.mk' (ar:areaF s z.length=h) (h0:h≠0) (us:usedF h z=((a:Int),g)) (hat:At z (a+5) (encL ls)) (rm:5+needF ls<=h) (en:5+needF ls=h\/z.getD (a+5+needF ls) 0=255)
  (sm:∀ d∈ls,d.length<65536/\∀ x∈d,0<=x/\x<=255) (bz:∀ x∈z,0<=x/\x<=255) (pl:a=0\/a=h):Jo s z ls a g h:=by
 obtain ⟨_,_,_,_,sz,_⟩:=areaF_ok (by rw [ar];exact h0)
 rw [ar] at sz
 refine ⟨?_,ar,h0,us,hat,rm,en,sm,bz,pl,sz⟩
 obtain ⟨t,e1,e2,e3⟩:=recs_at (by omega) hat rm
 subst ar
 refine openF_ok h0 us ?_
 rw [e1]
 refine parse_mk (fun d hd=>(sm d hd).1) ?_
 by_cases q:5+needF ls=areaF s z.length
 ·left;exact List.length_eq_zero_iff.1 (by omega)
 ·right
  rw [e3,if_pos (by omega)]
  exact en.resolve_left q
theorem Jo.of (bz:∀ x∈z,0<=x/\x<=255) (h:(openF s z).2=0):∃ ls a g h,Jo s z ls a g h:=by
 obtain ⟨l,a,n,g,h1,h2,h3,h4⟩:=openF_inv h
 obtain ⟨_,_,_,_,sz,_⟩:=areaF_ok h1
 have hb:∀ x∈recsB (areaF s z.length) a z,0<=x/\x<=255:=fun x hx=>bz x (List.drop_subset _ _ (List.take_subset _ _ hx))
 obtain ⟨p1,p2,p3,p4,p5⟩:=parse_inv hb h3
 have pl:a=0\/a=areaF s z.length:=by
  have:=usedF_at (zs:=z) (h:=areaF s z.length)
  rw [h2] at this
  simp only at this
  omega
 have f:=open_facts h4
 have rl:(recsB (areaF s z.length) a z).length=areaF s z.length-5:=by unfold recsB;rw [List.length_take,List.length_drop];omega
 have rm:5+needF l<=areaF s z.length:=by omega
 refine ⟨l,a,g,areaF s z.length,Jo.mk' rfl h1 h2 (fun j hj=>?_) rm ?_ p5 bz pl⟩
 ·rw [← p1] at hj ⊢
  rw [List.length_take] at hj
  rw [getTake _ _ _ (by omega),recs_get (by omega)]
 ·rw [rl] at p4
  subst p2
  by_cases q:5+needF l=areaF s z.length
  ·exact .inl q
  ·right
   have p4:=p4.resolve_left (by omega)
   rwa [recs_get (by omega)] at p4
theorem Jo.mark (J:Jo s z ls a g h):z.getD a 0=90/\g=genF z a/\0<=g/\g<4294967296:=by
 have:=used_mark J.us
 have g0:=genF_bd J.bz a
 rw [← this.2] at g0
 exact ⟨this.1,this.2,g0⟩
theorem Jo.hb (J:Jo s z ls a g h):h<=8192/\z.length<=16384/\validF s z.length/\16<=h/\areaF s z.length≠0:=by
 have h1:areaF s z.length≠0:=by rw [J.ar];exact J.h0
 obtain ⟨_,h2,_,h3,h4,h5⟩:=areaF_ok h1
 have:=J.ar
 exact ⟨by omega,h5,h2,by omega,h1⟩
theorem Jo.keep {o:Nat} (J:Jo s z ls a g h) (ho:(a=0/\o=h)\/(a=h/\o=0)) (hl:w.length=z.length) (bw:∀ x∈w,0<=x/\x<=255) (hs:∀ j,a<=j->j<a+h->w.getD j 0=z.getD j 0) (hm:w.getD o 0≠90):Jo s w ls a g h:=by
 obtain ⟨m1,m2,m3⟩:=J.mark
 have hh:=J.hb
 have rm:=J.rm
 have eg:genF w a=genF z a:=by unfold genF;rw [part_congr hl (fun j h1 h2=>hs j (by omega) (by omega))]
 refine Jo.mk' (by rw [hl];exact J.ar) J.h0 ?_ (fun j hj=>?_) rm ?_ J.sm bw J.pl
 ·rw [m2,← eg]
  exact used_one ho bw (by rw [hs a (Nat.le_refl _) (by omega)];exact m1) hm
 ·rw [encL_len] at hj
  rw [hs _ (by omega) (by omega)]
  exact J.hat j (by rw [encL_len];exact hj)
 ·rcases J.en with q|q
  ·exact .inl q
  ·by_cases q2:5+needF ls=h
   ·exact .inl q2
   ·exact .inr (by rw [hs _ (by omega) (by omega)];exact q)
theorem Jo.pref (J:Jo s z ls a g h) (bw:∀ x∈w,0<=x/\x<=255) (ho:Out w z k (a+h)) (hk:a+5+needF ls<k):Jo s w ls a g h:=by
 have hh:=J.hb
 have rm:=J.rm
 refine Jo.mk' (by rw [ho.1];exact J.ar) J.h0 (by rw [used_congr ho.1 (fun j q=>ho.2 j (by have:=J.pl;omega))];exact J.us) (J.hat.out ho (.inl (by rw [encL_len];omega))) rm (J.en.imp_right fun q=>by rw [ho.2 _ (.inl (by omega))];exact q) J.sm bw J.pl
theorem Jo.more (J:Jo s z ls a g h) (bw:∀ x∈w,0<=x/\x<=255) (hd:ds.length<65536/\∀ x∈ds,0<=x/\x<=255) (hr:5+needF ls+ds.length+11<=h)
  (he:Er z (a+5+needF ls) (a+h)) (hat:At w (a+5+needF ls) (90::bodyF ds)) (ho:Out w z (a+5+needF ls) (a+5+needF ls+ds.length+11)):Jo s w (ls++[ds]) a g h/\Er w (a+5+needF (ls++[ds])) (a+h):=by
 have hn:=needF_snoc ls ds
 have hE:Er w (a+5+needF (ls++[ds])) (a+h):=(he.sub (by omega) (Nat.le_refl _)).out ho (.inr (by omega))
 have hh:=J.hb
 refine ⟨Jo.mk' (by rw [ho.1];exact J.ar) J.h0 (by rw [used_congr ho.1 (fun j q=>ho.2 j (by have:=J.pl;omega))];exact J.us) ?_ (by omega) ?_ (fun d h=>?_) bw J.pl,hE⟩
 ·rw [encL_app]
  exact At.app (J.hat.out ho (.inl (by rw [encL_len];omega))) (by rw [encL_len];exact hat)
 ·by_cases q:5+needF (ls++[ds])=h
  ·exact .inl q
  ·exact .inr (hE _ (Nat.le_refl _) (by omega))
 ·rcases List.mem_append.1 h with h|h
  ·exact J.sm d h
  ·rw [List.mem_singleton] at h;subst h;exact hd
theorem gen_at {o:Nat} (hw:o+5<=w.length) (h:At w (o+1) (storF n 4)) (h0:0<=n/\n<4294967296):genF w o=n:=by
 have e:(w.drop (o+1)).take 4=storF n 4:=by
  apply ext_getD (by rw [List.length_take,List.length_drop,storF_len];omega)
  intro j hj
  rw [List.length_take] at hj
  rw [getTake _ _ _ (by omega),getDrop]
  exact h j (by rw [storF_len];omega)
 unfold genF
 rw [e,numF_stor h0.1]
 exact Int.emod_eq_of_lt h0.1 h0.2
theorem clean_iff {e:Nat} (hl:a+h<=z.length) (he:e<=h):cleanF h a e z=true↔Er z (a+e) (a+h):=by
 unfold cleanF
 rw [List.all_eq_true]
 constructor
 ·intro q j h1 h2
  have hj:j-(a+e)<((z.drop (a+e)).take (h-e)).length:=by rw [List.length_take,List.length_drop];omega
  have:=q _ (List.getElem_mem hj)
  have e1:((z.drop (a+e)).take (h-e)).getD (j-(a+e)) 0=z.getD j 0:=by rw [getTake _ _ _ (by omega),getDrop];congr 1;omega
  rw [← e1,List.getD_eq_getElem?_getD,List.getElem?_eq_getElem hj]
  simpa using this
 ·intro q x hx
  obtain ⟨i,hi,rfl⟩:=List.getElem_of_mem hx
  have hi2:=hi
  rw [List.length_take,List.length_drop] at hi2
  have:=q (a+e+i) (by omega) (by omega)
  rw [← getDrop,← getTake _ (h-e) i (by omega),List.getD_eq_getElem?_getD,List.getElem?_eq_getElem hi] at this
  simpa using this
theorem Jo.other (J:Jo s z ls a g h):∃ o,(a=0/\o=h)\/(a=h/\o=0):=by
 rcases J.pl with e|e
 ·exact ⟨h,.inl ⟨e,rfl⟩⟩
 ·exact ⟨0,.inr ⟨e,rfl⟩⟩
theorem Jo.rew {keep:List (List Int)} {o:Nat} (J:Jo s z ls a g h) (ho:(a=0/\o=h)\/(a=h/\o=0)) (hr:5+needF keep<=h) (hk:∀ d∈keep,d.length<65536/\∀ x∈d,0<=x/\x<=255) (hg:g≠4294967295):
  ∃ X w,rewL s z h a g keep=X++[(s,w)]/\(∀ m∈X,m.1=s/\m.2.length=z.length/\Jo s m.2 ls a g h)/\X≠[]/\w.length=z.length/\Jo s w keep o (g+1) h/\Er w (o+5+needF keep) (o+h):=by
 obtain ⟨m1,m2,m3,m4⟩:=J.mark
 have hh:=J.hb
 have sz:=J.sz
 obtain ⟨X,w,x1,x2,x3,x4,x5,x6,x7,x8⟩:=rew_all (s:=s) (zs:=z) (a:=a) (o:=o) (h:=h) (g:=g) (keep:=keep) (P:=fun w=>w.getD o 0=255/\Out w z o (o+h)) (R:=fun w=>w=z\/(w.getD o 0=255/\Out w z o (o+h)))
  hh.2.2.2.2 J.ar.symm ho hr J.bz (fun d hd=>(hk d hd).2) (fun _ q=>.inr q) (.inl rfl) (fun w q1 q2=>⟨q1,q2⟩) (fun w v q1 q2=>⟨by rw [q2.2 _ (.inl (by omega))];exact q1.1,(q2.mono (show o<=o+1 by omega) (Nat.le_refl _)).trans q1.2 (Nat.le_refl _) (Nat.le_refl _)⟩)
 obtain ⟨y1,y2,y3,y4⟩:=x3.2.1 (s,w) (by simp)
 refine ⟨X,w,x1,fun m hm=>?_,x2.1,y2,?_,x7⟩
 ·obtain ⟨z1,z2,z3,z4⟩:=x2.2.1 m hm
  refine ⟨z1,z2,?_⟩
  rcases z4 with z4|⟨z4,z5⟩
  ·rw [z4];exact J
  ·exact J.keep ho z2 z3 (fun j h1 h2=>z5.2 j (by omega)) (by rw [z4];decide)
 ·have eg:=gen_at (w:=w) (o:=o) (by simp only at y2;omega) x5 (by omega)
  have ga:genF w a=g:=by
   rw [m2];unfold genF;rw [part_congr y2 (fun j h1 h2=>x8.2 j (by omega))]
  refine Jo.mk' (by simp only at y2;rw [y2];exact J.ar) J.h0 ?_ x6 hr ?_ hk y3 (by omega)
  ·rw [← eg]
   exact used_new ho x4 (by rw [eg,ga]) y3
  ·by_cases q:5+needF keep=h
   ·exact .inl q
   ·exact .inr (x7 _ (Nat.le_refl _) (by omega))
theorem Jo.write {Y:List (Int×List Int)} (J:Jo s z ls a g h) (he:Er z (a+5+needF ls) (a+h)) (hd:ds.length<65536/\∀ x∈ds,0<=x/\x<=255) (hr:5+needF ls+ds.length+11<=h):
  ∃ Z w,writeL (Y++[(s,z)]) (a+(5+needF ls)) ds=Y++(s,z)::Z++[(s,w)]/\Z.length=ds.length+10/\(∀ m∈Z,m.1=s/\m.2.length=z.length/\Jo s m.2 ls a g h)/\w.length=z.length/\Jo s w (ls++[ds]) a g h/\Er w (a+5+needF (ls++[ds])) (a+h):=by
 have hh:=J.hb
 have sz:=J.sz
 have pl:=J.pl
 have hb:=bodyF_len ds
 have hv:=hh.2.2.1
 rw [← Nat.add_assoc]
 have hl:lastM (Y++[(s,z)])=(s,z):=by unfold lastM;rw [List.getLastD_concat]
 obtain ⟨w,w1,w2,w3⟩:=write_last (a:=a+5+needF ls) (ds:=ds) hv hl rfl (by omega) hd.2 (he.sub (Nat.le_refl _) (by omega))
 have e1:progL (Y++[(s,z)]) (a+5+needF ls+1) (bodyF ds)=Y++(s,z)::(mems s (gP (bodyF ds)) (a+5+needF ls+1) z ((bodyF ds).length+1)).drop 1:=by
  unfold progL
  rw [hl]
  simp only
  rw [progF_mk hv (by omega) (by omega),Int.toNat_natCast]
  simp [chgF]
 have e2:writeL (Y++[(s,z)]) (a+5+needF ls) ds=progL (Y++[(s,z)]) (a+5+needF ls+1) (bodyF ds)++[(s,stp (gP [90]) (a+5+needF ls) (stp (gP (bodyF ds)) (a+5+needF ls+1) z (bodyF ds).length) 1)]:=by
  obtain ⟨pl,pn⟩:=progL_ok (l:=Y++[(s,z)]) (a:=a+5+needF ls+1) (ds:=bodyF ds) (by rw [hl];exact hv) (by rw [hl];simp only;omega) (by omega)
  rw [hl] at pl
  unfold writeL
  generalize progL (Y++[(s,z)]) (a+5+needF ls+1) (bodyF ds)=V at pl ⊢
  show chgF V (progF (lastM V).1 (lastM V).2 _ [90]).1=_
  rw [pl]
  simp only
  rw [progF_mk (by rw [stp_len];exact hv) (by omega) (by rw [stp_len];simp;omega),Int.toNat_natCast]
  rfl
 have bw:∀ x∈stp (gP [90]) (a+5+needF ls) (stp (gP (bodyF ds)) (a+5+needF ls+1) z (bodyF ds).length) 1,0<=x/\x<=255:=stp_byte (stp_byte J.bz (fun i x=>band8_bd _ _) _) (fun i x=>band8_bd _ _) _
 have ev:stp (gP [90]) (a+5+needF ls) (stp (gP (bodyF ds)) (a+5+needF ls+1) z (bodyF ds).length) 1=w:=by
  rw [e2] at w1
  unfold lastM at w1
  rw [List.getLastD_concat] at w1
  exact (Prod.mk.inj w1).2
 rw [ev] at bw e2
 obtain ⟨j1,j2⟩:=J.more bw hd hr he w2 w3
 refine ⟨_,w,by rw [e2,e1],by rw [List.length_drop,mems_len];omega,fun m hm=>?_,w3.1,j1,j2⟩
 have h:=List.mem_of_mem_drop hm
 simp only [mems,List.mem_map,List.mem_range] at h
 obtain ⟨i,hi',rfl⟩:=h
 have bs:∀ x∈stp (gP (bodyF ds)) (a+5+needF ls+1) z i,0<=x/\x<=255:=stp_byte J.bz (fun i x=>band8_bd _ _) i
 exact ⟨rfl,stp_len _ _ _ _,J.pref bs ((stp_out _ _ z i).mono (Nat.le_refl _) (by omega)) (by omega)⟩
theorem Jo.append (J:Jo s z ls a g h) (hd:ds.length<65536/\∀ x∈ds,0<=x/\x<=255):
  (appendF s z ds=([],10)/\(5+needF ls+ds.length+11>h\/¬ Er z (a+5+needF ls) (a+h)/\g=4294967295))\/
  (5+needF ls+ds.length+11<=h/\∃ X w a' g',appendF s z ds=(X++[(s,w)],0)/\X≠[]/\(∀ m∈X,m.1=s/\m.2.length=z.length/\∃ a' g',Jo s m.2 ls a' g' h)/\w.length=z.length/\Jo s w (ls++[ds]) a' g' h/\
   (Er z (a+5+needF ls) (a+h)->X.length=ds.length+11/\a'=a/\g'=g/\Er w (a+5+needF (ls++[ds])) (a+h))):=by
 have hh:=J.hb
 have sz:=J.sz
 have rm:=J.rm
 have ar:=J.ar
 obtain ⟨o,ho⟩:=J.other
 have hc:=clean_iff (h:=h) (a:=a) (e:=5+needF ls) (z:=z) (by omega) rm
 rw [← Nat.add_assoc] at hc
 rw [appendF_eq ds J.op,ar]
 by_cases q1:5+needF ls+ds.length+11>h
 ·left;rw [if_pos (.inl q1)];exact ⟨rfl,.inl q1⟩
 by_cases q2:Er z (a+5+needF ls) (a+h)
 ·right
  have hcl:=hc.2 q2
  rw [if_neg (by rw [hcl];simp;omega),if_pos hcl]
  obtain ⟨Z,w,e1,e2,e3,e4,e5,e6⟩:=J.write (Y:=[]) q2 hd (by omega)
  refine ⟨by omega,(s,z)::Z,w,a,g,by rw [List.nil_append] at e1;rw [e1];rfl,by simp,fun m hm=>?_,e4,e5,fun _=>⟨by simp [e2],rfl,rfl,e6⟩⟩
  rcases List.mem_cons.1 hm with rfl|hm
  ·exact ⟨rfl,rfl,a,g,J⟩
  ·obtain ⟨m1,m2,m3⟩:=e3 m hm
   exact ⟨m1,m2,a,g,m3⟩
 ·have hcl:cleanF h a (5+needF ls) z=false:=by
   cases q:cleanF h a (5+needF ls) z with
   | true=>exact absurd (hc.1 q) q2
   | false=>rfl
  by_cases q3:g=4294967295
  ·left;rw [if_pos (.inr ⟨hcl,q3⟩)];exact ⟨rfl,.inr ⟨q2,q3⟩⟩
  ·right
   rw [if_neg (by rw [hcl];simp;omega),if_neg (by rw [hcl];simp)]
   obtain ⟨X,v,x1,x2,x3,x4,x5,x6⟩:=J.rew (keep:=ls) ho rm J.sm q3
   obtain ⟨Z,w,e1,e2,e3,e4,e5,e6⟩:=x5.write (Y:=X) x6 hd (by omega)
   rw [x1,show h-a=o by omega,e1]
   refine ⟨by omega,X++(s,v)::Z,w,o,g+1,rfl,by simp,fun m hm=>?_,e4.trans x4,e5,fun q=>absurd q q2⟩
   rcases List.mem_append.1 hm with hm|hm
   ·obtain ⟨m1,m2,m3⟩:=x2 m hm
    exact ⟨m1,m2,a,g,m3⟩
   ·rcases List.mem_cons.1 hm with rfl|hm
    ·exact ⟨rfl,x4,o,g+1,x5⟩
    ·obtain ⟨m1,m2,m3⟩:=e3 m hm
     exact ⟨m1,m2.trans x4,o,g+1,m3⟩
theorem Jo.compact {keep:List (List Int)} (J:Jo s z ls a g h) (hk:∀ d∈keep,d.length<65536/\∀ x∈d,0<=x/\x<=255):
  (compactF s z keep=([],10)/\(5+needF keep>h\/g=4294967295))\/
  (5+needF keep<=h/\g≠4294967295/\∃ X w o,compactF s z keep=(X++[(s,w)],0)/\X≠[]/\(∀ m∈X,m.1=s/\m.2.length=z.length/\Jo s m.2 ls a g h)/\w.length=z.length/\Jo s w keep o (g+1) h/\Er w (o+5+needF keep) (o+h)):=by
 obtain ⟨o,ho⟩:=J.other
 rw [compactF_eq keep J.op,J.ar]
 by_cases q:5+needF keep>h\/g=4294967295
 ·left;rw [if_pos q];exact ⟨rfl,q⟩
 ·right
  rw [if_neg q]
  obtain ⟨X,w,x1,x2,x3,x4,x5,x6⟩:=J.rew ho (by omega) hk (fun e=>q (.inr e))
  exact ⟨by omega,fun e=>q (.inr e),X,w,o,by rw [x1],x3,x2,x4,x5,x6⟩
theorem no_jo (h:(openF s z).2≠0) (ds:List Int) (keep:List (List Int)):appendF s z ds=([],(openF s z).2)/\compactF s z keep=([],(openF s z).2):=by
 unfold appendF compactF
 rw [if_pos h,if_pos h];exact ⟨rfl,rfl⟩
theorem append_size (bz:∀ x∈z,0<=x/\x<=255) (hd:ds.length<65536/\∀ x∈ds,0<=x/\x<=255):∀ m∈(appendF s z ds).1,m.1=s/\m.2.length=z.length:=by
 by_cases h:(openF s z).2=0
 ·obtain ⟨ls,a,g,h,J⟩:=Jo.of bz h
  rcases J.append hd with ⟨e,_⟩|⟨_,X,w,a',g',e,_,h1,h2,_⟩
  ·rw [e];intro m hm;cases hm
  ·rw [e];intro m hm
   rcases List.mem_append.1 hm with hm|hm
   ·exact ⟨(h1 m hm).1,(h1 m hm).2.1⟩
   ·rw [List.mem_singleton] at hm;subst hm;exact ⟨rfl,h2⟩
 ·rw [(no_jo h ds []).1];intro m hm;cases hm
theorem compact_size {keep:List (List Int)} (bz:∀ x∈z,0<=x/\x<=255) (hk:∀ d∈keep,d.length<65536/\∀ x∈d,0<=x/\x<=255):∀ m∈(compactF s z keep).1,m.1=s/\m.2.length=z.length:=by
 by_cases h:(openF s z).2=0
 ·obtain ⟨ls,a,g,h,J⟩:=Jo.of bz h
  rcases J.compact hk with ⟨e,_⟩|⟨_,_,X,w,o,e,_,h1,h2,_⟩
  ·rw [e];intro m hm;cases hm
  ·rw [e];intro m hm
   rcases List.mem_append.1 hm with hm|hm
   ·exact ⟨(h1 m hm).1,(h1 m hm).2.1⟩
   ·rw [List.mem_singleton] at hm;subst hm;exact ⟨rfl,h2⟩
 ·rw [(no_jo h [] keep).2];intro m hm;cases hm
theorem append_num (s:Int) (z ds:List Int):(appendF s z ds).1.length<=40000:=by
 by_cases h:(openF s z).2=0
 ·obtain ⟨l,a,n,g,h1,h2,h3,h4⟩:=openF_inv h
  have f:=open_facts h4
  rw [appendF_eq ds h4]
  have hv:=f.2.2.2.2.2.2.2.2.2
  split
  ·simp
  ·split
   ·have:=(writeL_ok (l:=[(s,z)]) (a:=a+(5+n)) (ds:=ds) hv (by show a+(5+n)+ds.length+11<=z.length;omega)).2.2
    rw [this];simp only [List.length_singleton];omega
   ·obtain ⟨r1,r2,r3⟩:=rewL_ok (s:=s) (zs:=z) (a:=a) (g:=g) (keep:=l) f.1 f.2.2.1 (by omega)
    have:=(writeL_ok (l:=rewL s z (areaF s z.length) a g l) (a:=areaF s z.length-a+(5+n)) (ds:=ds) (by rw [r1,r2];exact hv) (by rw [r2];omega)).2.2
    rw [this,r3];omega
 ·rw [(no_jo h ds []).1];simp
theorem compact_num (s:Int) (z:List Int) (keep:List (List Int)):(compactF s z keep).1.length<=40000:=by
 by_cases h:(openF s z).2=0
 ·obtain ⟨l,a,n,g,h1,h2,h3,h4⟩:=openF_inv h
  have f:=open_facts h4
  rw [compactF_eq keep h4]
  split
  ·simp
  ·obtain ⟨r1,r2,r3⟩:=rewL_ok (s:=s) (zs:=z) (a:=a) (g:=g) (keep:=keep) f.1 f.2.2.1 (by omega)
   rw [r3];omega
 ·rw [(no_jo h [] keep).2];simp
theorem read_size (bz:∀ x∈z,0<=x/\x<=255):(openF s z).1.1.length<=8192/\∀ d∈(openF s z).1.1,d.length<65536/\∀ x∈d,0<=x/\x<=255:=by
 by_cases h:(openF s z).2=0
 ·obtain ⟨ls,a,g,h,J⟩:=Jo.of bz h
  have:=needF_ge ls
  have:=J.rm
  have:=J.hb
  rw [J.op]
  exact ⟨by simp only;omega,J.sm⟩
 ·unfold openF at h ⊢
  split
  ·simp
  ·split
   ·simp
   ·split
    ·simp
    ·rename_i q1 q2 _ _ _ q3;rw [if_neg q1,if_neg q2,q3] at h;exact absurd rfl h
theorem Jo_format {a:Int} (hf:formatF s n=((a,z),0)):a=s/\∃ h,Jo s z [] 0 0 h/\Er z 5 h:=by
 by_cases hb:(newF s n).2≠0\/areaF s (newF s n).1.2.length=0
 ·rw [formatF_bad hb] at hf
  exact absurd (Prod.mk.inj hf).2 (by decide)
 ·have hb1:(newF s n).2=0:=Decidable.byContradiction fun q=>hb (.inl q)
  have hb2:areaF s (newF s n).1.2.length≠0:=fun q=>hb (.inr q)
  obtain ⟨m,hm⟩:∃ m,newF s n=((s,List.replicate m 255),0):=by
   unfold newF at hb1 ⊢
   split
   ·rename_i q;rw [if_pos q] at hb1;exact absurd hb1 (by decide)
   ·exact ⟨_,rfl⟩
  rw [hm] at hb2
  simp only [List.length_replicate] at hb2
  rw [formatF_ok hm hb2] at hf
  obtain ⟨h1,_⟩:=Prod.mk.inj hf
  obtain ⟨rfl,h2⟩:=Prod.mk.inj h1
  refine ⟨rfl,areaF s m,?_⟩
  obtain ⟨a1,a2,a3,a4,a5,a6⟩:=areaF_ok hb2
  have hl:z.length=m:=by rw [← h2];simp;omega
  have g5:∀ j,5<=j->j<m->z.getD j 0=255:=fun j h3 h4=>by
   rw [← h2,getA,if_neg (by simp;omega),getDrop,List.getD_eq_getElem?_getD,List.getElem?_replicate,if_pos (by simp;omega)];rfl
  have bz:∀ x∈z,0<=x/\x<=255:=fun x hx=>by
   rw [← h2] at hx
   rcases List.mem_append.1 hx with h|h
   ·simp at h;omega
   ·have:=List.eq_of_mem_replicate (List.mem_of_mem_drop h);omega
  have gz:genF z 0=0:=by
   unfold genF
   rw [← h2];rfl
  refine ⟨Jo.mk' (by rw [hl]) hb2 ?_ (fun j hj=>by simp [encL] at hj) (by show 5+0<=_;omega) (.inr (g5 _ (by omega) (by show 0+5+0<m;omega))) (fun d hd=>by cases hd) bz (.inl rfl),fun j h3 h4=>g5 j h3 (by omega)⟩
  rw [← gz]
  exact used_one (.inl ⟨rfl,rfl⟩) bz (by rw [← h2];rfl) (by rw [g5 _ (by omega) (by omega)];decide)
theorem Jo.clean_append (J:Jo s z ls a g h) (he:Er z (a+5+needF ls) (a+h)) (hd:ds.length<65536/\∀ x∈ds,0<=x/\x<=255):
  (appendF s z ds=([],10)/\h<5+needF ls+ds.length+11)\/
  (5+needF ls+ds.length+11<=h/\∃ X w,appendF s z ds=(X++[(s,w)],0)/\X.length=ds.length+11/\w.length=z.length/\Jo s w (ls++[ds]) a g h/\Er w (a+5+needF (ls++[ds])) (a+h)):=by
 rcases J.append hd with ⟨e,h1⟩|⟨h1,X,w,a',g',e,_,_,h2,h3,h4⟩
 ·refine .inl ⟨e,?_⟩
  rcases h1 with h1|h1
  ·exact h1
  ·exact absurd he h1.1
 ·obtain ⟨h5,rfl,rfl,h6⟩:=h4 he
  exact .inr ⟨h1,X,w,e,h5,h2,h3,h6⟩
theorem Jo.read (J:Jo s z ls a g h):readF s z=(ls,0):=by unfold readF;rw [J.op]
def zig (n:Int):Int:=if n<0 then -2*n-1 else 2*n
def digF:Nat->Int->List Int
 | 0,u=>[u]
 | k+1,u=>if u<128 then [u] else (u % 128+128)::digF k (u / 128)
def dig (u:Int):List Int:=digF 9 u
abbrev deadB:Box:=⟨5,.lst [],0,false⟩
noncomputable def W0:Cx:={ P:=Tryz.prog,inl:=fun f=>List.contains [75,77,84] f,tab:=fun _ _ _ _=>False,isB:=fun _=>false,tabB:=fun _ _ _ _ _=>False,opt:={ unroll:=1,carry:=[0,1] },muts:=mutsD }
theorem okW0:CxOK W0:=CxOK.four (fun _ _ _ _ h=>h.elim) (by kernel_rfl) (okInl (by kernel_rfl)) (fun _ _ _ _ _ h=>h.elim)
theorem s31w (hn: -10000000000000<=n/\n<=10000000000000) (h:K (I (zig n)) E):Ent W0 6 Tryz.f78 [I n] E K:=by
 refine sm_ (?_:bif decide (n<(0:Int)) then Mem.le E E/\K (I (WI (WI ((-2:Int)*n)-(1:Int)))) E else Mem.le E E/\K (I (WI ((2:Int)*n))) E)
 delta WI
 unfold zig at h
 refine condC (fun h1=>?_) (fun h1=>?_)
 ·rw [if_pos (by simpa using h1)] at h
  rw [wrap_i64 (x:= -2*n) (by omega),wrap_i64 (by omega)]
  exact ⟨mr_,h⟩
 ·rw [if_neg (by simpa using h1)] at h
  rw [wrap_i64 (by omega)]
  exact ⟨mr_,h⟩
theorem digF_eq:∀ (k k':Nat) (u:Int),0<=u->u<128 ^ (k+1)->u<128 ^ (k'+1)->digF k u=digF k' u
 | 0,0,_,_,_,_=>rfl
 | 0,k+1,u,_,h,_=>by simp only [digF];rw [if_pos (by simpa using h)]
 | k+1,0,u,_,_,h=>by simp only [digF];rw [if_pos (by simpa using h)]
 | k+1,k'+1,u,h0,h1,h2=>by
  simp only [digF]
  by_cases h:u<128
  ·rw [if_pos h,if_pos h]
  ·rw [if_neg h,if_neg h,digF_eq k k' (u / 128) (by omega) (by rw [Int.pow_succ] at h1;omega) (by rw [Int.pow_succ] at h2;omega)]
theorem dig_last (h:u<128):dig u=[u]:=by unfold dig digF;rw [if_pos h]
theorem dig_step (h:¬ u<128) (h1:u<1152921504606846976):dig u=(u % 128+128)::dig (u / 128):=by
 unfold dig
 rw [show digF 9 u=(u % 128+128)::digF 8 (u / 128) from by unfold digF;rw [if_neg h];rfl]
 rw [digF_eq 8 9 (u / 128) (by omega) (by simp;omega) (by simp;omega)]
theorem digF_len:∀ (k:Nat) (u:Int),1<=(digF k u).length/\(digF k u).length<=k+1
 | 0,u=>by simp [digF]
 | k+1,u=>by
  have:=digF_len k (u / 128)
  simp only [digF]
  split
  ·simp
  ·simp;omega
theorem digF_byte:∀ (k:Nat) (u:Int),0<=u->u<128 ^ (k+1)->∀ z∈digF k u,0<=z/\z<=255
 | 0,u,h0,h1,z,hz=>by simp only [digF,List.mem_singleton] at hz;subst hz;simp at h1;omega
 | k+1,u,h0,h1,z,hz=>by
  simp only [digF] at hz
  split at hz
  ·simp only [List.mem_singleton] at hz;subst hz;omega
  ·rcases List.mem_cons.1 hz with rfl|hz
   ·omega
   ·exact digF_byte k (u / 128) (by omega) (by rw [Int.pow_succ] at h1;omega) z hz
theorem dig_byte (h0:0<=u) (h1:u<1152921504606846976):∀ z∈dig u,0<=z/\z<=255:=digF_byte 9 u h0 (by simp;omega)
theorem dig_len (u:Int):1<=(dig u).length/\(dig u).length<=10:=digF_len 9 u
theorem byteW (h0:0<=u):IntKind.wrap .u8 (IntKind.wrap .i64 (Int.tmod u 128+128))=u % 128+128:=by
 rw [Int.tmod_eq_emod_of_nonneg h0,wrap_i64 (by omega),wu8 (by omega)]
theorem fdivW:Int.fdiv u 128=u / 128:=Int.fdiv_eq_ediv_of_nonneg _ (by omega)
def sh29w (u:Int) (m cap tot:Nat) (l:List Int) (E:Mem):St:=⟨[os 1 0 m cap,oI u]++nn 19,[deadB,⟨5,.vals (vB l),tot,true⟩],E⟩
structure P29 (full l:List Int) (m cap tot:Nat) (u:Int):Prop where
 u0:0<=u
 u1:u<1152921504606846976
 len:l.length=m
 mc:m<=cap
 ct:cap<=tot
 full:l++dig u=full
theorem rnd29w {full l:List Int} {cap:Nat} (hP:P29 full l m cap tot u) (hf:full.length<=1000010)
  (hQ:∀ cap' tot':Nat,full.length<=cap'->cap'<=tot'->∀ x:SV,Q (.slc 3 0 full.length cap') [deadB,deadB,⟨5,.lst [x],1,true⟩,⟨5,.vals (vB full),tot',true⟩] E)
  (ih:∀ (l:List Int) (m cap tot:Nat) (u':Int),u'<u->P29 full l m cap tot u'->Lp W0 6 Tryz.f76 [1,0,0] 1 Q (sh29w u' m cap tot l E)):Rnd W0 6 Tryz.f76 [1,0,0] 1 Q (sh29w u m cap tot l E):=by
 obtain ⟨h0,h1,hlen,hmc,hct,hfull⟩:=hP
 refine sm_ (?_:bif decide (u>=(128:Int)) then ((128:Int)=(0:Int)->False)/\m*1<=List.length (Row.cells (Row.vals (vB l)))/\cap*1<=tot/\m<=cap/\req ((m+1)*1<=140737488355328) (∀ (cap' tot':Nat),m+1<=cap'->cap'*1<=tot'->Lp W0 6 Tryz.f76 [1,0,0] 1 Q { fr:=some (SV.slc 3 0 (m+1) cap')::oI (Int.fdiv u 128)::no16 (no2 (none::[])),bx:=[(⟨5,.lst [],0,false⟩:Box),⟨5,.lst [],0,false⟩,⟨5,.lst [SV.raw (U8 (IntKind.wrap IntKind.u8 (WI (Int.tmod u (128:Int)+(128:Int)))))],1,true⟩,⟨5,.vals (List.take (m*1) (vB l)++[U8 (IntKind.wrap IntKind.u8 (WI (Int.tmod u (128:Int)+(128:Int))))]),tot',true⟩],E:=E:St }) else m*1<=List.length (Row.cells (Row.vals (vB l)))/\cap*1<=tot/\m<=cap/\req ((m+1)*1<=140737488355328) (∀ (cap' tot':Nat),m+1<=cap'->cap'*1<=tot'->Q (SV.slc 3 0 (m+1) cap') [⟨5,.lst [],0,false⟩,⟨5,.lst [],0,false⟩,⟨5,.lst [SV.raw (U8 (IntKind.wrap IntKind.u8 u))],1,true⟩,⟨5,.vals (List.take (m*1) (vB l)++[U8 (IntKind.wrap IntKind.u8 u)]),tot',true⟩] E))
 delta WI U8 no2 no16
 have hl:(Row.cells (Row.vals (vB l))).length=m:=by simp [Row.cells,hlen]
 have hlf:l.length+(dig u).length=full.length:=by rw [← hfull];simp
 have hdl:=dig_len u
 have htk:List.take (m*1) (vB l)=vB l:=List.take_of_length_le (by simp [hlen])
 refine condC (fun hu=>?_) (fun hu=>?_)
 ·have hu:128<=u:=by simpa using hu
  refine ⟨by omega,by omega,by omega,hmc,req_intro (by omega) ?_⟩
  intro cap' tot' g1 g2
  have hst:=dig_step (show ¬ u<128 by omega) h1
  rw [byteW h0,fdivW,htk,← List.map_singleton (f:=Value.int .u8),← List.map_append]
  exact Lp_re [some 0,some 3] (ih (l++[u % 128+128]) (m+1) cap' tot' (u / 128) (by omega) ⟨by omega,by omega,by simp [hlen],g1,by omega,by rw [← hfull,hst];simp⟩) ⟨⟨by simp,by simp,fun j h=>(by have e:j=0:=(by omega);subst e;rfl)⟩,rfl,(by repeat' first|exact True.intro|refine And.intro (Or.inl rfl) ?_),(by repeat' first|exact True.intro|exact rfl|exact Or.inl rfl|exact Nat.succ_pos _|refine And.intro ?_ ?_),(List.pairwise_singleton _ _),mr_⟩
 ·have hu:u<128:=by simpa using hu
  have hst:=dig_last hu
  refine ⟨by omega,by omega,hmc,req_intro (by omega) ?_⟩
  intro cap' tot' g1 g2
  rw [hst] at hfull hlf
  have e:m+1=full.length:=by simp at hlf;omega
  rw [wu8 (by omega),htk,← List.map_singleton (f:=Value.int .u8),← List.map_append,hfull,e]
  exact hQ cap' tot' (by omega) (by omega) _
theorem b29w {l:List Int} {n cap:Nat} (hn:l.length=n) (hnc:n<=cap) (hct:cap<=tot) (hsz:n<=1000000) (h0:0<=u) (h1:u<1152921504606846976)
  (hQ:∀ s bx,(∃ cap' tot':Nat,n+(dig u).length<=cap'/\cap'<=tot'/\∃ τ,St.wk 1 τ ⟨[some s],bx,E⟩ ⟨[os 1 0 (n+(dig u).length) cap'],[deadB,⟨5,.vals (vB (l++dig u)),tot',true⟩],E⟩)->Q s bx E):
  EntB W0 6 Tryz.f76 [.slc 0 0 n cap,I u] [⟨5,.vals (vB l),tot,true⟩] E Q:=by
 refine sm_ (?_:bif decide (u>=(128:Int)) then ((128:Int)=(0:Int)->False)/\n*1<=List.length (Row.cells (Row.vals (vB l)))/\cap*1<=tot/\n<=cap/\req ((n+1)*1<=140737488355328) (∀ (cap' tot':Nat),n+1<=cap'->cap'*1<=tot'->Lp W0 6 Tryz.f76 [1,0,0] 1 Q { fr:=some (SV.slc 2 0 (n+1) cap')::oI (Int.fdiv u 128)::none::none::oL none 0 0::no16 [],bx:=[(⟨5,.lst [],0,false⟩:Box),⟨5,.lst [SV.raw (U8 (IntKind.wrap IntKind.u8 (WI (Int.tmod u (128:Int)+(128:Int)))))],1,true⟩,⟨5,.vals (List.take (n*1) (vB l)++[U8 (IntKind.wrap IntKind.u8 (WI (Int.tmod u (128:Int)+(128:Int))))]),tot',true⟩],E:=E:St }) else n*1<=List.length (Row.cells (Row.vals (vB l)))/\cap*1<=tot/\n<=cap/\req ((n+1)*1<=140737488355328) (∀ (cap' tot':Nat),n+1<=cap'->cap'*1<=tot'->Q (SV.slc 2 0 (n+1) cap') [⟨5,.lst [],0,false⟩,⟨5,.lst [SV.raw (U8 (IntKind.wrap IntKind.u8 u))],1,true⟩,⟨5,.vals (List.take (n*1) (vB l)++[U8 (IntKind.wrap IntKind.u8 u)]),tot',true⟩] E))
 delta WI U8 no16
 have hl:(Row.cells (Row.vals (vB l))).length=n:=by simp [Row.cells,hn]
 have hdl:=dig_len u
 have htk:List.take (n*1) (vB l)=vB l:=List.take_of_length_le (by simp [hn])
 refine condC (fun hu=>?_) (fun hu=>?_)
 ·have hu:128<=u:=by simpa using hu
  refine ⟨by omega,by omega,by omega,hnc,req_intro (by omega) ?_⟩
  intro cap' tot' g1 g2
  have hst:=dig_step (show ¬ u<128 by omega) h1
  rw [byteW h0,fdivW,htk,← List.map_singleton (f:=Value.int .u8),← List.map_append]
  have key:=Lp_ind okW0 (n:=6) (fn:=Tryz.f76) (p:=[1,0,0]) (n0:=1) (K:=Q) (fun x:{x:Int×Nat×Nat×Nat×List Int//P29 (l++dig u) x.2.2.2.2 x.2.1 x.2.2.1 x.2.2.2.1 x.1}=>sh29w x.1.1 x.1.2.1 x.1.2.2.1 x.1.2.2.2.1 x.1.2.2.2.2 E) (fun x=>x.1.1.toNat) (by
   rintro ⟨⟨u',m,c,t,l'⟩,hP⟩ ih
   refine rnd29w hP (by simp;omega) ?_ (fun l2 m2 c2 t2 u2 hlt hP2=>ih ⟨⟨u2,m2,c2,t2,l2⟩,hP2⟩ ?_)
   ·intro cap' tot' g1 g2 x
    refine hQ _ _ ⟨cap',tot',by simpa [hn] using g1,g2,[some 0,some 3],?_⟩
    rw [show (l++dig u).length=n+(dig u).length by simp [hn]]
    exact ⟨⟨by simp,by simp,fun j h=>(by have e:j=0:=(by omega);subst e;rfl)⟩,rfl,(by repeat' first|exact True.intro|refine And.intro (Or.inl rfl) ?_),(by repeat' first|exact True.intro|exact rfl|exact Or.inl rfl|exact Nat.succ_pos _|refine And.intro ?_ ?_),(List.pairwise_singleton _ _),mr_⟩
   ·have h0':0<=u2:=hP2.u0
    have hlt':u2<u':=hlt
    show u2.toNat<u'.toNat
    omega)
  exact Lp_re [some 0,some 2] (key ⟨⟨u / 128,n+1,cap',tot',l++[u % 128+128]⟩,⟨by show 0<=u / 128;omega,by show u / 128<_;omega,by simp [hn],g1,by show cap'<=tot';omega,by rw [hst];simp⟩⟩) ⟨⟨by simp,by simp,fun j h=>(by have e:j=0:=(by omega);subst e;rfl)⟩,rfl,(by repeat' first|exact True.intro|refine And.intro (Or.inl rfl) ?_),(by repeat' first|exact True.intro|exact rfl|exact Or.inl rfl|exact Nat.succ_pos _|refine And.intro ?_ ?_),(List.pairwise_singleton _ _),mr_⟩
 ·have hu:u<128:=by simpa using hu
  have hst:=dig_last hu
  refine ⟨by omega,by omega,hnc,req_intro (by omega) ?_⟩
  intro cap' tot' g1 g2
  rw [wu8 (by omega),htk,← List.map_singleton (f:=Value.int .u8),← List.map_append]
  rw [hst] at hQ
  exact hQ _ _ ⟨cap',tot',g1,by omega,[some 0,some 2],⟨⟨by simp,by simp,fun j h=>(by have e:j=0:=(by omega);subst e;rfl)⟩,rfl,(by repeat' first|exact True.intro|refine And.intro (Or.inl rfl) ?_),(by repeat' first|exact True.intro|exact rfl|exact Or.inl rfl|exact Nat.succ_pos _|refine And.intro ?_ ?_),(List.pairwise_singleton _ _),mr_⟩⟩
def sh29n (u:Int) (m cap tot:Nat) (l:List Int) (E:Mem):St:=⟨[os 0 0 m cap,oI u]++nn 19,[⟨5,.vals (vB l),tot,true⟩],E⟩
theorem rnd29n {full l:List Int} {cap:Nat} (hP:P29 full l m cap tot u) (hf:full.length<=1000010)
  (hQ:∀ cap' tot':Nat,full.length<=cap'->cap'<=tot'->∀ x:SV,Q (.slc 2 0 full.length cap') [deadB,⟨5,.lst [x],1,true⟩,⟨5,.vals (vB full),tot',true⟩] E)
  (ih:∀ (l:List Int) (m cap tot:Nat) (u':Int),u'<u->P29 full l m cap tot u'->Lp W0 6 Tryz.f76 [1,0,0] 0 Q (sh29n u' m cap tot l E)):Rnd W0 6 Tryz.f76 [1,0,0] 0 Q (sh29n u m cap tot l E):=by
 obtain ⟨h0,h1,hlen,hmc,hct,hfull⟩:=hP
 refine sm_ (?_:bif decide (u>=(128:Int)) then ((128:Int)=(0:Int)->False)/\m*1<=List.length (Row.cells (Row.vals (vB l)))/\cap*1<=tot/\m<=cap/\req ((m+1)*1<=140737488355328) (∀ (cap' tot':Nat),m+1<=cap'->cap'*1<=tot'->Lp W0 6 Tryz.f76 [1,0,0] 0 Q { fr:=some (SV.slc 2 0 (m+1) cap')::oI (Int.fdiv u 128)::no16 (no2 (none::[])),bx:=[(⟨5,.lst [],0,false⟩:Box),⟨5,.lst [SV.raw (U8 (IntKind.wrap IntKind.u8 (WI (Int.tmod u (128:Int)+(128:Int)))))],1,true⟩,⟨5,.vals (List.take (m*1) (vB l)++[U8 (IntKind.wrap IntKind.u8 (WI (Int.tmod u (128:Int)+(128:Int))))]),tot',true⟩],E:=E:St }) else m*1<=List.length (Row.cells (Row.vals (vB l)))/\cap*1<=tot/\m<=cap/\req ((m+1)*1<=140737488355328) (∀ (cap' tot':Nat),m+1<=cap'->cap'*1<=tot'->Q (SV.slc 2 0 (m+1) cap') [⟨5,.lst [],0,false⟩,⟨5,.lst [SV.raw (U8 (IntKind.wrap IntKind.u8 u))],1,true⟩,⟨5,.vals (List.take (m*1) (vB l)++[U8 (IntKind.wrap IntKind.u8 u)]),tot',true⟩] E))
 delta WI U8 no2 no16
 have hl:(Row.cells (Row.vals (vB l))).length=m:=by simp [Row.cells,hlen]
 have hlf:l.length+(dig u).length=full.length:=by rw [← hfull];simp
 have hdl:=dig_len u
 have htk:List.take (m*1) (vB l)=vB l:=List.take_of_length_le (by simp [hlen])
 refine condC (fun hu=>?_) (fun hu=>?_)
 ·have hu:128<=u:=by simpa using hu
  refine ⟨by omega,by omega,by omega,hmc,req_intro (by omega) ?_⟩
  intro cap' tot' g1 g2
  have hst:=dig_step (show ¬ u<128 by omega) h1
  rw [byteW h0,fdivW,htk,← List.map_singleton (f:=Value.int .u8),← List.map_append]
  exact Lp_re [some 2] (ih (l++[u % 128+128]) (m+1) cap' tot' (u / 128) (by omega) ⟨by omega,by omega,by simp [hlen],g1,by omega,by rw [← hfull,hst];simp⟩) ⟨⟨by simp,by simp,fun j h=>absurd h (Nat.not_lt_zero _)⟩,rfl,(by repeat' first|exact True.intro|refine And.intro (Or.inl rfl) ?_),(by repeat' first|exact True.intro|exact rfl|exact Or.inl rfl|exact Nat.succ_pos _|refine And.intro ?_ ?_),(List.pairwise_singleton _ _),mr_⟩
 ·have hu:u<128:=by simpa using hu
  have hst:=dig_last hu
  refine ⟨by omega,by omega,hmc,req_intro (by omega) ?_⟩
  intro cap' tot' g1 g2
  rw [hst] at hfull hlf
  have e:m+1=full.length:=by simp at hlf;omega
  rw [wu8 (by omega),htk,← List.map_singleton (f:=Value.int .u8),← List.map_append,hfull,e]
  exact hQ cap' tot' (by omega) (by omega) _
theorem b29n (h0:0<=u) (h1:u<1152921504606846976)
  (hQ:∀ s bx,(∃ cap' tot':Nat,(dig u).length<=cap'/\cap'<=tot'/\∃ τ,St.wk 0 τ ⟨[some s],bx,E⟩ ⟨[os 0 0 (dig u).length cap'],[⟨5,.vals (vB (dig u)),tot',true⟩],E⟩)->Q s bx E):
  EntB W0 6 Tryz.f76 [.raw (.slice none 0 0),I u] [] E Q:=by
 refine sm_ (?_:bif decide (u>=(128:Int)) then ((128:Int)=(0:Int)->False)/\∀ (cap' tot':Nat),1<=cap'->cap'*1<=tot'->Lp W0 6 Tryz.f76 [1,0,0] 0 Q { fr:=some (SV.slc 1 0 1 cap')::oI (Int.fdiv u 128)::none::none::oL none 0 0::no16 [],bx:=[(⟨5,.lst [SV.raw (U8 (IntKind.wrap IntKind.u8 (WI (Int.tmod u (128:Int)+(128:Int)))))],1,true⟩:Box),⟨5,.lst [SV.raw (U8 (IntKind.wrap IntKind.u8 (WI (Int.tmod u (128:Int)+(128:Int)))))],tot',true⟩],E:=E:St } else ∀ (cap' tot':Nat),1<=cap'->cap'*1<=tot'->Q (SV.slc 1 0 1 cap') [⟨5,.lst [SV.raw (U8 (IntKind.wrap IntKind.u8 u))],1,true⟩,⟨5,.lst [SV.raw (U8 (IntKind.wrap IntKind.u8 u))],tot',true⟩] E)
 delta WI U8 no16
 have hdl:=dig_len u
 refine condC (fun hu=>?_) (fun hu=>?_)
 ·have hu:128<=u:=by simpa using hu
  refine ⟨by omega,?_⟩
  intro cap' tot' g1 g2
  have hst:=dig_step (show ¬ u<128 by omega) h1
  rw [byteW h0,fdivW]
  have key:=Lp_ind okW0 (n:=6) (fn:=Tryz.f76) (p:=[1,0,0]) (n0:=0) (K:=Q) (fun x:{x:Int×Nat×Nat×Nat×List Int//P29 (dig u) x.2.2.2.2 x.2.1 x.2.2.1 x.2.2.2.1 x.1}=>sh29n x.1.1 x.1.2.1 x.1.2.2.1 x.1.2.2.2.1 x.1.2.2.2.2 E) (fun x=>x.1.1.toNat) (by
   rintro ⟨⟨u',m,c,t,l'⟩,hP⟩ ih
   refine rnd29n hP (by omega) ?_ (fun l2 m2 c2 t2 u2 hlt hP2=>ih ⟨⟨u2,m2,c2,t2,l2⟩,hP2⟩ ?_)
   ·intro cap' tot' g1 g2 x
    exact hQ _ _ ⟨cap',tot',g1,g2,[some 2],⟨⟨by simp,by simp,fun j h=>absurd h (Nat.not_lt_zero _)⟩,rfl,(by repeat' first|exact True.intro|refine And.intro (Or.inl rfl) ?_),(by repeat' first|exact True.intro|exact rfl|exact Or.inl rfl|exact Nat.succ_pos _|refine And.intro ?_ ?_),(List.pairwise_singleton _ _),mr_⟩⟩
   ·have h0':0<=u2:=hP2.u0
    have hlt':u2<u':=hlt
    show u2.toNat<u'.toNat
    omega)
  exact Lp_re [some 1] (key ⟨⟨u / 128,1,cap',tot',[u % 128+128]⟩,⟨by show 0<=u / 128;omega,by show u / 128<_;omega,rfl,g1,by show cap'<=tot';omega,by rw [hst];rfl⟩⟩) ⟨⟨by simp,by simp,fun j h=>absurd h (Nat.not_lt_zero _)⟩,rfl,(by repeat' first|exact True.intro|refine And.intro (Or.inl rfl) ?_),(by repeat' first|exact True.intro|exact rfl|exact Or.inl rfl|exact Nat.succ_pos _|refine And.intro ?_ ?_),(List.pairwise_singleton _ _),mr_⟩
 ·have hu:u<128:=by simpa using hu
  have hst:=dig_last hu
  intro cap' tot' g1 g2
  rw [wu8 (by omega)]
  rw [hst] at hQ
  exact hQ _ _ ⟨cap',tot',g1,by omega,[some 1],⟨⟨by simp,by simp,fun j h=>absurd h (Nat.not_lt_zero _)⟩,rfl,(by repeat' first|exact True.intro|refine And.intro (Or.inl rfl) ?_),(by repeat' first|exact True.intro|exact rfl|exact Or.inl rfl|exact Nat.succ_pos _|refine And.intro ?_ ?_),(List.pairwise_singleton _ _),mr_⟩⟩
noncomputable def tab1:FuncId->List SV->Mem->(SV->Mem->Prop)->Prop:=fun f args E K=>match f with
 | 78=>d1 args fun x0=>dI x0 fun a1=>(-10000000000000<=a1/\a1<=10000000000000)/\(K (I (zig a1)) E)
 | _=>False
theorem tab1_ok:TabOK Tryz.prog tab1:=by
 intro f args E K h
 unfold tab1 at h
 split at h
 ·replace h:=d1_elim h
  obtain ⟨x0,rfl,h⟩:=h
  replace h:=dI_elim h
  obtain ⟨a1,rfl,h⟩:=h
  obtain ⟨g0,h⟩:=h
  exact TabSem.congr (valL_cons rfl rfl) (Ent.sem okW0 Tryz.func78 ⟨by kernel_rfl,by kernel_rfl⟩ rfl (s31w g0 h))
 ·exact h.elim
noncomputable def tabB1:CallT:=fun f args bx E K=>match f with
 | 76=>d2 args fun x0 x1=>dI x1 fun u=>(0<=u/\u<1152921504606846976)/\(match x0 with
  | .raw (.slice none 0 0)=>∀ cap' tot':Nat,(dig u).length<=cap'->cap'<=tot'->K (.slc bx.length 0 (dig u).length cap') (bx++[⟨5,.vals (vB (dig u)),tot',true⟩]) E
  | .slc b 0 n cap=>match bx[b]? with
   | some ⟨e,.vals vs,tot,true⟩=>∃ l:List Int,(e=5/\vs=vB l/\l.length=n/\n<=cap/\cap<=tot/\n<=1000000)/\
     ∀ cap' tot':Nat,n+(dig u).length<=cap'->cap'<=tot'->K (.slc bx.length 0 (n+(dig u).length) cap') (bx.set b deadB++[⟨5,.vals (vB (l++dig u)),tot',true⟩]) E
   | _=>False
  | _=>False)
 | _=>False
theorem tabB1_ok:∀ f args bx E K,tabB1 f args bx E K->CallSem Tryz.prog f args bx E K:=by
 intro f args bx E K h
 unfold tabB1 at h
 split at h
 case h_2=>exact h.elim
 obtain ⟨x0,x1,rfl,h⟩:=d2_elim h
 obtain ⟨u,rfl,h⟩:=dI_elim h
 obtain ⟨⟨h0,h1⟩,h⟩:=h
 split at h
 ·refine CallSem.own0 (argv:=[.slice none 0 0,.int .i64 u]) rfl (EntB.sem okW0 Tryz.func76 ⟨by kernel_rfl,by kernel_rfl⟩ (b29n h0 h1 ?_))
  rintro s bx' ⟨cap',tot',g1,g2,τ,hw⟩
  exact cloK_intro τ ⟨_,cap',5,_,tot',rfl,rfl,h cap' tot' g1 g2⟩ hw
 ·rename_i b n cap
  split at h
  case h_2=>exact h.elim
  rename_i e vs tot hb
  obtain ⟨l,⟨rfl,rfl,hl,hnc,hct,hsz⟩,h⟩:=h
  refine CallSem.own1 (rest:=[I u]) (restv:=[.int .i64 u]) hb rfl (EntB.sem okW0 Tryz.func76 ⟨by kernel_rfl,by kernel_rfl⟩ (b29w hl hnc hct hsz h0 h1 ?_))
  rintro s bx' ⟨cap',tot',g1,g2,τ,hw⟩
  exact cloK_intro τ ⟨_,cap',_,tot',rfl,rfl,h cap' tot' g1 g2⟩ hw
 ·exact h.elim
noncomputable def W1:Cx:={ P:=Tryz.prog,inl:=fun f=>List.contains [75,77] f,tab:=tab1,isB:=fun f=>f==76,tabB:=tabB1,opt:={ unroll:=0,carry:=[] },muts:=mutsD }
theorem okW1:CxOK W1:=CxOK.four tab1_ok (by kernel_rfl) (okInl (by kernel_rfl)) tabB1_ok
def okN (n:Int):Prop:= -10000000000000<=n/\n<=10000000000000
instance (n:Int):Decidable (okN n):=inferInstanceAs (Decidable (_/\_))
def putN (zs:List Int) (n:Int):List Int×Int:=if okN n then (zs++dig (zig n),0) else ([],3)
theorem zig_b (h:okN n):0<=zig n/\zig n<1152921504606846976:=by
 unfold okN at h
 unfold zig
 split<;>omega
theorem s12 (hB:Bs E b l c zs) (hl:l<=100000)
  (h:∀ (b':Option Addr) (l' c':Nat) (ys:List Int) (e:Int) (E':Mem),Mem.le E E'->Hyp (putN zs n=(ys,e))->Bs E' b' l' c' ys->K (.tup [L b' l' c',I e]) E'):Ent W1 6 Tryz.f53 [L b l c,I n] E K:=by
 refine sm_ (?_:bif decide (n>=(-10000000000000:Int)) then Mem.le E E/\bif !bif true then decide (n<=(10000000000000:Int)) else false then Mem.le E E/\K (SV.tup [L none 0 0,I (3:Int)]) E else bif Option.isNone b then Mem.le E E/\((-10000000000000:Int)<=n/\n<=(10000000000000:Int))/\Mem.le E E/\((0:Int)<=zig n/\zig n<(1152921504606846976:Int))/\∀ (cap' tot':Nat),List.length (dig (zig n))<=cap'->cap'<=tot'->Mem.le E E/\∀ (base:Option Addr) (E':Mem),Mem.le E E'->WinE E' base (vB (dig (zig n)))->Mem.le E E'/\K (SV.tup [L (Option.map (fun (x:Addr)=>Addr.add x 0) base) (List.length (dig (zig n))) cap',I (0:Int)]) E' else ∃ (cs:List Value),(cs=[]\/E (Value.slice b l c) cs)/\l*1<=List.length cs/\(∀ (x:Value),List.Mem x cs->Value.oneCell' x=true)/\0<=0/\0<=0/\0<=0/\req ((0+l)*1<=140737488355328) (∀ (cap' tot':Nat),0+l<=cap'->cap'*1<=tot'->Mem.le E E/\((-10000000000000:Int)<=n/\n<=(10000000000000:Int))/\Mem.le E E/\((0:Int)<=zig n/\zig n<(1152921504606846976:Int))/\∃ (l_1:List Int),(5=5/\[]++List.take (l*1) cs=vB l_1/\List.length l_1=0+l/\0+l<=cap'/\cap'<=tot'/\0+l<=1000000)/\∀ (cap' tot':Nat),0+l+List.length (dig (zig n))<=cap'->cap'<=tot'->∀ (base:Option Addr) (E':Mem),Mem.le E E'->WinE E' base (vB (l_1++dig (zig n)))->Mem.le E E'/\K (SV.tup [L (Option.map (fun (x:Addr)=>Addr.add x 0) base) (0+l+List.length (dig (zig n))) cap',I (0:Int)]) E') else Mem.le E E/\Mem.le E E/\K (SV.tup [L none 0 0,I (3:Int)]) E)
 have hbad:¬ okN n->K (.tup [L none 0 0,I 3]) E:=fun hn=>h none 0 0 [] 3 E mr_ (by show putN zs n=_;unfold putN;rw [if_neg hn]) (Bs.nil E)
 refine condC (fun h1=>?_) (fun h1=>?_)
 ·refine ⟨mr_,?_⟩
  refine condC (fun h2=>?_) (fun h2=>?_)
  ·exact ⟨mr_,hbad (fun hx=>by simp at h2;unfold okN at hx;omega)⟩
  ·have hok:okN n:=by simp at h1 h2;exact ⟨h1,h2⟩
   have hz:=zig_b hok
   have hp:putN zs n=(zs++dig (zig n),0):=by unfold putN;rw [if_pos hok]
   refine condC (fun hb=>?_) (fun hb=>?_)
   ·have hnil:zs=[]:=hB.2.2.2.2 (by simpa using hb)
    subst hnil
    refine ⟨mr_,hok,mr_,hz,fun cap' tot' g1 g2=>⟨mr_,fun base E' hE hW=>⟨hE,?_⟩⟩⟩
    exact h _ _ _ (dig (zig n)) 0 E' hE hp (Bs.win hW rfl rfl g1 (dig_byte hz.1 hz.2))
   ·obtain ⟨s1,s2,s3⟩:=hB.src
    have hlen:=hB.2.1
    refine ⟨_,s1,s2,s3,Nat.le_refl _,Nat.le_refl _,Nat.le_refl _,req_intro (by omega) ?_⟩
    intro cap' tot' g1 g2
    refine ⟨mr_,hok,mr_,hz,zs,⟨rfl,?_,by omega,g1,by omega,by omega⟩,?_⟩
    ·rw [List.nil_append,List.take_of_length_le (by simp [hlen])]
    ·intro cap'' tot'' g3 g4 base E' hE hW
     refine ⟨hE,h _ _ _ (zs++dig (zig n)) 0 E' hE hp (Bs.win hW rfl (by simp [hlen]) g3 ?_)⟩
     intro z hz'
     rcases List.mem_append.1 hz' with q|q
     ·exact hB.2.2.2.1 z q
     ·exact dig_byte hz.1 hz.2 z q
 ·exact ⟨mr_,mr_,hbad (fun hx=>by simp at h1;unfold okN at hx;omega)⟩
theorem BsB {E:Mem} (h:Bs E b l c zs):∀ z∈zs,0<=z/\z<=255:=h.2.2.2.1
def unzig (v:Int):Int:=if v % 2=1 then -((v+1) / 2) else v / 2
def rdF (a:Int) (ws:List Int):Nat->Nat->Int->Int×Int×Int
 | 0,_,_=>(0,0,3)
 | k+1,i,u=>if ws.length<=i then (0,0,11) else
   if 128<=ws.getD i 0 then (if k=0 then (0,0,3) else rdF a ws k (i+1) (u+(ws.getD i 0-128)*128 ^ i))
   else if okN (unzig (u+ws.getD i 0*128 ^ i))/\(0<ws.getD i 0\/i=0) then (unzig (u+ws.getD i 0*128 ^ i),a+i+1,0) else (0,0,3)
def rd (zs:List Int) (a:Int):Int×Int×Int:=if a<0\/a>zs.length then (0,0,1) else rdF a (zs.drop a.toNat) 7 0 0
theorem or_add {u d s:Nat} (hu:u<2 ^ s) (h:u+d*2 ^ s<4611686018427387904):(BitVec.ofInt 64 (u:Int)|||BitVec.ofInt 64 ((d:Int)*2 ^ s)).toNat=u+d*2 ^ s:=by
 have hd:(d:Int)*2 ^ s=((d*2 ^ s:Nat):Int):=by simp
 rw [BitVec.toNat_or,hd,BitVec.ofInt_natCast,BitVec.ofInt_natCast,BitVec.toNat_ofNat,BitVec.toNat_ofNat,Nat.mod_eq_of_lt (by omega),Nat.mod_eq_of_lt (by omega)]
 rw [Nat.or_comm,Nat.mul_comm d,← Nat.two_pow_add_eq_or_of_lt hu]
 omega
theorem orW {d:Int} (hi:i<=6) (hu:0<=u/\u<128 ^ i) (hd:0<=d/\d<128):
  IntKind.wrap .i64 (((BitVec.ofInt (IntKind.bits .i64) u|||BitVec.ofInt (IntKind.bits .i64) (IntKind.wrap .i64 (d*2 ^ min (Int.toNat (IntKind.wrap .i64 (7*(i:Int)))) (IntKind.bits .i64)))).toNat:Nat):Int)=u+d*128 ^ i/\0<=u+d*128 ^ i/\u+d*128 ^ i<128 ^ (i+1):=by
 obtain ⟨u',rfl⟩:∃ k:Nat,u=k:=⟨u.toNat,by omega⟩
 obtain ⟨d',rfl⟩:∃ k:Nat,d=k:=⟨d.toNat,by omega⟩
 obtain ⟨h0,h1⟩:=hu
 obtain ⟨h2,h3⟩:=hd
 rw [show IntKind.bits .i64=64 from rfl]
 have key:∀ (s p:Nat),p=2 ^ s->s<=42->(u':Int)<p->IntKind.wrap .i64 (((BitVec.ofInt 64 (u':Int)|||BitVec.ofInt 64 (IntKind.wrap .i64 ((d':Int)*2 ^ min (Int.toNat (IntKind.wrap .i64 (s:Int))) 64))).toNat:Nat):Int)=u'+d'*p:=by
  intro s p hp hs h1
  have hp2:p<=4398046511104:=by rw [hp];have:=Nat.pow_le_pow_right (show 2>0 by omega) hs;simpa using this
  have hdp:d'*p<=127*4398046511104:=Nat.mul_le_mul (by omega) hp2
  have e1:min (Int.toNat (IntKind.wrap .i64 (s:Int))) 64=s:=by
   rw [wrap_i64 (by omega)];omega
  rw [e1]
  have e2:(d':Int)*2 ^ s=((d'*p:Nat):Int):=by rw [hp];simp
  have:=or_add (u:=u') (d:=d') (s:=s) (by rw [← hp];omega) (by rw [← hp];omega)
  rw [e2,wrap_i64 (x:=((d'*p:Nat):Int)) (by omega),← e2,this,← hp,wrap_i64 (by omega)]
  simp
 have hc:i=0\/i=1\/i=2\/i=3\/i=4\/i=5\/i=6:=by omega
 rcases hc with rfl|rfl|rfl|rfl|rfl|rfl|rfl
 ·exact ⟨(key 0 1 rfl (by omega) (by simpa using h1)).trans (by simp),by simp at h1 ⊢;omega,by simp at h1 ⊢;omega⟩
 ·exact ⟨(key 7 128 rfl (by omega) (by simpa using h1)).trans (by simp),by simp at h1 ⊢;omega,by simp at h1 ⊢;omega⟩
 ·exact ⟨(key 14 16384 rfl (by omega) (by simpa using h1)).trans (by simp),by simp at h1 ⊢;omega,by simp at h1 ⊢;omega⟩
 ·exact ⟨(key 21 2097152 rfl (by omega) (by simpa using h1)).trans (by simp),by simp at h1 ⊢;omega,by simp at h1 ⊢;omega⟩
 ·exact ⟨(key 28 268435456 rfl (by omega) (by simpa using h1)).trans (by simp),by simp at h1 ⊢;omega,by simp at h1 ⊢;omega⟩
 ·exact ⟨(key 35 34359738368 rfl (by omega) (by simpa using h1)).trans (by simp),by simp at h1 ⊢;omega,by simp at h1 ⊢;omega⟩
 ·exact ⟨(key 42 4398046511104 rfl (by omega) (by simpa using h1)).trans (by simp),by simp at h1 ⊢;omega,by simp at h1 ⊢;omega⟩
noncomputable def W8:Cx:={ P:=Tryz.prog,inl:=fun f=>List.contains [] f,tab:=fun _ _ _ _=>False,isB:=fun _=>false,tabB:=fun _ _ _ _ _=>False,opt:={ unroll:=0,carry:=[] },muts:=mutsD }
theorem okW8:CxOK W8:=CxOK.four (fun _ _ _ _ h=>h.elim) (by kernel_rfl) (okInl (by kernel_rfl)) (fun _ _ _ _ _ h=>h.elim)
theorem s35 (h0:(0<=a1/\a1<1152921504606846976)) (h:K (I (unzig a1)) E):
  Ent W8 6 Tryz.f84 [I a1] E K:=by
 refine sm_ (?_:((2:Int)=(0:Int)->False)/\bif Int.tmod a1 (2:Int)==(1:Int) then ((2:Int)=(0:Int)->False)/\Mem.le E E/\K (I (WI (Int.tdiv (WI ((0:Int)-WI (a1+(1:Int)))) 2))) E else ((2:Int)=(0:Int)->False)/\Mem.le E E/\K (I (WI (Int.tdiv a1 2))) E)
 delta WI
 obtain ⟨g0,g1⟩:=h0
 rw [Int.tmod_eq_emod_of_nonneg g0]
 unfold unzig at h
 refine ⟨by omega,condC (fun h1=>?_) (fun h1=>?_)⟩
 ·have h1:a1 % 2=1:=by simpa using h1
  rw [if_pos h1] at h
  rw [wrap_i64 (x:=a1+1) (by omega),wrap_i64 (x:=0-(a1+1)) (by omega),Int.zero_sub,Int.neg_tdiv,Int.tdiv_eq_ediv_of_nonneg (by omega),wrap_i64 (by omega)]
  exact ⟨by omega,mr_,h⟩
 ·have h1:¬ a1 % 2=1:=by simpa using h1
  rw [if_neg h1] at h
  rw [Int.tdiv_eq_ediv_of_nonneg (by omega),wrap_i64 (by omega)]
  exact ⟨by omega,mr_,h⟩
theorem s28 (h:K (B (decide (okN a1))) E):
  Ent W8 6 Tryz.f75 [I a1] E K:=by
 refine sm_ (?_:bif decide (a1>=(-10000000000000:Int)) then Mem.le E E/\K (B (bif true then decide (a1<=(10000000000000:Int)) else false)) E else Mem.le E E/\K (B false) E)
 unfold okN at h
 refine condC (fun h1=>?_) (fun h1=>?_)
 ·have h1: -10000000000000<=a1:=by simpa using h1
  exact ⟨mr_,by simpa [h1] using h⟩
 ·have h1:¬ -10000000000000<=a1:=by simpa using h1
  exact ⟨mr_,by simpa [h1] using h⟩
noncomputable def tab7:FuncId->List SV->Mem->(SV->Mem->Prop)->Prop:=fun f args E K=>match f with
 | 84=>d1 args fun x0=>dI x0 fun a1=>(0<=a1/\a1<1152921504606846976)/\(K (I (unzig a1)) E)
 | 75=>d1 args fun x0=>dI x0 fun a1=>(K (B (decide (okN a1))) E)
 | _=>False
theorem tab7_ok:TabOK Tryz.prog tab7:=by
 intro f args E K h
 unfold tab7 at h
 split at h
 ·replace h:=d1_elim h
  obtain ⟨x0,rfl,h⟩:=h
  replace h:=dI_elim h
  obtain ⟨a1,rfl,h⟩:=h
  obtain ⟨g0,h⟩:=h
  exact TabSem.congr (valL_cons rfl rfl) (Ent.sem okW8 Tryz.func84 ⟨by kernel_rfl,by kernel_rfl⟩ rfl (s35 g0 h))
 ·replace h:=d1_elim h
  obtain ⟨x0,rfl,h⟩:=h
  replace h:=dI_elim h
  obtain ⟨a1,rfl,h⟩:=h
  exact TabSem.congr (valL_cons rfl rfl) (Ent.sem okW8 Tryz.func75 ⟨by kernel_rfl,by kernel_rfl⟩ rfl (s28 h))
 ·exact h.elim
noncomputable def W7:Cx:={ P:=Tryz.prog,inl:=fun f=>List.contains [] f,tab:=tab7,isB:=fun _=>false,tabB:=fun _ _ _ _ _=>False,opt:={ unroll:=0,carry:=[7,23] },muts:=mutsD }
theorem okW7:CxOK W7:=CxOK.four tab7_ok (by kernel_rfl) (okInl (by kernel_rfl)) (fun _ _ _ _ _ h=>h.elim)
def sh15w (b:Option Addr) (l c:Nat) (a:Int) (b2:Option Addr) (l2 c2:Nat) (i:Nat) (u:Int) (E:Mem):St:={ fr:=[oL b l c,oI a]++nn 5++[oI u]++nn 13++[oL b2 l2 c2,oI l2,oI i]++nn 47,bx:=[],E:=E }
structure I15 (E:Mem) (K:SV->Mem->Prop) (a:Int) (ws:List Int) (l2 i:Nat) (u:Int):Prop where
 i6:i<=6
 il:i<=l2
 hu:0<=u/\u<128 ^ i
 h:∀ (n end' e:Int) (E':Mem),Mem.le E E'->Hyp (rdF a ws (7-i) i u=(n,end',e))->K (.tup [I n,I end',I e]) E'
theorem rnd15w {a:Int} {b2:Option Addr} {c2:Nat} (hB:Bs E b2 l2 c2 ws) (hE0:Mem.le E0 E) (hl:l2<=100000) (ha:0<=a/\a<=100000) (hi:i<=6) (hil:i<=l2) (hu:0<=u/\u<128 ^ i) (h:∀ (n end' e:Int) (E':Mem),Mem.le E E'->Hyp (rdF a ws (7-i) i u=(n,end',e))->K (.tup [I n,I end',I e]) E')
  (ih:∀ u',i<6->i<l2->0<=u'/\u'<128 ^ (i+1)->(∀ (n end' e:Int) (E':Mem),Mem.le E E'->Hyp (rdF a ws (7-(i+1)) (i+1) u'=(n,end',e))->K (.tup [I n,I end',I e]) E')->Lp W7 6 Tryz.f57 [1,1,1,0,1,0] 0 (pubK E0 K) (sh15w b l c a b2 l2 c2 (i+1) u' E)):
  Rnd W7 6 Tryz.f57 [1,1,1,0,1,0] 0 (pubK E0 K) (sh15w b l c a b2 l2 c2 i u E):=by
 refine sm_ (?_:bif decide ((NI i)<(NI l2)) then req (0<=(NI i)/\(NI i)<(NI l2)) (nE E b2 l2 c2/\∃ (n:Int),LoadE W7.P E 5 (VS b2 l2 c2) (Int.toNat (NI i)*1) (SV.raw (U8 n))/\bif decide (n>=(128:Int)) then bif bif true then (NI i)==6 else false then Mem.le E0 E/\K (SV.tup [I 0,I 0,I 3]) E else bif decide (n>=(128:Int)) then req ((0:Int)<=WI ((7:Int)*(NI i))) (Lp W7 6 Tryz.f57 [1,1,1,0,1,0] 0 (pubK E0 K) { fr:=some (L b l c)::oI a::none::none::none::none::none::oI (WI (NI (BitVec.toNat (BitVec.ofInt (IntKind.bits IntKind.i64) u|||BitVec.ofInt (IntKind.bits IntKind.i64) (WI (WI (IntKind.wrap IntKind.u8 (n-(128:Int)))*(2:Int) ^ min (Int.toNat (WI ((7:Int)*(NI i)))) (IntKind.bits IntKind.i64)))))))::no8 (no4 (none::(oL b2 l2 c2::oI (NI l2)::oI (WI ((NI i)+1))::no32 (no8 (no4 (no2 (none::[]))))))),bx:=[],E:=E:St }) else req ((0:Int)<=WI ((7:Int)*(NI i))) (((0:Int)<=WI (NI (BitVec.toNat (BitVec.ofInt (IntKind.bits IntKind.i64) u|||BitVec.ofInt (IntKind.bits IntKind.i64) (WI (WI n*(2:Int) ^ min (Int.toNat (WI ((7:Int)*(NI i)))) (IntKind.bits IntKind.i64))))))/\WI (NI (BitVec.toNat (BitVec.ofInt (IntKind.bits IntKind.i64) u|||BitVec.ofInt (IntKind.bits IntKind.i64) (WI (WI n*(2:Int) ^ min (Int.toNat (WI ((7:Int)*(NI i)))) (IntKind.bits IntKind.i64))))))<(1152921504606846976:Int))/\Mem.le E E/\Mem.le E E/\bif decide (okN (unzig (WI (NI (BitVec.toNat (BitVec.ofInt (IntKind.bits IntKind.i64) u|||BitVec.ofInt (IntKind.bits IntKind.i64) (WI (WI n*(2:Int) ^ min (Int.toNat (WI ((7:Int)*(NI i)))) (IntKind.bits IntKind.i64))))))))) then bif decide (n>(0:Int)) then Mem.le E0 E/\K (SV.tup [I (unzig (WI (NI (BitVec.toNat (BitVec.ofInt (IntKind.bits IntKind.i64) u|||BitVec.ofInt (IntKind.bits IntKind.i64) (WI (WI n*(2:Int) ^ min (Int.toNat (WI ((7:Int)*(NI i)))) (IntKind.bits IntKind.i64)))))))),I (WI (WI (a+(NI i))+(1:Int))),I 0]) E else bif bif true then bif false then true else (NI i)==0 else false then Mem.le E0 E/\K (SV.tup [I (unzig (WI (NI (BitVec.toNat (BitVec.ofInt (IntKind.bits IntKind.i64) u|||BitVec.ofInt (IntKind.bits IntKind.i64) (WI (WI n*(2:Int) ^ min (Int.toNat (WI ((7:Int)*(NI i)))) (IntKind.bits IntKind.i64)))))))),I (WI (WI (a+(NI i))+(1:Int))),I 0]) E else Mem.le E0 E/\K (SV.tup [I 0,I 0,I 3]) E else Mem.le E0 E/\K (SV.tup [I 0,I 0,I 3]) E) else bif decide (n>=(128:Int)) then req ((0:Int)<=WI ((7:Int)*(NI i))) (Lp W7 6 Tryz.f57 [1,1,1,0,1,0] 0 (pubK E0 K) { fr:=some (L b l c)::oI a::none::none::none::none::none::oI (WI (NI (BitVec.toNat (BitVec.ofInt (IntKind.bits IntKind.i64) u|||BitVec.ofInt (IntKind.bits IntKind.i64) (WI (WI (IntKind.wrap IntKind.u8 (n-(128:Int)))*(2:Int) ^ min (Int.toNat (WI ((7:Int)*(NI i)))) (IntKind.bits IntKind.i64)))))))::no8 (no4 (none::(oL b2 l2 c2::oI (NI l2)::oI (WI ((NI i)+1))::no32 (no8 (no4 (no2 (none::[]))))))),bx:=[],E:=E:St }) else req ((0:Int)<=WI ((7:Int)*(NI i))) (((0:Int)<=WI (NI (BitVec.toNat (BitVec.ofInt (IntKind.bits IntKind.i64) u|||BitVec.ofInt (IntKind.bits IntKind.i64) (WI (WI n*(2:Int) ^ min (Int.toNat (WI ((7:Int)*(NI i)))) (IntKind.bits IntKind.i64))))))/\WI (NI (BitVec.toNat (BitVec.ofInt (IntKind.bits IntKind.i64) u|||BitVec.ofInt (IntKind.bits IntKind.i64) (WI (WI n*(2:Int) ^ min (Int.toNat (WI ((7:Int)*(NI i)))) (IntKind.bits IntKind.i64))))))<(1152921504606846976:Int))/\Mem.le E E/\Mem.le E E/\bif decide (okN (unzig (WI (NI (BitVec.toNat (BitVec.ofInt (IntKind.bits IntKind.i64) u|||BitVec.ofInt (IntKind.bits IntKind.i64) (WI (WI n*(2:Int) ^ min (Int.toNat (WI ((7:Int)*(NI i)))) (IntKind.bits IntKind.i64))))))))) then bif decide (n>(0:Int)) then Mem.le E0 E/\K (SV.tup [I (unzig (WI (NI (BitVec.toNat (BitVec.ofInt (IntKind.bits IntKind.i64) u|||BitVec.ofInt (IntKind.bits IntKind.i64) (WI (WI n*(2:Int) ^ min (Int.toNat (WI ((7:Int)*(NI i)))) (IntKind.bits IntKind.i64)))))))),I (WI (WI (a+(NI i))+(1:Int))),I 0]) E else bif bif true then bif false then true else (NI i)==0 else false then Mem.le E0 E/\K (SV.tup [I (unzig (WI (NI (BitVec.toNat (BitVec.ofInt (IntKind.bits IntKind.i64) u|||BitVec.ofInt (IntKind.bits IntKind.i64) (WI (WI n*(2:Int) ^ min (Int.toNat (WI ((7:Int)*(NI i)))) (IntKind.bits IntKind.i64)))))))),I (WI (WI (a+(NI i))+(1:Int))),I 0]) E else Mem.le E0 E/\K (SV.tup [I 0,I 0,I 3]) E else Mem.le E0 E/\K (SV.tup [I 0,I 0,I 3]) E)) else Mem.le E0 E/\K (SV.tup [I 0,I 0,I 11]) E)
 delta WI NI U8 VS no2 no4 no8 no32
 have hlen:=hB.2.1
 obtain ⟨k,hk⟩:∃ k,7-i=k+1:=⟨6-i,by omega⟩
 have hk':7-(i+1)=k:=by omega
 rw [hk'] at ih
 rw [hk] at h
 have h7:IntKind.wrap .i64 (7*(i:Int))=7*i:=wrap_i64 (by omega)
 unfold rdF at h
 refine condC (fun hlt=>?_) (fun hlt=>?_)
 ·have hlt:i<l2:=by simpa using hlt
  rw [if_neg (by omega)] at h
  have hc:0<=ws.getD i 0/\ws.getD i 0<=255:=by
   refine BsB hB _ ?_
   rw [List.getD_eq_getElem?_getD,List.getElem?_eq_getElem (by omega)];exact List.getElem_mem _
  refine req_intro ⟨by omega,by omega⟩ ⟨hB.ne hlt,ws.getD i 0,hB.load rfl hlt,?_⟩
  generalize ws.getD i 0=c1 at hc h ih
  refine condC (fun h1=>?_) (fun h1=>?_)
  ·have h1:128<=c1:=by simpa using h1
   rw [if_pos h1] at h
   refine condC (fun h2=>?_) (fun h2=>?_)
   ·have h2:i=6:=by simp at h2;omega
    rw [if_pos (by omega)] at h
    exact ⟨hE0,h 0 0 3 E mr_ rfl⟩
   ·have h2:i<6:=by simp at h2;omega
    rw [if_neg (by omega)] at h
    refine condC (fun _=>?_) (fun h3=>absurd h1 (by simp at h3;omega))
    refine req_intro (by rw [h7];omega) ?_
    have ho:=orW hi hu (d:=c1-128) (by omega)
    have e1:IntKind.wrap .i64 (IntKind.wrap .u8 (c1-128))=c1-128:=by rw [wu8 (by omega),wrap_i64 (by omega)]
    have e2:IntKind.wrap .i64 ((i:Int)+1)=((i+1:Nat):Int):=by rw [wrap_i64 (by omega)];simp
    rw [e1,ho.1,e2]
    exact Lp_from (by repeat' first|exact True.intro|refine And.intro rfl ?_) (ih _ h2 hlt ho.2 h)
  ·have h1:¬ 128<=c1:=by simpa using h1
   rw [if_neg h1] at h
   refine condC (fun h3=>absurd h3 (by simp;omega)) (fun _=>?_)
   refine req_intro (by rw [h7];omega) ?_
   have ho:=orW hi hu (d:=c1) (by omega)
   have e1:IntKind.wrap .i64 c1=c1:=wrap_i64 (by omega)
   have e2:IntKind.wrap .i64 (IntKind.wrap .i64 (a+(i:Int))+1)=a+i+1:=by rw [wrap_i64 (x:=a+i) (by omega),wrap_i64 (by omega)]
   have hb:(128:Int) ^ (i+1)<=128 ^ 7:=by
    have:=Nat.pow_le_pow_right (show 128>0 by omega) (show i+1<=7 by omega)
    exact_mod_cast this
   simp only [e1,ho.1,e2]
   refine ⟨⟨ho.2.1,by have:=ho.2.2;simp at hb;omega⟩,mr_,mr_,?_⟩
   refine condC (fun h4=>?_) (fun h4=>?_)
   ·have h4:okN (unzig (u+c1*128 ^ i)):=by simpa using h4
    refine condC (fun h5=>?_) (fun h5=>?_)
    ·have h5:0<c1:=by simpa using h5
     rw [if_pos ⟨h4,.inl h5⟩] at h
     exact ⟨hE0,h _ _ _ E mr_ rfl⟩
    ·have h5:¬ 0<c1:=by simpa using h5
     refine condC (fun h6=>?_) (fun h6=>?_)
     ·have h6:i=0:=by simp at h6;omega
      rw [if_pos ⟨h4,.inr h6⟩] at h
      exact ⟨hE0,h _ _ _ E mr_ rfl⟩
     ·have h6:¬ i=0:=by simp at h6;omega
      rw [if_neg (by rintro ⟨_,q|q⟩;exact h5 q;exact h6 q)] at h
      exact ⟨hE0,h _ _ _ E mr_ rfl⟩
   ·have h4:¬ okN (unzig (u+c1*128 ^ i)):=by simpa using h4
    rw [if_neg (fun q=>h4 q.1)] at h
    exact ⟨hE0,h _ _ _ E mr_ rfl⟩
 ·have hlt:¬ i<l2:=by simpa using hlt
  rw [if_pos (by omega)] at h
  exact ⟨hE0,h 0 0 11 E mr_ rfl⟩
theorem s15w {a:Int} (hB:Bs E b l c zs) (hl:l<=100000) (h:∀ (n end' e:Int) (E':Mem),Mem.le E E'->Hyp (rd zs a=(n,end',e))->K (.tup [I n,I end',I e]) E'):Ent W7 6 Tryz.f57 [L b l c,I a] E K:=by
 refine sm_ (?_:bif decide (a<(0:Int)) then Mem.le E E/\K (SV.tup [I 0,I 0,I 1]) E else bif bif false then true else decide (a>(NI l)) then Mem.le E E/\K (SV.tup [I 0,I 0,I 1]) E else req (l<=c) (req ((0:Int)<=a/\a<=(NI (toN none l))) (∀ (base':Option Addr) (E':Mem),Mem.le E E'->(∀ (cs:List Value),E (VS b l c) cs->E' (VS base' (toN none l-toN (some a) 0) (toN none c-toN (some a) 0)) (List.take ((toN none l-toN (some a) 0)*1) (List.drop (toN (some a) 0*1) cs)))->Option.isNone base'=Option.isNone b->Lp W7 6 Tryz.f57 [1,1,1,0,1,0] 0 (pubK E K) { fr:=some (L b l c)::oI a::none::none::none::none::none::oI 0::none::none::none::oI a::oB (decide (a<(0:Int)))::oB false::oI a::oL b l c::oI (NI l)::oB (decide (a>(NI l)))::oB (bif false then true else decide (a>(NI l)))::oL b l c::oI a::oL base' (toN none l-toN (some a) 0) (toN none c-toN (some a) 0)::oI (NI (toN none l-toN (some a) 0))::oI 0::no32 (no8 (no4 (no2 (none::[])))),bx:=[],E:=E':St })))
 delta NI VS no2 no4 no8 no32
 have hlen:=hB.2.1
 refine condC (fun h1=>?_) (fun h1=>?_)
 ·exact ⟨mr_,h 0 0 1 E mr_ (by show rd zs a=_;unfold rd;rw [if_pos (.inl (by simpa using h1))])⟩
 ·have h1:¬ a<0:=by simpa using h1
  refine condC (fun h2=>?_) (fun h2=>?_)
  ·have h2:a>l:=by simpa using h2
   exact ⟨mr_,h 0 0 1 E mr_ (by show rd zs a=_;unfold rd;rw [if_pos (.inr (by omega))])⟩
  ·have h2:a<=l:=by simpa using h2
   have hr:rd zs a=rdF a (zs.drop a.toNat) 7 0 0:=by unfold rd;rw [if_neg (by omega)]
   rw [hr] at h
   refine req_intro hB.2.2.1 (req_intro ⟨by omega,h2⟩ ?_)
   intro b2 E' hE hF hN
   have hB2:Bs E' b2 (l-a.toNat) (c-a.toNat) (zs.drop a.toNat):=by
    refine ⟨?_,by simp [hlen],by have:=hB.2.2.1;omega,fun z hz=>BsB hB z (List.drop_subset _ _ hz),fun e=>?_⟩
    ·rcases hB.1 with q|q
     ·exact .inl (by rw [q];simp)
     ·refine .inr ?_
      have:=hF _ q
      rw [Nat.mul_one,Nat.mul_one,← List.map_drop,List.take_of_length_le (by show _<=l-a.toNat;rw [List.length_map,List.length_drop,hlen];exact Nat.le_refl _)] at this
      exact this
    ·have :zs=[]:=hB.2.2.2.2 (by cases b with |none=>rfl|some x=>rw [e] at hN;cases hN)
     rw [this];simp
   have key:=Lp_ind okW7 (n:=6) (fn:=Tryz.f57) (p:=[1,1,1,0,1,0]) (n0:=0) (K:=pubK E K) (fun x:{x:Nat×Int//I15 E' K a (zs.drop a.toNat) (l-a.toNat) x.1 x.2}=>sh15w b l c a b2 (l-a.toNat) (c-a.toNat) x.1.1 x.1.2 E') (fun x=>7-x.1.1) (by
    rintro ⟨⟨i,u⟩,hP⟩ ih
    have hP:I15 E' K a (zs.drop a.toNat) (l-a.toNat) i u:=hP
    have g6:=hP.i6
    refine rnd15w hB2 hE (by omega) (by omega) hP.i6 hP.il hP.hu hP.h (fun u' q1 q2 q3 q4=>?_)
    exact ih ⟨⟨i+1,u'⟩,⟨q1,q2,q3,q4⟩⟩ (by show 7-(i+1)<7-i;omega))
   exact Lp_from (by repeat' first|exact True.intro|refine And.intro rfl ?_) (key ⟨⟨0,0⟩,⟨by omega,by omega,by simp,fun n e' e E2 hE2 hy=>h n e' e E2 (mt_ hE hE2) hy⟩⟩)
noncomputable def tab44 (k:Nat):FuncId->List SV->Mem->(SV->Mem->Prop)->Prop:=fun f args E K=>match f with
 | 79=>d1 args fun x0=>dI x0 fun u=>(0<=u/\u<128 ^ (k+1)/\u<1152921504606846976)/\(∀ (b':Option Addr) (l' c':Nat) (ys:List Int) (E':Mem),Mem.le E E'->Hyp (digF k u=ys)->Bs E' b' l' c' ys->K (L b' l' c') E')
 | _=>False
noncomputable def W44 (k:Nat):Cx:={ P:=Tryz.prog,inl:=fun f=>List.contains [] f,tab:=tab44 k,isB:=fun _=>false,tabB:=fun _ _ _ _ _=>False,opt:={ unroll:=0,carry:=[] },muts:=mutsD }
theorem s44 (h0:0<=u) (h1:u<128 ^ (k+1+1)) (h2:u<1152921504606846976) (hk:k<=9) (h:∀ (b':Option Addr) (l' c':Nat) (ys:List Int) (E':Mem),Mem.le E E'->Hyp (digF (k+1) u=ys)->Bs E' b' l' c' ys->K (L b' l' c') E'):
  Ent (W44 k) 6 Tryz.f79 [I u] E K:=by
 refine sm_ (?_:bif decide (u<(128:Int)) then ∀ (base:Option Addr) (E':Mem),Mem.le E E'->WinE E' base [U8 (IntKind.wrap IntKind.u8 u)]->Mem.le E E'/\K (L (Option.map (fun (x:Addr)=>Addr.add x 0) base) 1 1) E' else ((128:Int)=(0:Int)->False)/\∀ (cap' tot':Nat),1<=cap'->cap'*1<=tot'->((128:Int)=(0:Int)->False)/\((0:Int)<=WI (Int.tdiv u 128)/\WI (Int.tdiv u 128)<(128:Int) ^ (k+1)/\WI (Int.tdiv u 128)<(1152921504606846976:Int))/\∀ (b':Option Addr) (l' c':Nat) (ys:List Int) (E':Mem),Mem.le E E'->Hyp (digF k (WI (Int.tdiv u 128))=ys)->Bs E' b' l' c' ys->Mem.le E E'/\∃ (cs:List Value),(cs=[]\/E' (VS b' l' c') cs)/\l'*1<=List.length cs/\(∀ (x:Value),List.Mem x cs->Value.oneCell' x=true)/\1<=1/\cap'*1<=tot'/\1<=cap'/\req ((1+l')*1<=140737488355328) (∀ (cap' tot':Nat),1+l'<=cap'->cap'*1<=tot'->∀ (base:Option Addr) (E'_1:Mem),Mem.le E' E'_1->WinE E'_1 base (U8 (IntKind.wrap IntKind.u8 (WI ((128:Int)+Int.tmod u 128)))::(List.take (l'*1) cs))->Mem.le E E'_1/\K (L (Option.map (fun (x:Addr)=>Addr.add x 0) base) (1+l') cap') E'_1))
 delta WI U8 VS
 refine condC (fun hu=>?_) (fun hu=>?_)
 ·have hu:u<128:=by simpa using hu
  intro base E' hE hW
  refine ⟨hE,h _ _ _ [u] E' hE (by show digF (k+1) u=_;unfold digF;rw [if_pos hu]) (Bs.win hW (by rw [wu8 (by omega)];rfl) rfl (Nat.le_refl _) (by intro z hz;rw [List.mem_singleton] at hz;omega))⟩
 ·have hu:¬ u<128:=by simpa using hu
  refine ⟨by omega,fun cap1 tot1 a1 a2=>⟨by omega,?_⟩⟩
  have hq:IntKind.wrap .i64 (Int.tdiv u 128)=u / 128:=by rw [Int.tdiv_eq_ediv_of_nonneg h0,wrap_i64 (by omega)]
  rw [hq]
  refine ⟨⟨by omega,by rw [Int.pow_succ] at h1;omega,by omega⟩,?_⟩
  intro b' l' c' ys E' hE hy hB
  have hB:Bs E' b' l' c' ys:=hB
  obtain ⟨s1,s2,s3⟩:=hB.src
  have hlen:=hB.2.1
  have hdl:=digF_len k (u / 128)
  have hy:digF k (u / 128)=ys:=hy
  rw [hy] at hdl
  refine ⟨hE,_,s1,s2,s3,Nat.le_refl _,a2,a1,req_intro ?_ ?_⟩
  ·omega
  intro cap2 tot2 a3 a4 base E2 hE2 hW
  refine ⟨mt_ hE hE2,h _ _ _ ((u % 128+128)::ys) E2 (mt_ hE hE2) (by show digF (k+1) u=_;unfold digF;rw [if_neg hu,hy]) (Bs.win hW ?_ (by simp [hlen];omega) a3 ?_)⟩
  ·rw [List.take_of_length_le (by simp [hlen]),Int.tmod_eq_emod_of_nonneg h0,wrap_i64 (by omega),wu8 (by omega),Int.add_comm];rfl
  ·intro z hz
   rcases List.mem_cons.1 hz with rfl|hz
   ·omega
   ·exact hB.2.2.2.1 z hz
noncomputable def W44z:Cx:={ P:=Tryz.prog,inl:=fun f=>List.contains [] f,tab:=fun _ _ _ _=>False,isB:=fun _=>false,tabB:=fun _ _ _ _ _=>False,opt:={ unroll:=0,carry:=[] },muts:=mutsD }
theorem okW44z:CxOK W44z:=CxOK.four (fun _ _ _ _ h=>h.elim) (by kernel_rfl) (okInl (by kernel_rfl)) (fun _ _ _ _ _ h=>h.elim)
theorem s44z (h0:0<=u) (h1:u<128) (h:∀ (b':Option Addr) (l' c':Nat) (ys:List Int) (E':Mem),Mem.le E E'->Hyp (digF 0 u=ys)->Bs E' b' l' c' ys->K (L b' l' c') E'):
  Ent W44z 6 Tryz.f79 [I u] E K:=by
 refine sm_ (?_:bif decide (u<(128:Int)) then ∀ (base:Option Addr) (E':Mem),Mem.le E E'->WinE E' base [Value.int IntKind.u8 (IntKind.wrap IntKind.u8 u)]->Mem.le E E'/\K (L (Option.map (fun (x:Addr)=>Addr.add x 0) base) 1 1) E' else ((128:Int)=(0:Int)->False)/\∀ (cap' tot':Nat),1<=cap'->cap'*1<=tot'->((128:Int)=(0:Int)->False)/\False)
 refine condC (fun hu=>?_) (fun hu=>absurd h1 (by simpa using hu))
 intro base E' hE hW
 exact ⟨hE,h _ _ _ [u] E' hE rfl (Bs.win hW (by rw [wu8 (by omega)];rfl) rfl (Nat.le_refl _) (by intro z hz;rw [List.mem_singleton] at hz;omega))⟩
theorem tab44_ok:∀ k:Nat,k<=10->TabOK Tryz.prog (tab44 k)
 | 0,_=>by
  intro f args E K h
  unfold tab44 at h
  split at h
  case h_2=>exact h.elim
  obtain ⟨x0,rfl,h⟩:=d1_elim h
  obtain ⟨u,rfl,h⟩:=dI_elim h
  obtain ⟨⟨h0,h1,h2⟩,h⟩:=h
  exact Ent.sem okW44z Tryz.func79 ⟨by kernel_rfl,by kernel_rfl⟩ rfl (s44z h0 (by simpa using h1) h)
 | k+1,hk=>by
  intro f args E K h
  unfold tab44 at h
  split at h
  case h_2=>exact h.elim
  obtain ⟨x0,rfl,h⟩:=d1_elim h
  obtain ⟨u,rfl,h⟩:=dI_elim h
  obtain ⟨⟨h0,h1,h2⟩,h⟩:=h
  have ok:CxOK (W44 k):=CxOK.four (tab44_ok k (by omega)) (by kernel_rfl) (okInl (by kernel_rfl)) (fun _ _ _ _ _ h=>h.elim)
  exact Ent.sem ok Tryz.func79 ⟨by kernel_rfl,by kernel_rfl⟩ rfl (s44 h0 h1 h2 (by omega) h)
noncomputable def W4:Cx:={ P:=Tryz.prog,inl:=fun f=>List.contains [] f,tab:=tab44 9,isB:=fun _=>false,tabB:=fun _ _ _ _ _=>False,opt:={ unroll:=0,carry:=[] },muts:=mutsD }
theorem okW4:CxOK W4:=CxOK.four (tab44_ok 9 (by omega)) (by kernel_rfl) (okInl (by kernel_rfl)) (fun _ _ _ _ _ h=>h.elim)
theorem s34 (h0:okN a1) (h:∀ (b':Option Addr) (l' c':Nat) (ys:List Int) (E':Mem),Mem.le E E'->Hyp (dig (zig a1)=ys)->Bs E' b' l' c' ys->K (L b' l' c') E'):
  Ent W4 6 Tryz.f54 [I a1] E K:=by
 refine sm_ (?_:bif decide (a1<(0:Int)) then ((0:Int)<=WI (WI ((-2:Int)*a1)-(1:Int))/\WI (WI ((-2:Int)*a1)-(1:Int))<(1180591620717411303424:Int)/\WI (WI ((-2:Int)*a1)-(1:Int))<(1152921504606846976:Int))/\∀ (b':Option Addr) (l' c':Nat) (ys:List Int) (E':Mem),Mem.le E E'->Hyp (digF 9 (WI (WI ((-2:Int)*a1)-(1:Int)))=ys)->Bs E' b' l' c' ys->Mem.le E E'/\Mem.le E E'/\K (L b' l' c') E' else ((0:Int)<=WI ((2:Int)*a1)/\WI ((2:Int)*a1)<(1180591620717411303424:Int)/\WI ((2:Int)*a1)<(1152921504606846976:Int))/\∀ (b':Option Addr) (l' c':Nat) (ys:List Int) (E':Mem),Mem.le E E'->Hyp (digF 9 (WI ((2:Int)*a1))=ys)->Bs E' b' l' c' ys->Mem.le E E'/\Mem.le E E'/\K (L b' l' c') E')
 delta WI
 have hn:=h0
 have hz:=zig_b hn
 have hn': -10000000000000<=a1/\a1<=10000000000000:=hn
 refine condC (fun h1=>?_) (fun h1=>?_)
 ·have h1:a1<0:=by simpa using h1
  have e:zig a1= -2*a1-1:=by unfold zig;rw [if_pos h1]
  rw [wrap_i64 (x:= -2*a1) (by omega),wrap_i64 (by omega)]
  rw [e] at hz h
  exact ⟨⟨hz.1,by have:=hz.2;simp;omega,hz.2⟩,fun b' l' c' ys E' hE hy hB=>⟨hE,hE,h b' l' c' ys E' hE hy hB⟩⟩
 ·have h1:¬ a1<0:=by simpa using h1
  have e:zig a1=2*a1:=by unfold zig;rw [if_neg h1]
  rw [wrap_i64 (by omega)]
  rw [e] at hz h
  exact ⟨⟨hz.1,by have:=hz.2;simp;omega,hz.2⟩,fun b' l' c' ys E' hE hy hB=>⟨hE,hE,h b' l' c' ys E' hE hy hB⟩⟩
theorem s32 (h:K (B (decide (okN a1))) E):
  Ent W8 6 Tryz.f67 [I a1] E K:=by
 refine sm_ (?_:bif decide (a1>=(-10000000000000:Int)) then Mem.le E E/\K (B (bif true then decide (a1<=(10000000000000:Int)) else false)) E else Mem.le E E/\K (B false) E)
 unfold okN at h
 refine condC (fun h1=>?_) (fun h1=>?_)
 ·have h1: -10000000000000<=a1:=by simpa using h1
  exact ⟨mr_,by simpa [h1] using h⟩
 ·have h1:¬ -10000000000000<=a1:=by simpa using h1
  exact ⟨mr_,by simpa [h1] using h⟩
def lenW (ws:List Int):Nat->Nat->Int
 | 0,_=>0
 | k+1,i=>if ws.length<=i then -1 else if ws.getD i 0<128 then i+1 else lenW ws k (i+1)
noncomputable def W9:Cx:={ P:=Tryz.prog,inl:=fun f=>List.contains [] f,tab:=fun _ _ _ _=>False,isB:=fun _=>false,tabB:=fun _ _ _ _ _=>False,opt:={ unroll:=0,carry:=[5] },muts:=mutsD }
theorem okW9:CxOK W9:=CxOK.four (fun _ _ _ _ h=>h.elim) (by kernel_rfl) (okInl (by kernel_rfl)) (fun _ _ _ _ _ h=>h.elim)
def sh36 (b:Option Addr) (l c:Nat) (a:Int) (i:Nat) (E:Mem):St:={ fr:=[oL b l c,oI a,none,none,none,oI i]++nn 19,bx:=[],E:=E }
theorem rnd36 {a:Int} (hB:Bs E b l c zs) (hl:l<=100000) (ha:0<=a/\a<=l) (hi:i<=7) (h:∀ (n:Int),Hyp (lenW (zs.drop a.toNat) (7-i) i=n)->K (I n) E)
  (ih:i<7->(∀ (n:Int),Hyp (lenW (zs.drop a.toNat) (7-(i+1)) (i+1)=n)->K (I n) E)->Lp W9 6 Tryz.f66 [1,0,1,0] 0 (pubK E K) (sh36 b l c a (i+1) E)):
  Rnd W9 6 Tryz.f66 [1,0,1,0] 0 (pubK E K) (sh36 b l c a i E):=by
 refine sm_ (?_:bif decide ((NI i)<7) then bif decide (WI (a+(NI i))>=(NI l)) then Mem.le E E/\K (I (-1)) E else req ((0:Int)<=WI (a+(NI i))/\WI (a+(NI i))<(NI l)) (nE E b l c/\∃ (n:Int),LoadE W9.P E 5 (VS b l c) (Int.toNat (WI (a+(NI i)))*1) (SV.raw (U8 n))/\bif decide (n<(128:Int)) then Mem.le E E/\K (I (WI ((NI i)+1))) E else Lp W9 6 Tryz.f66 [1,0,1,0] 0 (pubK E K) { fr:=some (L b l c)::oI a::none::none::none::oI (WI ((NI i)+1))::no16 (no2 (none::[])),bx:=[],E:=E:St }) else Mem.le E E/\K (I 0) E)
 delta WI NI U8 VS no2 no16
 have hlen:=hB.2.1
 refine condC (fun h1=>?_) (fun h1=>?_)
 ·have h1:i<7:=by simp at h1;omega
  obtain ⟨k,hk⟩:∃ k,7-i=k+1:=⟨6-i,by omega⟩
  rw [show 7-(i+1)=k by omega] at ih
  rw [hk] at h
  have hw:IntKind.wrap .i64 (a+(i:Int))=a+i:=wrap_i64 (by omega)
  have hw2:IntKind.wrap .i64 ((i:Int)+1)=i+1:=wrap_i64 (by omega)
  rw [hw,hw2]
  unfold lenW at h
  have hd:(zs.drop a.toNat).length=l-a.toNat:=by rw [List.length_drop,hlen]
  refine condC (fun h2=>?_) (fun h2=>?_)
  ·rw [if_pos (by simp at h2;omega)] at h
   exact ⟨mr_,h _ rfl⟩
  ·have h2:a+i<l:=by simp at h2;omega
   rw [if_neg (by omega)] at h
   have e1:(zs.drop a.toNat).getD i 0=zs.getD (a+i).toNat 0:=by
    rw [List.getD_eq_getElem?_getD,List.getD_eq_getElem?_getD,List.getElem?_drop];congr 2;omega
   rw [e1] at h
   refine req_intro ⟨by omega,h2⟩ ⟨hB.ne (i:=(a+i).toNat) (by omega),_,hB.load (i:=(a+i).toNat) rfl (by omega),?_⟩
   refine condC (fun h3=>?_) (fun h3=>?_)
   ·rw [if_pos (by simpa using h3)] at h
    exact ⟨mr_,h _ rfl⟩
   ·rw [if_neg (by simpa using h3)] at h
    exact Lp_from (by repeat' first|exact True.intro|refine And.intro rfl ?_) (ih h1 h)
 ·have h1:¬ i<7:=by simp at h1;omega
  rw [show 7-i=0 by omega] at h
  exact ⟨mr_,h _ rfl⟩
theorem s36 {a:Int} (hB:Bs E b l c zs) (hl:l<=100000) (ha:0<=a/\a<=l) (h:∀ (n:Int),Hyp (lenW (zs.drop a.toNat) 7 0=n)->K (I n) E):Ent W9 6 Tryz.f66 [L b l c,I a] E K:=by
 refine sm_ (?_:Lp W9 6 Tryz.f66 [1,0,1,0] 0 (pubK E K) { fr:=some (L b l c)::oI a::none::none::none::oI 0::no16 (no2 (none::[])),bx:=[],E:=E:St })
 delta no2 no16
 have key:=Lp_ind okW9 (n:=6) (fn:=Tryz.f66) (p:=[1,0,1,0]) (n0:=0) (K:=pubK E K) (fun x:{x:Nat//x<=7/\(∀ (n:Int),Hyp (lenW (zs.drop a.toNat) (7-x) x=n)->K (I n) E)}=>sh36 b l c a x.1 E) (fun x=>7-x.1) (by
  rintro ⟨i,g1,g2⟩ ih
  exact rnd36 hB hl ha g1 g2 (fun q1 q2=>ih ⟨i+1,q1,q2⟩ (by have q1:i<7:=q1;show 7-(i+1)<7-i;omega)))
 exact Lp_from (by repeat' first|exact True.intro|refine And.intro rfl ?_) (key ⟨0,by omega,h⟩)
noncomputable def tab9:FuncId->List SV->Mem->(SV->Mem->Prop)->Prop:=fun f args E K=>match f with
 | 66=>d2 args fun x0 x1=>dS x0 fun b1 l2 c3=>dI x1 fun a4=>∃ (zs:List Int),Bs E b1 l2 c3 zs/\l2<=100000/\(0<=a4/\a4<=l2)/\(∀ (n:Int),Hyp (lenW (zs.drop a4.toNat) 7 0=n)->K (I n) E)
 | 67=>d1 args fun x0=>dI x0 fun a1=>(K (B (decide (okN a1))) E)
 | _=>False
theorem tab9_ok:TabOK Tryz.prog tab9:=by
 intro f args E K h
 unfold tab9 at h
 split at h
 ·replace h:=d2_elim h
  obtain ⟨x0,x1,rfl,h⟩:=h
  replace h:=dS_elim h
  obtain ⟨b1,l2,c3,rfl,h⟩:=h
  replace h:=dI_elim h
  obtain ⟨a4,rfl,h⟩:=h
  obtain ⟨zs,g0,g1,g2,h⟩:=h
  exact TabSem.congr (valL_cons rfl (valL_cons rfl rfl)) (Ent.sem okW9 Tryz.func66 ⟨by kernel_rfl,by kernel_rfl⟩ rfl (s36 g0 g1 g2 h))
 ·replace h:=d1_elim h
  obtain ⟨x0,rfl,h⟩:=h
  replace h:=dI_elim h
  obtain ⟨a1,rfl,h⟩:=h
  exact TabSem.congr (valL_cons rfl rfl) (Ent.sem okW8 Tryz.func67 ⟨by kernel_rfl,by kernel_rfl⟩ rfl (s32 h))
 ·exact h.elim
noncomputable def WA:Cx:={ P:=Tryz.prog,inl:=fun f=>List.contains [] f,tab:=tab9,isB:=fun _=>false,tabB:=fun _ _ _ _ _=>False,opt:={ unroll:=0,carry:=[8,9] },muts:=mutsD }
theorem okWA:CxOK WA:=CxOK.four tab9_ok (by kernel_rfl) (okInl (by kernel_rfl)) (fun _ _ _ _ _ h=>h.elim)
def sh16 (b:Option Addr) (l c:Nat) (a:Int) (n u i:Int) (E:Mem):St:={ fr:=[oL b l c,oI a]++nn 5++[oI n,oI u,oI i]++nn 64,bx:=[],E:=E }
def smF (ws:List Int):Nat->Nat->Int
 | 0,_=>0
 | k+1,i=>ws.getD i 0 % 128+128*smF ws k (i+1)
def finF (a:Int) (ws:List Int) (v:Int) (m:Nat):Int×Int×Int:=if okN (unzig v)/\(0<ws.getD (m-1) 0\/m=1) then (unzig v,a+m,0) else (0,0,3)
theorem smF_b (ws:List Int):∀ (k i:Nat),0<=smF ws k i/\smF ws k i<128 ^ k
 | 0,i=>⟨Int.le_refl _,by simp [smF]⟩
 | k+1,i=>by
  have:=smF_b ws k (i+1)
  have h1:0<=ws.getD i 0 % 128/\ws.getD i 0 % 128<128:=⟨Int.emod_nonneg _ (by omega),Int.emod_lt_of_pos _ (by omega)⟩
  show 0<=ws.getD i 0 % 128+128*smF ws k (i+1)/\ws.getD i 0 % 128+128*smF ws k (i+1)<128 ^ (k+1)
  rw [Int.pow_succ]
  omega
theorem rdF_len (a:Int) {ws:List Int} (hw:∀ z∈ws,0<=z/\z<=255):∀ (k i:Nat) (u:Int),i+k=7->
  (lenW ws k i=0->rdF a ws k i u=(0,0,3))/\(lenW ws k i= -1->rdF a ws k i u=(0,0,11))/\
  (lenW ws k i≠0->lenW ws k i≠ -1->∃ m:Nat,lenW ws k i=m/\i<m/\m<=7/\m<=ws.length/\rdF a ws k i u=finF a ws (u+128 ^ i*smF ws (m-i) i) m)
 | 0,i,u,h=>by simp [lenW,rdF]
 | k+1,i,u,h=>by
  unfold lenW rdF
  by_cases h1:ws.length<=i
  ·rw [if_pos h1,if_pos h1]
   simp
  ·rw [if_neg h1,if_neg h1]
   have hc:0<=ws.getD i 0/\ws.getD i 0<=255:=by
    refine hw _ ?_
    rw [List.getD_eq_getElem?_getD,List.getElem?_eq_getElem (by omega)];exact List.getElem_mem _
   by_cases h2:ws.getD i 0<128
   ·rw [if_pos h2,if_neg (by omega)]
    refine ⟨fun e=>by omega,fun e=>by omega,fun _ _=>⟨i+1,by simp,by omega,by omega,by omega,?_⟩⟩
    have e1:smF ws (i+1-i) i=ws.getD i 0:=by
     rw [show i+1-i=1 by omega];show ws.getD i 0 % 128+128*0=_;omega
    rw [e1]
    unfold finF
    rw [show i+1-1=i by omega,Int.mul_comm]
    have e2:((0<ws.getD i 0\/i+1=1)↔(0<ws.getD i 0\/i=0)):=by simp
    simp only [e2]
    rw [show a+((i+1:Nat):Int)=a+i+1 by omega]
   ·rw [if_neg h2,if_pos (by omega)]
    obtain ⟨g1,g2,g3⟩:=rdF_len a hw k (i+1) (u+(ws.getD i 0-128)*128 ^ i) (by omega)
    by_cases hk:k=0
    ·subst hk
     rw [if_pos rfl]
     refine ⟨fun _=>rfl,fun e=>?_,fun e=>?_⟩
     ·exact absurd (show lenW ws 0 (i+1)=0 from rfl) (by rw [e];omega)
     ·exact absurd (show lenW ws 0 (i+1)=0 from rfl) e
    ·rw [if_neg hk]
     refine ⟨g1,g2,fun e1 e2=>?_⟩
     obtain ⟨m,q1,q2,q3,q4,q5⟩:=g3 e1 e2
     refine ⟨m,q1,by omega,q3,q4,?_⟩
     rw [q5]
     congr 1
     have e3:m-i=(m-(i+1))+1:=by omega
     rw [e3]
     show _=u+128 ^ i*(ws.getD i 0 % 128+128*smF ws (m-(i+1)) (i+1))
     rw [show ws.getD i 0 % 128=ws.getD i 0-128 by omega,Int.pow_succ,Int.mul_add,Int.mul_comm (128 ^ i) (ws.getD i 0-128),Int.mul_assoc]
     omega
theorem rnd16 {a:Int} (hB:Bs E b l c zs) (hl:l<=100000) (ha:0<=a/\a+m<=l) (hi:i<=m) (hn:1<=m/\m<=7) (hu:u=smF (zs.drop a.toNat) (m-i) i) (h:∀ (n end' e:Int) (E':Mem),Mem.le E E'->Hyp (finF a (zs.drop a.toNat) (smF (zs.drop a.toNat) m 0) m=(n,end',e))->K (.tup [I n,I end',I e]) E')
  (ih:1<=i->∀ u',u'=smF (zs.drop a.toNat) (m-(i-1)) (i-1)->Lp WA 6 Tryz.f44 [1,1,1,1,1,1,0,1,0] 0 (pubK E K) (sh16 b l c a m u' ((i:Int)-1-1) E)):
  Rnd WA 6 Tryz.f44 [1,1,1,1,1,1,0,1,0] 0 (pubK E K) (sh16 b l c a m u (i-1:Int) E):=by
 refine sm_ (?_:bif decide ((NI i)-1>=(0:Int)) then req ((0:Int)<=WI (a+((NI i)-1))/\WI (a+((NI i)-1))<(NI l)) (nE E b l c/\∃ (n:Int),LoadE WA.P E 5 (VS b l c) (Int.toNat (WI (a+((NI i)-1)))*1) (SV.raw (U8 n))/\((128:Int)=(0:Int)->False)/\Lp WA 6 Tryz.f44 [1,1,1,1,1,1,0,1,0] 0 (pubK E K) { fr:=some (L b l c)::oI a::none::none::none::none::none::oI (NI m)::oI (WI (WI ((128:Int)*u)+Int.tmod (WI n) 128))::oI (WI ((NI i)-1-(1:Int)))::no32 (no32 []),bx:=[],E:=E:St }) else ((2:Int)=(0:Int)->False)/\((2:Int)=(0:Int)->False)/\bif Int.tmod u (2:Int)==(1:Int) then Mem.le E E/\bif !decide (okN (WI (WI ((0:Int)-WI (Int.tdiv u 2))-(1:Int)))) then Mem.le E E/\K (SV.tup [I 0,I 0,I 3]) E else bif decide ((NI m)>1) then req ((0:Int)<=WI (WI (a+(NI m))-(1:Int))/\WI (WI (a+(NI m))-(1:Int))<(NI l)) (nE E b l c/\∃ (n:Int),LoadE WA.P E 5 (VS b l c) (Int.toNat (WI (WI (a+(NI m))-(1:Int)))*1) (SV.raw (U8 n))/\bif bif false then true else bif true then n==(0:Int) else false then Mem.le E E/\K (SV.tup [I 0,I 0,I 3]) E else Mem.le E E/\K (SV.tup [I (WI (WI ((0:Int)-WI (Int.tdiv u 2))-(1:Int))),I (WI (a+(NI m))),I 0]) E) else Mem.le E E/\K (SV.tup [I (WI (WI ((0:Int)-WI (Int.tdiv u 2))-(1:Int))),I (WI (a+(NI m))),I 0]) E else Mem.le E E/\bif !decide (okN (WI (Int.tdiv u 2))) then Mem.le E E/\K (SV.tup [I 0,I 0,I 3]) E else bif decide ((NI m)>1) then req ((0:Int)<=WI (WI (a+(NI m))-(1:Int))/\WI (WI (a+(NI m))-(1:Int))<(NI l)) (nE E b l c/\∃ (n:Int),LoadE WA.P E 5 (VS b l c) (Int.toNat (WI (WI (a+(NI m))-(1:Int)))*1) (SV.raw (U8 n))/\bif bif false then true else bif true then n==(0:Int) else false then Mem.le E E/\K (SV.tup [I 0,I 0,I 3]) E else Mem.le E E/\K (SV.tup [I (WI (Int.tdiv u 2)),I (WI (a+(NI m))),I 0]) E) else Mem.le E E/\K (SV.tup [I (WI (Int.tdiv u 2)),I (WI (a+(NI m))),I 0]) E)
 delta WI NI U8 VS no32
 have hlen:=hB.2.1
 have hb:=smF_b (zs.drop a.toNat) (m-i) i
 have hp:(128:Int) ^ (m-i)<=128 ^ 7:=by
  have:=Nat.pow_le_pow_right (show 128>0 by omega) (show m-i<=7 by omega)
  exact_mod_cast this
 have hp:(128:Int) ^ (m-i)<=562949953421312:=by simpa using hp
 have hu0:0<=u/\u<562949953421312:=by rw [hu];omega
 refine condC (fun h1=>?_) (fun h1=>?_)
 ·have h1:1<=i:=by simp at h1;omega
  rw [wrap_i64 (x:=a+((i:Int)-1)) (by omega)]
  refine req_intro ⟨by omega,by omega⟩ ⟨hB.ne (i:=(a+((i:Int)-1)).toNat) (by omega),_,hB.load (i:=(a+((i:Int)-1)).toNat) rfl (by omega),by omega,?_⟩
  have e5:(zs.drop a.toNat).getD (i-1) 0=zs.getD (a+((i:Int)-1)).toNat 0:=by
   rw [List.getD_eq_getElem?_getD,List.getD_eq_getElem?_getD,List.getElem?_drop];congr 2;omega
  have hc:0<=zs.getD (a+((i:Int)-1)).toNat 0/\zs.getD (a+((i:Int)-1)).toNat 0<=255:=by
   refine BsB hB _ ?_
   rw [List.getD_eq_getElem?_getD,List.getElem?_eq_getElem (by omega)];exact List.getElem_mem _
  generalize zs.getD (a+((i:Int)-1)).toNat 0=c1 at hc e5
  rw [wrap_i64 (x:=c1) (by omega),Int.tmod_eq_emod_of_nonneg hc.1,wrap_i64 (x:=128*u) (by omega),wrap_i64 (x:=128*u+c1 % 128) (by omega),wrap_i64 (x:=(i:Int)-1-1) (by omega)]
  refine Lp_from (by repeat' first|exact True.intro|refine And.intro rfl ?_) (ih h1 (128*u+c1 % 128) ?_)
  rw [show m-(i-1)=(m-i)+1 by omega]
  show _=(zs.drop a.toNat).getD (i-1) 0 % 128+128*smF (zs.drop a.toNat) (m-i) (i-1+1)
  rw [e5,show i-1+1=i by omega,← hu];omega
 ·have h1:i=0:=by simp at h1;omega
  subst h1
  rw [show m-0=m by omega] at hu
  rw [← hu] at h
  refine ⟨by omega,by omega,?_⟩
  rw [Int.tmod_eq_emod_of_nonneg hu0.1,Int.tdiv_eq_ediv_of_nonneg hu0.1,wrap_i64 (x:=a+m) (by omega)]
  refine condC (fun h2=>?_) (fun h2=>?_)
  ·have h2:u % 2=1:=by simpa using h2
   have hz:IntKind.wrap .i64 (IntKind.wrap .i64 (0-IntKind.wrap .i64 (u / 2))-1)=unzig u:=by
    rw [wrap_i64 (x:=u / 2) (by omega),wrap_i64 (x:=0-u / 2) (by omega),wrap_i64 (by omega)]
    unfold unzig;rw [if_pos h2];omega
   rw [hz]
   refine ⟨mr_,?_⟩
   refine condC (fun h3=>?_) (fun h3=>?_)
   ·have h3:¬ okN (unzig u):=by simpa using h3
    refine ⟨mr_,h 0 0 3 E mr_ ?_⟩
    show finF a _ _ m=_
    unfold finF;rw [if_neg (fun q=>h3 q.1)]
   ·have h3:okN (unzig u):=by simpa using h3
    refine condC (fun h4=>?_) (fun h4=>?_)
    ·have h4:m>1:=by simp at h4;omega
     rw [wrap_i64 (x:=a+m-1) (by omega)]
     refine req_intro ⟨by omega,by omega⟩ ⟨hB.ne (i:=(a+m-1).toNat) (by omega),_,hB.load (i:=(a+m-1).toNat) rfl (by omega),?_⟩
     have e5:(zs.drop a.toNat).getD (m-1) 0=zs.getD (a+m-1).toNat 0:=by
      rw [List.getD_eq_getElem?_getD,List.getD_eq_getElem?_getD,List.getElem?_drop];congr 2;omega
     have hc:0<=zs.getD (a+m-1).toNat 0:=by
      refine (BsB hB _ ?_).1
      rw [List.getD_eq_getElem?_getD,List.getElem?_eq_getElem (by omega)];exact List.getElem_mem _
     refine condC (fun h5=>?_) (fun h5=>?_)
     ·have h5:zs.getD (a+m-1).toNat 0=0:=by simpa using h5
      refine ⟨mr_,h 0 0 3 E mr_ ?_⟩
      show finF a _ _ m=_
      unfold finF;rw [if_neg (by rw [e5,h5];rintro ⟨_,q|q⟩<;>omega)]
     ·have h5:¬ zs.getD (a+m-1).toNat 0=0:=by simpa using h5
      refine ⟨mr_,h _ _ 0 E mr_ ?_⟩
      show finF a _ _ m=_
      unfold finF;rw [if_pos ⟨h3,.inl (by rw [e5];omega)⟩]
    ·have h4:m=1:=by simp at h4;omega
     refine ⟨mr_,h _ _ 0 E mr_ ?_⟩
     show finF a _ _ m=_
     unfold finF;rw [if_pos ⟨h3,.inr h4⟩]
  ·have h2:¬ u % 2=1:=by simpa using h2
   have hz:IntKind.wrap .i64 (u / 2)=unzig u:=by
    rw [wrap_i64 (x:=u / 2) (by omega)]
    unfold unzig;rw [if_neg h2]
   rw [hz]
   refine ⟨mr_,?_⟩
   refine condC (fun h3=>?_) (fun h3=>?_)
   ·have h3:¬ okN (unzig u):=by simpa using h3
    refine ⟨mr_,h 0 0 3 E mr_ ?_⟩
    show finF a _ _ m=_
    unfold finF;rw [if_neg (fun q=>h3 q.1)]
   ·have h3:okN (unzig u):=by simpa using h3
    refine condC (fun h4=>?_) (fun h4=>?_)
    ·have h4:m>1:=by simp at h4;omega
     rw [wrap_i64 (x:=a+m-1) (by omega)]
     refine req_intro ⟨by omega,by omega⟩ ⟨hB.ne (i:=(a+m-1).toNat) (by omega),_,hB.load (i:=(a+m-1).toNat) rfl (by omega),?_⟩
     have e5:(zs.drop a.toNat).getD (m-1) 0=zs.getD (a+m-1).toNat 0:=by
      rw [List.getD_eq_getElem?_getD,List.getD_eq_getElem?_getD,List.getElem?_drop];congr 2;omega
     have hc:0<=zs.getD (a+m-1).toNat 0:=by
      refine (BsB hB _ ?_).1
      rw [List.getD_eq_getElem?_getD,List.getElem?_eq_getElem (by omega)];exact List.getElem_mem _
     refine condC (fun h5=>?_) (fun h5=>?_)
     ·have h5:zs.getD (a+m-1).toNat 0=0:=by simpa using h5
      refine ⟨mr_,h 0 0 3 E mr_ ?_⟩
      show finF a _ _ m=_
      unfold finF;rw [if_neg (by rw [e5,h5];rintro ⟨_,q|q⟩<;>omega)]
     ·have h5:¬ zs.getD (a+m-1).toNat 0=0:=by simpa using h5
      refine ⟨mr_,h _ _ 0 E mr_ ?_⟩
      show finF a _ _ m=_
      unfold finF;rw [if_pos ⟨h3,.inl (by rw [e5];omega)⟩]
    ·have h4:m=1:=by simp at h4;omega
     refine ⟨mr_,h _ _ 0 E mr_ ?_⟩
     show finF a _ _ m=_
     unfold finF;rw [if_pos ⟨h3,.inr h4⟩]
theorem s16w {a:Int} (hB:Bs E b l c zs) (hl:l<=100000) (h:∀ (n end' e:Int) (E':Mem),Mem.le E E'->Hyp (rd zs a=(n,end',e))->K (.tup [I n,I end',I e]) E'):Ent WA 6 Tryz.f44 [L b l c,I a] E K:=by
 refine sm_ (?_:bif decide (a<(0:Int)) then Mem.le E E/\K (SV.tup [I 0,I 0,I 1]) E else bif bif false then true else decide (a>(NI l)) then Mem.le E E/\K (SV.tup [I 0,I 0,I 1]) E else ∃ (zs:List Int),Bs E b l c zs/\l<=100000/\((0:Int)<=a/\a<=(NI l))/\∀ (n:Int),Hyp (lenW (List.drop (Int.toNat a) zs) 7 0=n)->Mem.le E E/\bif n==(0:Int) then Mem.le E E/\K (SV.tup [I 0,I 0,I 3]) E else bif decide (n<(0:Int)) then Mem.le E E/\K (SV.tup [I 0,I 0,I 11]) E else Lp WA 6 Tryz.f44 [1,1,1,1,1,1,0,1,0] 0 (pubK E K) { fr:=some (L b l c)::oI a::none::none::oI 0::oI 0::oI 0::oI n::oI 0::oI (WI (n-(1:Int)))::none::none::oI a::oB (decide (a<(0:Int)))::oB false::oI a::oL b l c::oI (NI l)::oB (decide (a>(NI l)))::oB (bif false then true else decide (a>(NI l)))::oL b l c::oI a::oI n::oI n::oB (n==(0:Int))::oI n::oB (decide (n<(0:Int)))::oI n::oI (WI (n-(1:Int)))::no32 (no8 (no4 (none::[]))),bx:=[],E:=E:St })
 delta WI NI no4 no8 no32
 have hlen:=hB.2.1
 refine condC (fun h1=>?_) (fun h1=>?_)
 ·exact ⟨mr_,h 0 0 1 E mr_ (by show rd zs a=_;unfold rd;rw [if_pos (.inl (by simpa using h1))])⟩
 ·have h1:¬ a<0:=by simpa using h1
  refine condC (fun h2=>?_) (fun h2=>?_)
  ·have h2:a>l:=by simpa using h2
   exact ⟨mr_,h 0 0 1 E mr_ (by show rd zs a=_;unfold rd;rw [if_pos (.inr (by omega))])⟩
  ·have h2:a<=l:=by simpa using h2
   have hr:rd zs a=rdF a (zs.drop a.toNat) 7 0 0:=by unfold rd;rw [if_neg (by omega)]
   rw [hr] at h
   obtain ⟨r1,r2,r3⟩:=rdF_len a (ws:=zs.drop a.toNat) (fun z hz=>BsB hB z (List.drop_subset _ _ hz)) 7 0 0 rfl
   refine ⟨zs,hB,hl,⟨by omega,h2⟩,fun n hn=>⟨mr_,?_⟩⟩
   have hn:lenW (zs.drop a.toNat) 7 0=n:=hn
   rw [hn] at r1 r2 r3
   refine condC (fun h3=>?_) (fun h3=>?_)
   ·have h3:n=0:=by simpa using h3
    exact ⟨mr_,h 0 0 3 E mr_ (r1 h3)⟩
   ·have h3:¬ n=0:=by simpa using h3
    by_cases h4:n= -1
    ·refine condC (fun h5=>?_) (fun h5=>absurd h5 (by simp;omega))
     exact ⟨mr_,h 0 0 11 E mr_ (r2 h4)⟩
    ·obtain ⟨m,q1,q2,q3,q4,q5⟩:=r3 h3 h4
     rw [q5] at h
     rw [List.length_drop,hlen] at q4
     refine condC (fun h5=>absurd h5 (by simp;omega)) (fun h5=>?_)
     have key:=Lp_ind okWA (n:=6) (fn:=Tryz.f44) (p:=[1,1,1,1,1,1,0,1,0]) (n0:=0) (K:=pubK E K) (fun x:{x:Nat×Int//x.1<=m/\x.2=smF (zs.drop a.toNat) (m-x.1) x.1}=>sh16 b l c a m x.1.2 (x.1.1-1:Int) E) (fun x=>x.1.1) (by
      rintro ⟨⟨i,u⟩,g1,g2⟩ ih
      have g1:i<=m:=g1
      refine rnd16 hB hl (by omega) g1 ⟨by omega,q3⟩ g2 (fun n e' e E2 hE2 hy=>h n e' e E2 hE2 (by rw [← hy];show finF _ _ (0+128 ^ 0*_) _=_;rw [Int.pow_zero,Int.one_mul,Int.zero_add];rfl)) (fun q1 u' q2=>?_)
      have q1:1<=i:=q1
      have:=ih ⟨⟨i-1,u'⟩,by show i-1<=m;omega,q2⟩ (by show i-1<i;omega)
      have e:((i-1:Nat):Int)=(i:Int)-1:=by omega
      simp only [e] at this
      exact this)
     rw [q1,wrap_i64 (x:=(m:Int)-1) (by omega)]
     exact Lp_from (by repeat' first|exact True.intro|refine And.intro rfl ?_) (key ⟨⟨m,0⟩,by show m<=m;omega,by show (0:Int)=smF _ (m-m) m;rw [Nat.sub_self];rfl⟩)
abbrev RK (q:IntKind) (k:Nat):RowR (List Int):=fun _ x r=>r=x.map (.int q)/\x.length=k
theorem RK_ok (q:IntKind) (hk:0<k):RowOK k (RK q k) where
 mono _ h:=h
 len h:=by rw [h.1,List.length_map];exact h.2
 one h v hv:=by
  rw [h.1] at hv
  obtain ⟨z,_,rfl⟩:=List.mem_map.1 hv
  rfl
 pos:=hk
theorem RK_load (hk:0<k) {T:TypeId} (hT:Tryz.prog.underlying T=some (.int q)) {n:Nat} (h:SL (RK q k) E b n c xs) (hx:xs[i]? =some x):
  ∀ j,j<k->LoadE Tryz.prog E T (.slice b n c) (i*k+j) (.raw (.int q (x.getD j 0))):=fun j hj=>by
 obtain ⟨r,v,⟨h1,h2⟩,h3,h4⟩:=SL.loadC (RK_ok q hk) h hT rfl hx hj
 rw [h1,List.getElem?_map] at h3
 rw [List.getD_eq_getElem?_getD]
 rw [List.getElem?_eq_getElem (by omega)] at h3 ⊢
 simp only [Option.map_some,Option.some.injEq] at h3
 rw [← h3] at h4
 exact h4
theorem SLr_RK {E:Mem} (h:∀ x∈xs,x.length=k):SLr (RK q k) E (xs.map fun x=>x.map (Value.int q)) xs:=by
 refine ⟨by simp,fun i r x h1 h2=>?_⟩
 rw [List.getElem?_map,h2] at h1
 simp only [Option.map_some,Option.some.injEq] at h1
 exact ⟨h1.symm,h x (List.mem_of_getElem? h2)⟩
theorem rowK5 {T:TypeId} {n:Nat} (h:SL (RK q 5) E b n c xs) (hu:(match Tryz.prog.underlying T with |some (.struct _)=>true|_=>false)=true) (hs:(Tryz.prog.info? T).map (·.size)=some 5) (hx:xs[i]? =some x):
  ∃ a0 a1 a2 a3 a4:Int,x=[a0,a1,a2,a3,a4]/\LoadE Tryz.prog E T (.slice b n c) (i*5) (.agg [.raw (.int q a0),.raw (.int q a1),.raw (.int q a2),.raw (.int q a3),.raw (.int q a4)]):=by
 obtain ⟨r,⟨h1,h2⟩,h3⟩:=SL.loadE (RK_ok q (by decide)) h hu hs hx
 match x,h2 with
 | [a0,a1,a2,a3,a4],_=>subst h1;exact ⟨a0,a1,a2,a3,a4,rfl,h3⟩
noncomputable def Q1:Cx:={ P:=Tryz.prog,inl:=fun f=>List.contains [36] f,tab:=fun _ _ _ _=>False,isB:=fun _=>false,tabB:=fun _ _ _ _ _=>False,opt:={ unroll:=0,carry:=[] },muts:=mutsD }
theorem okQ1:CxOK Q1:=CxOK.four (fun _ _ _ _ h=>h.elim) (by kernel_rfl) (okInl (by kernel_rfl)) (fun _ _ _ _ _ h=>h.elim)
def okR (o n k v a:Int):Bool:=decide ((0<=o/\o<=59)/\(1<=n/\n<=1000000000)/\(0<=k/\k<=1)/\(0<=v/\v<=10000000000000)/\(0<=a/\a<=1000000000))
theorem okR_no {k v a:Int} (h:¬ ((0<=o/\o<=59)/\(1<=n/\n<=1000000000)/\(0<=k/\k<=1)/\(0<=v/\v<=10000000000000)/\(0<=a/\a<=1000000000))):okR o n k v a=false:=decide_eq_false h
def recB (l:List Int):List Int:=l.foldl (fun b n=>(putN b n).1) []
theorem c21 (h:K (B (okR a1 a2 a3 a4 a5)) E):
  Ent Q1 6 Tryz.f21 [.agg [I a1,I a2,I a3,I a4,I a5]] E K:=by
 refine sm_ (?_:bif decide (a1>=(0:Int)) then Mem.le E E/\bif bif true then decide (a1<=(59:Int)) else false then bif decide (a2>=(1:Int)) then Mem.le E E/\bif bif true then bif true then decide (a2<=(1000000000:Int)) else false else false then bif decide (a3>=(0:Int)) then Mem.le E E/\bif bif true then bif true then decide (a3<=(1:Int)) else false else false then bif decide (a4>=(0:Int)) then Mem.le E E/\bif bif true then bif true then decide (a4<=(10000000000000:Int)) else false else false then bif decide (a5>=(0:Int)) then Mem.le E E/\Mem.le E E/\K (B (bif true then bif true then decide (a5<=(1000000000:Int)) else false else false)) E else Mem.le E E/\Mem.le E E/\K (B false) E else Mem.le E E/\K (B false) E else Mem.le E E/\Mem.le E E/\K (B false) E else Mem.le E E/\K (B false) E else Mem.le E E/\Mem.le E E/\K (B false) E else Mem.le E E/\K (B false) E else Mem.le E E/\Mem.le E E/\K (B false) E else Mem.le E E/\K (B false) E else Mem.le E E/\Mem.le E E/\K (B false) E)
 have bad:¬ ((0<=a1/\a1<=59)/\(1<=a2/\a2<=1000000000)/\(0<=a3/\a3<=1)/\(0<=a4/\a4<=10000000000000)/\(0<=a5/\a5<=1000000000))->K (B false) E:=fun q=>by rw [okR_no q] at h;exact h
 have b1:∀ {p:Prop},p->¬ ((0<=a1/\a1<=59)/\(1<=a2/\a2<=1000000000)/\(0<=a3/\a3<=1)/\(0<=a4/\a4<=10000000000000)/\(0<=a5/\a5<=1000000000))->p/\K (B false) E:=fun p q=>⟨p,bad q⟩
 have b2:∀ {p r:Prop},p->r->¬ ((0<=a1/\a1<=59)/\(1<=a2/\a2<=1000000000)/\(0<=a3/\a3<=1)/\(0<=a4/\a4<=10000000000000)/\(0<=a5/\a5<=1000000000))->p/\r/\K (B false) E:=fun p r q=>⟨p,r,bad q⟩
 refine condC (fun g1=>?_) (fun g=>b2 mr_ mr_ (fun q=>by simp at g;omega))
 refine ⟨mr_,condC (fun g2=>?_) (fun g=>b1 mr_ (fun q=>by simp at g;omega))⟩
 refine condC (fun g3=>?_) (fun g=>b2 mr_ mr_ (fun q=>by simp at g;omega))
 refine ⟨mr_,condC (fun g4=>?_) (fun g=>b1 mr_ (fun q=>by simp at g;omega))⟩
 refine condC (fun g5=>?_) (fun g=>b2 mr_ mr_ (fun q=>by simp at g;omega))
 refine ⟨mr_,condC (fun g6=>?_) (fun g=>b1 mr_ (fun q=>by simp at g;omega))⟩
 refine condC (fun g7=>?_) (fun g=>b2 mr_ mr_ (fun q=>by simp at g;omega))
 refine ⟨mr_,condC (fun g8=>?_) (fun g=>b1 mr_ (fun q=>by simp at g;omega))⟩
 refine condC (fun g9=>?_) (fun g=>b2 mr_ mr_ (fun q=>by simp at g;omega))
 refine ⟨mr_,mr_,?_⟩
 show K (B (decide (a5<=1000000000))) E
 have e:okR a1 a2 a3 a4 a5=decide (a5<=1000000000):=by unfold okR;simp at g1 g2 g3 g4 g5 g6 g7 g8 g9;simp [g1,g2,g3,g4,g5,g6,g7,g8,g9]
 rw [e] at h;exact h
theorem c14 (h:K (B (okR a1 a2 a3 a4 a5)) E):
  Ent Q1 6 Tryz.f25 [.agg [I a1,I a2,I a3,I a4,I a5]] E K:=by
 refine sm_ (?_:bif decide (a1<(0:Int)) then Mem.le E E/\K (B false) E else bif bif false then true else decide (a1>(59:Int)) then Mem.le E E/\K (B false) E else bif bif false then true else decide (a2<(1:Int)) then Mem.le E E/\K (B false) E else bif bif false then true else decide (a2>(1000000000:Int)) then Mem.le E E/\K (B false) E else bif bif false then true else decide (a3<(0:Int)) then Mem.le E E/\K (B false) E else bif bif false then true else decide (a3>(1:Int)) then Mem.le E E/\K (B false) E else bif decide (a4>=(0:Int)) then bif bif true then decide (a4<=(10000000000000:Int)) else false then bif bif true then decide (a5>=(0:Int)) else false then Mem.le E E/\K (B (bif true then decide (a5<=(1000000000:Int)) else false)) E else Mem.le E E/\K (B false) E else Mem.le E E/\K (B false) E else Mem.le E E/\K (B false) E)
 have bad:¬ ((0<=a1/\a1<=59)/\(1<=a2/\a2<=1000000000)/\(0<=a3/\a3<=1)/\(0<=a4/\a4<=10000000000000)/\(0<=a5/\a5<=1000000000))->K (B false) E:=fun q=>by rw [okR_no q] at h;exact h
 have b1:∀ {p:Prop},p->¬ ((0<=a1/\a1<=59)/\(1<=a2/\a2<=1000000000)/\(0<=a3/\a3<=1)/\(0<=a4/\a4<=10000000000000)/\(0<=a5/\a5<=1000000000))->p/\K (B false) E:=fun p q=>⟨p,bad q⟩
 have b2:∀ {p r:Prop},p->r->¬ ((0<=a1/\a1<=59)/\(1<=a2/\a2<=1000000000)/\(0<=a3/\a3<=1)/\(0<=a4/\a4<=10000000000000)/\(0<=a5/\a5<=1000000000))->p/\r/\K (B false) E:=fun p r q=>⟨p,r,bad q⟩
 refine condC (fun g=>b1 mr_ (fun q=>by simp at g;omega)) (fun g1=>?_)
 refine condC (fun g=>b1 mr_ (fun q=>by simp at g;omega)) (fun g2=>?_)
 refine condC (fun g=>b1 mr_ (fun q=>by simp at g;omega)) (fun g3=>?_)
 refine condC (fun g=>b1 mr_ (fun q=>by simp at g;omega)) (fun g4=>?_)
 refine condC (fun g=>b1 mr_ (fun q=>by simp at g;omega)) (fun g5=>?_)
 refine condC (fun g=>b1 mr_ (fun q=>by simp at g;omega)) (fun g6=>?_)
 refine condC (fun g7=>?_) (fun g=>b1 mr_ (fun q=>by simp at g;omega))
 refine condC (fun g8=>?_) (fun g=>b1 mr_ (fun q=>by simp at g;omega))
 refine condC (fun g9=>?_) (fun g=>b1 mr_ (fun q=>by simp at g;omega))
 refine ⟨mr_,?_⟩
 show K (B (decide (a5<=1000000000))) E
 have e:okR a1 a2 a3 a4 a5=decide (a5<=1000000000):=by unfold okR;simp at g1 g2 g3 g4 g5 g6 g7 g8 g9;simp [g1,g2,g3,g4,g5,g6,g7,g8,g9]
 rw [e] at h;exact h
noncomputable def tab37w:FuncId->List SV->Mem->(SV->Mem->Prop)->Prop:=fun f args E K=>match f with
 | 53=>d2 args fun x0 x1=>dS x0 fun b l c=>dI x1 fun n=>∃ zs:List Int,Bs E b l c zs/\l<=100000/\(∀ (b':Option Addr) (l' c':Nat) (ys:List Int) (e:Int) (E':Mem),Mem.le E E'->Hyp (putN zs n=(ys,e))->Bs E' b' l' c' ys->K (.tup [L b' l' c',I e]) E')
 | 57=>d2 args fun x0 x1=>dS x0 fun b l c=>dI x1 fun a=>∃ zs:List Int,Bs E b l c zs/\l<=100000/\(∀ (n end' e:Int) (E':Mem),Mem.le E E'->Hyp (rd zs a=(n,end',e))->K (.tup [I n,I end',I e]) E')
 | _=>False
theorem tab37_okw:TabOK Tryz.prog tab37w:=by
 intro f args E K h
 unfold tab37w at h
 split at h
 ·replace h:=d2_elim h
  obtain ⟨x0,x1,rfl,h⟩:=h
  replace h:=dS_elim h
  obtain ⟨b,l,c,rfl,h⟩:=h
  replace h:=dI_elim h
  obtain ⟨n,rfl,h⟩:=h
  obtain ⟨zs,h1,h2,h⟩:=h
  exact TabSem.congr (valL_cons rfl (valL_cons rfl rfl)) (Ent.sem okW1 Tryz.func53 ⟨by kernel_rfl,by kernel_rfl⟩ rfl (s12 h1 h2 h))
 ·replace h:=d2_elim h
  obtain ⟨x0,x1,rfl,h⟩:=h
  replace h:=dS_elim h
  obtain ⟨b,l,c,rfl,h⟩:=h
  replace h:=dI_elim h
  obtain ⟨n,rfl,h⟩:=h
  obtain ⟨zs,h1,h2,h⟩:=h
  exact TabSem.congr (valL_cons rfl (valL_cons rfl rfl)) (Ent.sem okW7 Tryz.func57 ⟨by kernel_rfl,by kernel_rfl⟩ rfl (s15w h1 h2 h))
 ·exact h.elim
noncomputable def Q2:Cx:={ P:=Tryz.prog,inl:=fun f=>List.contains [] f,tab:=tab37w,isB:=fun _=>false,tabB:=fun _ _ _ _ _=>False,opt:={ unroll:=0,carry:=[3,8] },muts:=mutsD }
theorem okQ2:CxOK Q2:=CxOK.four tab37_okw (by kernel_rfl) (okInl (by kernel_rfl)) (fun _ _ _ _ _ h=>h.elim)
theorem recB_take {xs:List Int} {x:Int} (h:xs[i]? =some x):recB (xs.take (i+1))=(putN (recB (xs.take i)) x).1:=by
 unfold recB
 rw [take_get' h,List.foldl_append];rfl
theorem putN_len (zs:List Int) (n:Int):(putN zs n).1.length<=zs.length+10:=by
 unfold putN
 split
 ·have:=(dig_len (zig n)).2;simp;omega
 ·simp
theorem recB_len (xs:List Int):(recB xs).length<=10*xs.length:=by
 have :∀ (l:List Int) (b:List Int),(l.foldl (fun b n=>(putN b n).1) b).length<=b.length+10*l.length:=by
  intro l
  induction l with
  | nil=>intro b;simp
  | cons x l ih=>
   intro b
   have h1:=ih (putN b x).1
   have h2:=putN_len b x
   simp only [List.foldl_cons,List.length_cons]
   omega
 have:=this xs []
 simpa [recB] using this
def us25 (b1:Option Addr) (l2 c3:Nat) (b:Option Addr) (l c:Nat) (i:Nat) (E:Mem):St:=⟨[oL b1 l2 c3,none,oL none 0 0,oL b l c,none,none,oL b1 l2 c3,oI (l2:Nat),oI (i:Nat)]++nn 11,[],E⟩
theorem ur25 {xs ys:List Int} {K:KT} (h0:SL (RK .i64 1) E0 b1 l2 c3 (xs.map fun z=>[z])) (h1:l2<=100) (hi:i<=l2) (hE:Mem.le E0 E) (hB:Bs E b l c ys) (hy:ys=recB (xs.take i))
  (hK:i=l2->K (L b l c) [] E) (ih:i<l2->∀ (b':Option Addr) (l' c':Nat) (ys':List Int) (E':Mem),Mem.le E E'->Bs E' b' l' c' ys'->ys'=recB (xs.take (i+1))->Lp Q2 8 Tryz.f32 [1,1,0,1,0] 0 K (us25 b1 l2 c3 b' l' c' (i+1) E')):Rnd Q2 8 Tryz.f32 [1,1,0,1,0] 0 K (us25 b1 l2 c3 b l c i E):=by
 refine sm_ (?_:bif decide ((NI i)<(NI l2)) then req (0<=(NI i)/\(NI i)<(NI l2)) (nE E b1 l2 c3/\∃ (n:Int),LoadE Q2.P E 3 (VS b1 l2 c3) (Int.toNat (NI i)*1) (I n)/\∃ (zs:List Int),Bs E b l c zs/\l<=100000/\∀ (b':Option Addr) (l' c':Nat) (ys:List Int) (e:Int) (E':Mem),Mem.le E E'->Hyp (putN zs n=(ys,e))->Bs E' b' l' c' ys->Mem.le E E'/\Lp Q2 8 Tryz.f32 [1,1,0,1,0] 0 K { fr:=some (L b1 l2 c3)::none::oL none 0 0::oL b' l' c'::none::none::oL b1 l2 c3::oI (NI l2)::oI (WI ((NI i)+1))::no8 (no2 (none::[])),bx:=[],E:=E':St }) else K (L b l c) [] E)
 delta WI NI VS no2 no8
 have hl:xs.length=l2:=by have:=h0.len;simpa using this
 have hyl:=hB.2.1
 have hr:=recB_len (xs.take i)
 rw [← hy,List.length_take] at hr
 have h0:=h0.mono (RK_ok .i64 (by decide)) hE
 refine condC (fun g=>?_) (fun g=>hK (by simp at g;omega))
 have g:i<l2:=by simpa using g
 obtain ⟨x,hx⟩:∃ x,xs[i]? =some x:=⟨_,List.getElem?_eq_getElem (by omega)⟩
 have ld:=RK_load (by decide) (T:=3) (k:=1) rfl h0 (x:=[x]) (i:=i) (by simp [hx]) 0 (by decide)
 rw [Int.toNat_natCast,wrap_i64 (x:=(i:Int)+1) (by omega)]
 refine req_intro (by omega) ⟨SL.ne (RK_ok .i64 (by decide)) h0 g,x,ld,ys,hB,by omega,fun b' l' c' ys' e E' q1 q2 q3=>⟨q1,?_⟩⟩
 exact Lp_re [] (ih g b' l' c' ys' E' q1 q3 (by have q2:putN ys x=(ys',e):=q2;rw [recB_take hx,← hy,q2])) (wkG mr_)
theorem c25 (h0:SL (RK .i64 1) E b1 l2 c3 (zs.map fun z=>[z])) (h1:l2<=100) (h:∀ (b':Option Addr) (l' c':Nat) (ys:List Int) (E':Mem),Mem.le E E'->Hyp (ys=recB zs)->Bs E' b' l' c' ys->K (L b' l' c') E'):
  Ent Q2 8 Tryz.f32 [L b1 l2 c3] E K:=by
 refine sm_ (?_:Lp Q2 8 Tryz.f32 [1,1,0,1,0] 0 (pubK E K) { fr:=[oL b1 l2 c3,none,oL none 0 0,oL none 0 0,none,none,oL b1 l2 c3,oI (↑l2:Int),oI (0:Int),none,none,none,none,none,none,none,none,none,none,none],bx:=[],E:=E:St })
 have hl:zs.length=l2:=by have:=h0.len;simpa using this
 have key:=Lp_ind okQ2 (n:=8) (fn:=Tryz.f32) (p:=[1,1,0,1,0]) (n0:=0) (K:=pubK E K) (fun x:{x:Nat×Option Addr×Nat×Nat×List Int×Mem//x.1<=l2/\Mem.le E x.2.2.2.2.2/\Bs x.2.2.2.2.2 x.2.1 x.2.2.1 x.2.2.2.1 x.2.2.2.2.1/\x.2.2.2.2.1=recB (zs.take x.1)}=>us25 b1 l2 c3 x.1.2.1 x.1.2.2.1 x.1.2.2.2.1 x.1.1 x.1.2.2.2.2.2) (fun x=>l2-x.1.1) (by
  rintro ⟨⟨i,b,l,c,ys,E1⟩,g1,g2,g3,g4⟩ ih
  have g1:i<=l2:=g1
  exact ur25 h0 h1 g1 g2 g3 g4 (fun (hi:i=l2)=>⟨g2,h b l c ys E1 g2 (by
   have g4:ys=recB (zs.take i):=g4
   show ys=recB zs
   rw [g4,List.take_of_length_le (by omega)]) g3⟩) (fun (g:i<l2) b' l' c' ys' E' q1 q2 q3=>ih ⟨⟨i+1,b',l',c',ys',E'⟩,g,mt_ g2 q1,q2,q3⟩ (by show l2-(i+1)<l2-i;omega)))
 exact Lp_re [] (key ⟨⟨0,none,0,0,[],E⟩,Nat.zero_le _,mr_,Bs.nil E,rfl⟩) (wkG mr_)
noncomputable def tab25:FuncId->List SV->Mem->(SV->Mem->Prop)->Prop:=fun f args E K=>match f with
 | 32=>d1 args fun x0=>dS x0 fun b1 l2 c3=>∃ (zs:List Int),SL (RK .i64 1) E b1 l2 c3 (zs.map fun z=>[z])/\l2<=100/\(∀ (b':Option Addr) (l' c':Nat) (ys:List Int) (E':Mem),Mem.le E E'->Hyp (ys=recB zs)->Bs E' b' l' c' ys->K (L b' l' c') E')
 | _=>False
theorem tab25_ok:TabOK Tryz.prog tab25:=by
 intro f args E K h
 unfold tab25 at h
 split at h
 ·replace h:=d1_elim h
  obtain ⟨x0,rfl,h⟩:=h
  replace h:=dS_elim h
  obtain ⟨b1,l2,c3,rfl,h⟩:=h
  obtain ⟨zs,g0,g1,h⟩:=h
  exact TabSem.congr (valL_cons rfl rfl) (Ent.sem okQ2 Tryz.func32 ⟨by kernel_rfl,by kernel_rfl⟩ rfl (c25 g0 g1 h))
 ·exact h.elim
noncomputable def Q3:Cx:={ P:=Tryz.prog,inl:=fun f=>List.contains [] f,tab:=tab25,isB:=fun _=>false,tabB:=fun _ _ _ _ _=>False,opt:={ unroll:=0,carry:=[] },muts:=mutsD }
theorem okQ3:CxOK Q3:=CxOK.four tab25_ok (by kernel_rfl) (okInl (by kernel_rfl)) (fun _ _ _ _ _ h=>h.elim)
theorem c24 (h:∀ (b':Option Addr) (l' c':Nat) (ys:List Int) (E':Mem),Mem.le E E'->Hyp (ys=recB [1,a1,a2,a3,a4,a5])->Bs E' b' l' c' ys->K (L b' l' c') E'):
  Ent Q3 8 Tryz.f24 [.agg [I a1,I a2,I a3,I a4,I a5]] E K:=by
 refine sm_ (?_:∀ (base:Option Addr) (E':Mem),Mem.le E E'->WinE E' base [Value.int IntKind.i64 (1:Int),Value.int IntKind.i64 a1,Value.int IntKind.i64 a2,Value.int IntKind.i64 a3,Value.int IntKind.i64 a4,Value.int IntKind.i64 a5]->∃ (zs:List Int),SL (RK IntKind.i64 1) E' (Option.map (fun (x:Addr)=>Addr.add x 0) base) 6 6 (List.map (fun (z:Int)=>[z]) zs)/\6<=100/\∀ (b':Option Addr) (l' c':Nat) (ys:List Int) (E'_1:Mem),Mem.le E' E'_1->Hyp (ys=recB zs)->Bs E'_1 b' l' c' ys->Mem.le E E'_1/\K (L b' l' c') E'_1)
 refine fun base E' k w=>⟨[1,a1,a2,a3,a4,a5],SL.win (RK_ok .i64 (by decide)) w (rs:=([1,a1,a2,a3,a4,a5].map fun z=>[z]).map fun x=>x.map (Value.int .i64)) rfl (SLr_RK (fun x hx=>by obtain ⟨z,_,rfl⟩:=List.mem_map.1 hx;rfl)) rfl (Nat.le_refl _),by decide,fun b' l' c' ys E2 k2 q hB=>⟨mt_ k k2,h b' l' c' ys E2 (mt_ k k2) q hB⟩⟩
noncomputable def Q4:Cx:={ P:=Tryz.prog,inl:=fun f=>List.contains [] f,tab:=tab37w,isB:=fun _=>false,tabB:=fun _ _ _ _ _=>False,opt:={ unroll:=0,carry:=[4,5] },muts:=mutsD }
theorem okQ4:CxOK Q4:=CxOK.four tab37_okw (by kernel_rfl) (okInl (by kernel_rfl)) (fun _ _ _ _ _ h=>h.elim)
theorem rdF_ok {a:Int} {ws:List Int}:∀ {k i:Nat} {u n e':Int},rdF a ws k i u=(n,e',0)->okN n/\(∃ m:Nat,e'=a+m/\i<m/\m<=ws.length/\m<=i+k)
 | 0,i,u,n,e',h=>by simp [rdF] at h
 | k+1,i,u,n,e',h=>by
  unfold rdF at h
  split at h
  ·simp at h
  ·rename_i h1
   split at h
   ·split at h
    ·simp at h
    ·obtain ⟨g1,m,g2,g3,g4,g5⟩:=rdF_ok h
     exact ⟨g1,m,g2,by omega,g4,by omega⟩
   ·split at h
    ·rename_i h3
     simp only [Prod.mk.injEq] at h
     obtain ⟨rfl,rfl,_⟩:=h
     exact ⟨h3.1,i+1,by omega,by omega,by omega,by omega⟩
    ·simp at h
theorem rd_ok {a e':Int} (h:rd zs a=(n,e',0)):okN n/\0<=a/\a<e'/\e'<=zs.length/\e'<=a+7:=by
 unfold rd at h
 split at h
 ·simp at h
 ·rename_i h1
  obtain ⟨g1,m,g2,g3,g4,g5⟩:=rdF_ok h
  rw [List.length_drop] at g4
  exact ⟨g1,by omega,by omega,by omega,by omega⟩
def numsN (zs:List Int):Nat->Int->Option (List Int)
 | 0,_=>none
 | f+1,a=>if a<zs.length then (if (rd zs a).2.2=0 then (numsN zs f (rd zs a).2.1).map fun l=>(rd zs a).1::l else none) else some []
def numsF (zs:List Int):Option (List Int):=numsN zs (zs.length+1) 0
theorem flatI (xs:List Int):xs.map (Value.int .i64)=((xs.map fun z=>[z]).map fun x=>x.map (Value.int .i64)).flatten:=by
 induction xs with
 | nil=>rfl
 | cons x xs ih=>simp [ih]
def us30 (b1:Option Addr) (l2 c3:Nat) (n cap tot:Nat) (vs:List Value) (a:Int) (E:Mem):St:=⟨[oL b1 l2 c3,none,none,none,os 0 0 n cap,oI a]++nn 22,[⟨3,.vals vs,tot,true⟩],E⟩
theorem ur30 {n cap:Nat} {a:Int} {xs:List Int} (hB:Bs E0 b1 l2 c3 zs) (hl:l2<=100000) (hE:Mem.le E0 E) (hn:xs.length=n) (hc:n<=cap/\cap*1<=tot) (ha:(n:Int)<=a/\a<=l2)
  {f:Nat} (hf:(l2:Int)<a+f) (hq:numsF zs=(numsN zs f a).map fun l=>xs++l) (h:(∀ E':Mem,Mem.le E0 E'->Hyp (numsF zs=none)->K (.tup [L none 0 0,B false]) E')/\∀ (xs:List Int) (b':Option Addr) (l' c':Nat) (E':Mem),Mem.le E0 E'->Hyp (numsF zs=some xs)->SL (RK .i64 1) E' b' l' c' (xs.map fun z=>[z])->K (.tup [L b' l' c',B true]) E')
  (ih:∀ (x a':Int) (cap' tot':Nat) (E':Mem),Mem.le E E'->n+1<=cap'->cap'*1<=tot'->a<a'->a'<=l2->numsF zs=(numsN zs (f-1) a').map (fun l=>(xs++[x])++l)->Lp Q4 8 Tryz.f38 [1,1,0,1,0] 0 (pubK E0 K) (us30 b1 l2 c3 (n+1) cap' tot' ((xs++[x]).map (.int .i64)) a' E')):
  Rnd Q4 8 Tryz.f38 [1,1,0,1,0] 0 (pubK E0 K) (us30 b1 l2 c3 n cap tot (xs.map (.int .i64)) a E):=by
 refine sm_ (?_:bif decide (a<(NI l2)) then ∃ (zs:List Int),Bs E b1 l2 c3 zs/\l2<=100000/\∀ (n_1 end' e:Int) (E':Mem),Mem.le E E'->Hyp (rd zs a=(n_1,end',e))->Mem.le E E'/\bif e !=(0:Int) then Mem.le E0 E'/\K (SV.tup [L none 0 0,B false]) E' else n*1<=List.length (Row.cells (Row.vals (List.map (Value.int IntKind.i64) xs)))/\cap*1<=tot/\n<=cap/\req ((n+1)*8<=140737488355328) (∀ (cap' tot':Nat),n+1<=cap'->cap'*1<=tot'->Lp Q4 8 Tryz.f38 [1,1,0,1,0] 0 (pubK E0 K) { fr:=some (L b1 l2 c3)::none::none::none::os 2 0 (n+1) cap'::oI end'::no16 (no4 (no2 [])),bx:=[(⟨3,.lst [],0,false⟩:Box),⟨3,.lst [I n_1],1,true⟩,⟨3,.vals (List.take (n*1) (List.map (Value.int IntKind.i64) xs)++[Value.int IntKind.i64 n_1]),tot',true⟩],E:=E':St }) else ∀ (base:Option Addr) (E':Mem),Mem.le E E'->WinE E' base (List.map (Value.int IntKind.i64) xs)->Mem.le E0 E'/\K (SV.tup [L (Option.map (fun (x:Addr)=>Addr.add x 0) base) n cap,B true]) E')
 delta NI no2 no4 no16
 have hz:=hB.2.1
 obtain ⟨f,rfl⟩:∃ f',f=f'+1:=⟨f-1,by omega⟩
 have st:numsN zs (f+1) a=if a<zs.length then (if (rd zs a).2.2=0 then (numsN zs f (rd zs a).2.1).map fun l=>(rd zs a).1::l else none) else some []:=rfl
 refine condC (fun g=>?_) (fun g=>?_)
 ·have g:a<l2:=by simpa using g
  rw [if_pos (by omega)] at st
  refine ⟨zs,hB.mono hE,hl,fun x a' e E' q1 q2=>⟨q1,?_⟩⟩
  have q2:rd zs a=(x,a',e):=q2
  rw [q2] at st
  refine condC (fun ge=>?_) (fun ge=>?_)
  ·have ge:e≠0:=by simpa using ge
   exact ⟨mt_ hE q1,h.1 E' (mt_ hE q1) (by show numsF zs=none;rw [hq,st,if_neg ge];rfl)⟩
  have ge:e=0:=by simpa using ge
  subst ge
  obtain ⟨_,_,o1,o2,_⟩:=rd_ok q2
  refine ⟨by show n*1<=((xs.map (Value.int .i64)).map SV.raw).length;simp [hn],hc.2,hc.1,req_intro (by omega) fun cap' tot' g1 g2=>?_⟩
  have e1:List.take (n*1) (xs.map (Value.int .i64))++[Value.int .i64 x]=(xs++[x]).map (.int .i64):=by rw [List.take_of_length_le (by simp;omega),List.map_append];rfl
  rw [e1]
  exact Lp_re [some 2] (ih x a' cap' tot' E' q1 g1 g2 o1 (by omega) (by rw [hq,st,if_pos rfl,Option.map_map];congr 1;funext l;simp)) (wkG mr_)
 ·have g:¬ a<l2:=by simpa using g
  rw [if_neg (by omega)] at st
  exact fun base E' k w=>⟨mt_ hE k,h.2 xs _ _ _ E' (mt_ hE k) (by show numsF zs=some xs;rw [hq,st];simp) (SL.win (RK_ok .i64 (by decide)) w (rs:=(xs.map fun z=>[z]).map fun x=>x.map (Value.int .i64)) (flatI xs) (SLr_RK (fun x hx=>by obtain ⟨z,_,rfl⟩:=List.mem_map.1 hx;rfl)) (by simp [hn]) hc.1)⟩
theorem c30 (h0:Bs E b1 l2 c3 zs) (h1:l2<=100000) (h:(∀ E':Mem,Mem.le E E'->Hyp (numsF zs=none)->K (.tup [L none 0 0,B false]) E')/\∀ (xs:List Int) (b':Option Addr) (l' c':Nat) (E':Mem),Mem.le E E'->Hyp (numsF zs=some xs)->SL (RK .i64 1) E' b' l' c' (xs.map fun z=>[z])->K (.tup [L b' l' c',B true]) E'):
  Ent Q4 8 Tryz.f38 [L b1 l2 c3] E K:=by
 refine sm_ (?_:Lp Q4 8 Tryz.f38 [1,1,0,1,0] 0 (pubK E K) { fr:=some (L b1 l2 c3)::none::none::none::oL none 0 0::oI 0::no16 (no4 (no2 [])),bx:=[],E:=E:St })
 delta no2 no4 no16
 have hz:=h0.2.1
 have key:=Lp_ind okQ4 (n:=8) (fn:=Tryz.f38) (p:=[1,1,0,1,0]) (n0:=0) (K:=pubK E K) (fun x:{x:Nat×Nat×Nat×Int×List Int×Mem×Nat//Mem.le E x.2.2.2.2.2.1/\x.2.2.2.2.1.length=x.1/\(x.1<=x.2.1/\x.2.1*1<=x.2.2.1)/\((x.1:Int)<=x.2.2.2.1/\x.2.2.2.1<=l2)/\(l2:Int)<x.2.2.2.1+x.2.2.2.2.2.2/\numsF zs=(numsN zs x.2.2.2.2.2.2 x.2.2.2.1).map fun l=>x.2.2.2.2.1++l}=>us30 b1 l2 c3 x.1.1 x.1.2.1 x.1.2.2.1 (x.1.2.2.2.2.1.map (.int .i64)) x.1.2.2.2.1 x.1.2.2.2.2.2.1) (fun x=>l2-x.1.2.2.2.1.toNat) (by
  rintro ⟨⟨n,cap,tot,a,xs,E1,f⟩,g1,g2,g3,g4,g5,g6⟩ ih
  have g4:(n:Int)<=a/\a<=l2:=g4
  have g5:(l2:Int)<a+f:=g5
  refine ur30 h0 h1 g1 g2 g3 g4 g5 g6 h (fun x a' cap' tot' E' q1 q2 q3 (q4:a<a') q5 q6=>ih ⟨⟨n+1,cap',tot',a',xs++[x],E',f-1⟩,mt_ g1 q1,?_,⟨q2,q3⟩,⟨?_,q5⟩,?_,q6⟩ ?_)
  ·show (xs++[x]).length=n+1
   have g2:xs.length=n:=g2
   simp [g2]
  ·show ((n+1:Nat):Int)<=a'
   omega
  ·show (l2:Int)<a'+(f-1:Nat)
   omega
  ·show l2-a'.toNat<l2-a.toNat
   omega)
 exact Lp_re [none] (key ⟨⟨0,0,0,0,[],E,zs.length+1⟩,mr_,rfl,⟨Nat.le_refl _,Nat.le_refl _⟩,⟨by show ((0:Nat):Int)<=0;omega,by show (0:Int)<=l2;omega⟩,by show (l2:Int)<0+(zs.length+1:Nat);omega,by show numsF zs=_;unfold numsF;simp⟩) (wkG mr_)
theorem flat_map:xs.flatten.map (Value.int q)=(xs.map fun x=>x.map (Value.int q)).flatten:=by
 induction xs with
 | nil=>rfl
 | cons x xs ih=>simp [ih]
noncomputable def Q5:Cx:={ P:=Tryz.prog,inl:=fun f=>List.contains [46] f,tab:=fun _ _ _ _=>False,isB:=fun _=>false,tabB:=fun _ _ _ _ _=>False,opt:={ unroll:=0,carry:=[8] },muts:=mutsD }
theorem okQ5:CxOK Q5:=CxOK.four (fun _ _ _ _ h=>h.elim) (by kernel_rfl) (okInl (by kernel_rfl)) (fun _ _ _ _ _ h=>h.elim)
def vR (xs:List (List Int)):List Value:=xs.flatten.map (.int .i64)
def W5 (xs:List (List Int)):Prop:=∀ x∈xs,x.length=5
theorem vR_len (h:W5 xs):(vR xs).length=xs.length*5:=by
 have:=flat_len (k:=5) (rs:=xs.map fun x=>x.map (Value.int .i64)) (fun r hr=>by obtain ⟨x,hx,rfl⟩:=List.mem_map.1 hr;simp [h x hx])
 rw [List.length_map] at this
 rw [← this];unfold vR;rw [flat_map]
theorem rd_V (h:W5 xs) (hx:xs[i]? =some x):
  ∃ a b c d e:Int,x=[a,b,c,d,e]/\∀ js:List Value,LoadV Tryz.prog 26 (vR xs++js) (i*5) (.agg [I a,I b,I c,I d,I e]):=by
 obtain ⟨r,h1,⟨h2,h3⟩,h4⟩:=(SLr_RK (q:=.i64) (E:=fun _ _=>False) h).get (RK_ok .i64 (by decide)) hx
 match x,h3 with
 | [a,b,c,d,e],_=>
  subst h2
  refine ⟨a,b,c,d,e,rfl,fun js=>?_⟩
  have hi:=(List.getElem?_eq_some_iff.1 hx).1
  have hl:=vR_len h
  refine loadV_row (P:=Tryz.prog) (T:=26) rfl rfl (k:=5) (r:=[a,b,c,d,e].map (Value.int .i64)) ?_ rfl
  rw [List.drop_append_of_le_length (by omega),List.take_append_of_le_length (by rw [List.length_drop];omega),← h4]
  unfold vR;rw [flat_map]
def isN (o n:Int) (x:List Int):Bool:=x.getD 0 0==o&&x.getD 1 0==n
def idxR (o n:Int) (xs:List (List Int)):Int:=match xs.findIdx? (isN o n) with
 | some i=>(i:Int)
 | none=> -1
theorem idxR_at (hx:xs[i]? =some x) (hp:isN o n x=true) (h:∀ (j:Nat) x,j<i->xs[j]? =some x->isN o n x=false):idxR o n xs=i:=by
 unfold idxR
 have :xs.findIdx? (isN o n)=some i:=by
  rw [List.findIdx?_eq_some_iff_getElem]
  obtain ⟨hi,e⟩:=List.getElem?_eq_some_iff.1 hx
  exact ⟨hi,by rw [e];exact hp,fun j hj=>by simpa using h j _ hj (List.getElem?_eq_getElem (by omega))⟩
 rw [this]
theorem idxR_no (h:∀ (j:Nat) x,xs[j]? =some x->isN o n x=false):idxR o n xs= -1:=by
 unfold idxR
 have :xs.findIdx? (isN o n)=none:=by
  rw [List.findIdx?_eq_none_iff]
  intro x hx
  obtain ⟨j,hj,rfl⟩:=List.getElem_of_mem hx
  exact h j _ (List.getElem?_eq_getElem hj)
 rw [this]
def us33 (me cnt o n:Int) (m cap tot:Nat) (xs:List (List Int)) (js:List Value) (i:Nat) (E:Mem):St:=⟨[os 1 0 m cap,some (.clo 46 [] [.loc 2 0])]++nn 5++[oI (m:Nat),oI (i:Nat)]++nn 10,[⟨50,.lst [I me,.slc 1 0 m cap,I cnt],3,true⟩,⟨26,.vals (vR xs++js),tot,true⟩,⟨82,.lst [I o,I n],2,true⟩],E⟩
theorem ur33 {cap:Nat} (h5:W5 xs) (hm:xs.length=m) (hn:m<=1000000) (hi:i<=m/\∀ (j:Nat) x,j<i->xs[j]? =some x->isN o n x=false)
  (h:KK (I (idxR o n xs)) [⟨50,.lst [I me,.slc 1 0 m cap,I cnt],3,true⟩,⟨26,.vals (vR xs++js),tot,true⟩,⟨82,.lst [I o,I n],2,true⟩] E) (hQ:∀ s bx',cloK 3 KK s bx' E->Q s bx' E)
  (ih:i<m->(∀ x,xs[i]? =some x->isN o n x=false)->Lp Q5 8 Tryz.f45 [1,0,1,0] 3 Q (us33 me cnt o n m cap tot xs js (i+1) E)):Rnd Q5 8 Tryz.f45 [1,0,1,0] 3 Q (us33 me cnt o n m cap tot xs js i E):=by
 refine sm_ (?_:bif decide ((NI i)<(NI m)) then req (0<=(NI i)/\(NI i)<(NI m)) (∃ (n_1:Int),∃ (n_2:Int),∃ (n_3:Int),∃ (n_4:Int),∃ (n_5:Int),LoadV Q5.P 26 (vR xs++js) (0+Int.toNat (NI i)*5) (SV.agg [I n_1,I n_2,I n_3,I n_4,I n_5])/\bif n_1==o&&(n_2==n&&true) then Q (I (NI i)) [⟨50,.lst [I me,SV.slc 1 0 m cap,I cnt],3,true⟩,⟨26,.vals (vR xs++js),tot,true⟩,⟨82,.lst [I o,I n],2,true⟩,⟨26,.lst [I n_1,I n_2,I n_3,I n_4,I n_5],5,true⟩] E else Lp Q5 8 Tryz.f45 [1,0,1,0] 3 Q { fr:=some (SV.slc 1 0 m cap)::some (SV.clo 46 [] [SV.loc 2 0])::none::none::none::none::none::oI (NI m)::oI (WI ((NI i)+1))::no8 (no2 []),bx:=[(⟨50,.lst [I me,SV.slc 1 0 m cap,I cnt],3,true⟩:Box),⟨26,.vals (vR xs++js),tot,true⟩,⟨82,.lst [I o,I n],2,true⟩,⟨26,.lst [I n_1,I n_2,I n_3,I n_4,I n_5],5,true⟩],E:=E:St }) else Q (I (-1)) [⟨50,.lst [I me,SV.slc 1 0 m cap,I cnt],3,true⟩,⟨26,.vals (vR xs++js),tot,true⟩,⟨82,.lst [I o,I n],2,true⟩] E)
 delta WI NI no2 no8
 refine condC (fun g=>?_) (fun g=>?_)
 ·have g:i<m:=by simpa using g
  obtain ⟨x,hx⟩:∃ x,xs[i]? =some x:=⟨_,List.getElem?_eq_getElem (by omega)⟩
  obtain ⟨a,b,c,d,e,ex,lt⟩:=rd_V h5 hx
  have en:isN o n x=(a==o&&b==n):=by rw [ex];rfl
  rw [show 0+Int.toNat (i:Int)*5=i*5 by rw [Int.toNat_natCast];omega,wrap_i64 (x:=(i:Int)+1) (by omega)]
  refine req_intro (by omega) ⟨a,b,c,d,e,lt js,condC (fun g1=>?_) (fun g1=>?_)⟩
  ·have q:idxR o n xs=(i:Int):=idxR_at hx (by rw [en];simpa using g1) hi.2
   rw [q] at h
   exact hQ _ _ (cloK_intro [some 0,some 1,some 2] h (wkG mr_))
  ·exact Lp_re [some 0,some 1,some 2] (ih g (fun y hy=>by rw [hx] at hy;cases hy;rw [en];simpa using g1)) (wkG mr_)
 ·have q:idxR o n xs= -1:=idxR_no (fun j x hx=>hi.2 j x (by have:=(List.getElem?_eq_some_iff.1 hx).1;simp at g;omega) hx)
  rw [q] at h
  exact hQ _ _ (cloK_intro [some 0,some 1,some 2] h (wkG mr_))
theorem u33 {cap:Nat} (h5:W5 xs) (hm:xs.length=m) (hn:m<=1000000) (h:KK (I (idxR o n xs)) [⟨50,.lst [I me,.slc 1 0 m cap,I cnt],3,true⟩,⟨26,.vals (vR xs++js),tot,true⟩,⟨82,.lst [I o,I n],2,true⟩] E) (hQ:∀ s bx',cloK 3 KK s bx' E->Q s bx' E):
  EntB Q5 8 Tryz.f45 [.slc 1 0 m cap,.clo 46 [] [.loc 2 0]] [⟨50,.lst [I me,.slc 1 0 m cap,I cnt],3,true⟩,⟨26,.vals (vR xs++js),tot,true⟩,⟨82,.lst [I o,I n],2,true⟩] E Q:=by
 refine sm_ (?_:Lp Q5 8 Tryz.f45 [1,0,1,0] 3 Q { fr:=[os 1 0 m cap,some (SV.clo 46 [] [SV.loc 2 0]),none,none,none,none,os 1 0 m cap,oI (↑m:Int),oI (0:Int),none,none,none,none,none,none,none,none,none,none],bx:=[(⟨50,Row.lst [I me,SV.slc 1 0 m cap,I cnt],3,true⟩:Box),⟨26,Row.vals (vR xs++js),tot,true⟩,⟨82,Row.lst [I o,I n],2,true⟩],E:=E:St })
 exact Lp_re [some 0,some 1,some 2] (Lp_ind okQ5 (fun z:{i:Nat//i<=m/\∀ (j:Nat) x,j<i->xs[j]? =some x->isN o n x=false}=>us33 me cnt o n m cap tot xs js z.1 E) (fun z=>m-z.1) (fun z ih=>ur33 h5 hm hn z.2 h hQ fun g hf=>ih ⟨z.1+1,g,fun j x hj hx=>by
  rcases Nat.lt_succ_iff_lt_or_eq.1 hj with h1|h1
  ·exact z.2.2 j x h1 hx
  ·subst h1;exact hf x hx⟩ (by show m-(_+1)<m-_;omega)) ⟨0,Nat.zero_le _,fun j x hj=>absurd hj (Nat.not_lt_zero _)⟩) (wkG mr_)
def tab33:CallT:=fun f args bx E K=>f=45/\∃ (me cnt o n:Int) (m cap tot:Nat) (xs:List (List Int)) (js:List Value),args=[.slc 1 0 m cap,.clo 46 [] [.loc 2 0]]/\bx=[⟨50,.lst [I me,.slc 1 0 m cap,I cnt],3,true⟩,⟨26,.vals (vR xs++js),tot,true⟩,⟨82,.lst [I o,I n],2,true⟩]/\W5 xs/\xs.length=m/\m<=1000000/\K (I (idxR o n xs)) [⟨50,.lst [I me,.slc 1 0 m cap,I cnt],3,true⟩,⟨26,.vals (vR xs++js),tot,true⟩,⟨82,.lst [I o,I n],2,true⟩] E
theorem tab33_ok (f:FuncId) (args:List SV) (bx:List Box) (E:Mem) (K:KT) (h:tab33 f args bx E K):CallSem Tryz.prog f args bx E K:=by
 obtain ⟨rfl,me,cnt,o,n,m,cap,tot,xs,js,rfl,rfl,h1,h2,h3,h4⟩:=h
 exact CallSem.clo (EntB.sem okQ5 Tryz.func45 ⟨by kernel_rfl,by kernel_rfl⟩ (u33 h1 h2 h3 h4 fun _ _ q=>q))
noncomputable def Q6:Cx:={ P:=Tryz.prog,inl:=fun f=>List.contains [] f,tab:=fun _ _ _ _=>False,isB:=fun f=>f==45,tabB:=tab33,opt:={ unroll:=0,carry:=[] },muts:=mutsD }
theorem okQ6:CxOK Q6:=CxOK.four (fun _ _ _ _ h=>h.elim) (by kernel_rfl) (okInl (by kernel_rfl)) tab33_ok
theorem u22 {cap:Nat} (h5:W5 xs) (hm:xs.length=m) (hn:m<=1000000) (h:KK (I (idxR o n xs)) [⟨50,.lst [I me,.slc 1 0 m cap,I cnt],3,true⟩,⟨26,.vals (vR xs++js),tot,true⟩] E) (hQ:∀ s bx',cloK 2 KK s bx' E->Q s bx' E):
  EntB Q6 8 Tryz.f22 [.loc 0 0,I o,I n] [⟨50,.lst [I me,.slc 1 0 m cap,I cnt],3,true⟩,⟨26,.vals (vR xs++js),tot,true⟩] E Q:=by
 refine sm_ (?_:45=45/\∃ (me_1:Int),∃ (cnt_1:Int),∃ (o_1:Int),∃ (n_1:Int),∃ (m_1:Nat),∃ (cap_1:Nat),∃ (tot_1:Nat),∃ (xs_1:List (List Int)),∃ (js_1:List Value),[SV.slc 1 0 m cap,SV.clo 46 [] [SV.loc 2 0]]=[SV.slc 1 0 m_1 cap_1,SV.clo 46 [] [SV.loc 2 0]]/\[(⟨50,Row.lst [I me,SV.slc 1 0 m cap,I cnt],3,true⟩:Box),⟨26,Row.vals (vR xs++js),tot,true⟩,⟨82,Row.lst [I o,I n],2,true⟩]=[(⟨50,Row.lst [I me_1,SV.slc 1 0 m_1 cap_1,I cnt_1],3,true⟩:Box),⟨26,Row.vals (vR xs_1++js_1),tot_1,true⟩,⟨82,Row.lst [I o_1,I n_1],2,true⟩]/\W5 xs_1/\List.length xs_1=m_1/\m_1<=1000000/\Q (I (idxR o_1 n_1 xs_1)) [⟨50,Row.lst [I me_1,SV.slc 1 0 m_1 cap_1,I cnt_1],3,true⟩,⟨26,Row.vals (vR xs_1++js_1),tot_1,true⟩,⟨82,Row.lst [I o_1,I n_1],2,true⟩] E)
 exact ⟨rfl,me,cnt,o,n,m,cap,tot,xs,js,rfl,rfl,h5,hm,hn,hQ _ _ (cloK_intro [some 0,some 1] h (wkG mr_))⟩
structure StAt (bx:List Box) (s h:Nat) (me cnt:Int) (m cap tot:Nat) (xs:List (List Int)) (js:List Value):Prop where
 st:bx[s]? =some ⟨50,.lst [I me,.slc h 0 m cap,I cnt],3,true⟩
 hd:bx[h]? =some ⟨26,.vals (vR xs++js),tot,true⟩
 ne:s≠h
 w5:W5 xs
 len:xs.length=m
 le:m<=16
 room:m<=cap/\cap*5<=tot
theorem set_sameB {b:Box} (h:bx[p]? =some b):bx.set p b=bx:=by
 apply List.ext_getElem?
 intro i
 rw [List.getElem?_set]
 split
 ·rename_i e;subst e
  split
  ·exact h.symm
  ·rename_i q;rw [List.getElem?_eq_none (by omega)] at h;cases h
 ·rfl
theorem find_sem {s:Nat} {cap:Nat} {K:KT} (S:StAt bx s h me cnt m cap tot xs js) (hk:K (I (idxR o n xs)) bx E):CallSem Tryz.prog 22 [.loc s 0,I o,I n] bx E K:=by
 refine CallSem.hand (σ:=[s,h]) (bxs:=[⟨50,.lst [I me,.slc 1 0 m cap,I cnt],3,true⟩,⟨26,.vals (vR xs++js),tot,true⟩]) ⟨by simp [S.ne],rfl,fun i b hb=>?_⟩ (args':=[.loc 0 0,I o,I n]) ?_ (EntB.sem okQ6 Tryz.func22 ⟨by kernel_rfl,by kernel_rfl⟩ (u22 (me:=me) (cnt:=cnt) (o:=o) (n:=n) (m:=m) (cap:=cap) (tot:=tot) S.w5 S.len (Nat.le_trans S.le (by decide)) ?_ (fun _ _ q=>q)))
 ·match i,hb with
  | 0,hb=>
   simp only [List.getElem?_cons_zero,Option.some.injEq] at hb;subst hb
   exact ⟨rfl,s,rfl,by simpa [Box.ren,Row.ren,SV.renL,SV.ren,renF] using S.st⟩
  | 1,hb=>
   simp only [List.getElem?_cons_succ,List.getElem?_cons_zero,Option.some.injEq] at hb;subst hb
   exact ⟨rfl,h,rfl,by simpa [Box.ren,Row.ren,SV.renL,SV.ren,renF] using S.hd⟩
  | j+2,hb=>simp at hb
 ·simp only [SV.renL,SV.ren,renF,List.getElem?_cons_zero,List.getElem?_cons_succ]
 ·simp only [SV.ren,SV.renL,merge,setAll,List.take,List.drop,List.map,List.length_cons,List.length_nil,Box.ren,Row.ren,renF,List.getElem?_cons_zero,List.getElem?_cons_succ]
  rw [set_sameB S.st,set_sameB S.hd]
  simpa using hk
noncomputable def Q9:Cx:={ P:=Tryz.prog,inl:=fun f=>List.contains [] f,tab:=fun _ _ _ _=>False,isB:=fun _=>false,tabB:=fun _ _ _ _ _=>False,opt:={ unroll:=0,carry:=[5] },muts:=mutsD }
theorem okQ9:CxOK Q9:=CxOK.four (fun _ _ _ _ h=>h.elim) (by kernel_rfl) (okInl (by kernel_rfl)) (fun _ _ _ _ _ h=>h.elim)
theorem vR_snoc (h5:W5 ys) (hm:ys.length=m):List.take (m*5) (vR ys)++x.map (Value.int .i64)=vR (ys++[x]):=by
 rw [List.take_of_length_le (by rw [vR_len h5,hm];exact Nat.le_refl _)]
 unfold vR;simp
theorem vR_cells (h5:W5 ys) (hm:ys.length=m):m*5<=(Row.cells (Row.vals (vR ys))).length:=by
 show m*5<=((vR ys).map SV.raw).length
 rw [List.length_map,vR_len h5,hm];exact Nat.le_refl _
theorem vR_cellsJ (h5:W5 ys) (hm:ys.length=m):m*5<=(Row.cells (Row.vals (vR ys++js))).length:=by
 show m*5<=((vR ys++js).map SV.raw).length
 rw [List.length_map,List.length_append,vR_len h5,hm];exact Nat.le_add_right _ _
theorem W5.snoc (h:W5 ys) (q:x.length=5):W5 (ys++[x]):=fun y hy=>(List.mem_append.1 hy).elim (h y) fun e=>by rw [List.mem_singleton.1 e];exact q
theorem vR_win {base:Option Addr} {cap:Nat} (h5:W5 ys) (hm:ys.length=m) (hc:m<=cap) (w:WinE E base (vR ys)):SL (RK .i64 5) E (base.map fun x=>x.add 0) m cap ys:=
 SL.win (RK_ok .i64 (by decide)) w (rs:=ys.map fun x:List Int=>x.map (Value.int .i64)) (show vR ys=_ from flat_map) (SLr_RK h5) hm hc
theorem filter_take {p:List Int->Bool} (h:xs[i]? =some x):(xs.take (i+1)).filter p=if p x then (xs.take i).filter p++[x] else (xs.take i).filter p:=by
 rw [take_get' h,List.filter_append]
 cases q:p x<;>simp [q]
def us27 (b d:Option Addr) (l c m e i:Nat) (E:Mem):St:=⟨[oL b l c,oL d m e,none,none,none,oI (i:Nat)]++nn 20,[],E⟩
theorem ur27 {d:Option Addr} {e:Nat} (h0:SL (RK .i64 5) E b l c xs) (h1:SL (RK .i64 5) E d m e ys) (hn:l<=1000000) (hlm:l=m) (hi:i<=l/\xs.take i=ys.take i) (h:K (B (decide (xs=ys))) E)
  (ih:i<l->xs.take (i+1)=ys.take (i+1)->Lp Q9 8 Tryz.f7 [1,1,0,1,0] 0 (pubK E K) (us27 b d l c m e (i+1) E)):Rnd Q9 8 Tryz.f7 [1,1,0,1,0] 0 (pubK E K) (us27 b d l c m e i E):=by
 refine sm_ (?_:bif decide ((NI i)<(NI l)) then req (0<=(NI i)/\(NI i)<(NI l)) (nE E b l c/\∃ (n:Int),∃ (n_1:Int),∃ (n_2:Int),∃ (n_3:Int),∃ (n_4:Int),LoadE Q9.P E 26 (VS b l c) (Int.toNat (NI i)*5) (SV.agg [I n,I n_1,I n_2,I n_3,I n_4])/\req (0<=(NI i)/\(NI i)<(NI m)) (nE E d m e/\∃ (n_5:Int),∃ (n_6:Int),∃ (n_7:Int),∃ (n_8:Int),∃ (n_9:Int),LoadE Q9.P E 26 (VS d m e) (Int.toNat (NI i)*5) (SV.agg [I n_5,I n_6,I n_7,I n_8,I n_9])/\bif !(n==n_5&&(n_1==n_6&&(n_2==n_7&&(n_3==n_8&&(n_4==n_9&&true))))) then Mem.le E E/\K (B false) E else Lp Q9 8 Tryz.f7 [1,1,0,1,0] 0 (pubK E K) { fr:=some (L b l c)::oL d m e::none::none::none::oI (WI ((NI i)+1))::no16 (no4 []),bx:=[],E:=E:St })) else Mem.le E E/\K (B true) E)
 delta WI NI VS no4 no16
 have hl:=h0.len
 have hl2:=h1.len
 refine condC (fun g=>?_) (fun g=>⟨mr_,?_⟩)
 ·have g:i<l:=by simpa using g
  obtain ⟨x,hx⟩:∃ x,xs[i]? =some x:=⟨_,List.getElem?_eq_getElem (by omega)⟩
  obtain ⟨y,hy⟩:∃ y,ys[i]? =some y:=⟨_,List.getElem?_eq_getElem (by omega)⟩
  obtain ⟨a0,a1,a2,a3,a4,ex,l5⟩:=rowK5 (T:=26) h0 rfl rfl hx
  obtain ⟨b0,b1,b2,b3,b4,ey,m5⟩:=rowK5 (T:=26) h1 rfl rfl hy
  rw [Int.toNat_natCast,wrap_i64 (x:=(i:Int)+1) (by omega)]
  refine req_intro (by omega) ⟨SL.ne (RK_ok .i64 (by decide)) h0 g,a0,a1,a2,a3,a4,l5,req_intro (by omega) ⟨SL.ne (RK_ok .i64 (by decide)) h1 (show i<m by omega),b0,b1,b2,b3,b4,m5,condC (fun q=>⟨mr_,?_⟩) (fun q=>?_)⟩⟩
  ·rw [decide_eq_false (fun e=>by rw [e,hy] at hx;cases hx;rw [ex] at ey;cases ey;simp at q)] at h
   exact h
  ·have e:x=y:=by simp at q;rw [ex,ey];simp [q]
   exact Lp_re [] (ih g (by rw [take_get' hx,take_get' hy,hi.2,e])) (wkG mr_)
 ·have g:¬ i<l:=by simpa using g
  have e:xs=ys:=by have:=hi.2;rwa [List.take_of_length_le (by omega),List.take_of_length_le (by omega)] at this
  rw [decide_eq_true e] at h;exact h
theorem c27 {b4:Option Addr} {l5:Nat} {c6:Nat} (h0:SL (RK .i64 5) E b1 l2 c3 xs) (h1:SL (RK .i64 5) E b4 l5 c6 ys) (h2:l2<=1000000) (h:K (B (decide (xs=ys))) E):
  Ent Q9 8 Tryz.f7 [L b1 l2 c3,L b4 l5 c6] E K:=by
 refine sm_ (?_:bif (NI l2) !=(NI l5) then Mem.le E E/\K (B false) E else Lp Q9 8 Tryz.f7 [1,1,0,1,0] 0 (pubK E K) { fr:=some (L b1 l2 c3)::oL b4 l5 c6::none::none::none::oI 0::oL b1 l2 c3::oI (NI l2)::oL b4 l5 c6::oI (NI l5)::oB ((NI l2) !=(NI l5))::no8 (no4 (no2 (none::[]))),bx:=[],E:=E:St })
 delta NI no2 no4 no8
 have hl:=h0.len
 have hl2:=h1.len
 refine condC (fun g=>⟨mr_,?_⟩) (fun g=>?_)
 ·rw [decide_eq_false (fun e=>by subst e;simp at g;omega)] at h;exact h
 ·have g:l2=l5:=by simp at g;omega
  exact Lp_re [] (Lp_ind okQ9 (fun z:{i:Nat//i<=l2/\xs.take i=ys.take i}=>us27 b1 b4 l2 c3 l5 c6 z.1 E) (fun z=>l2-z.1) (fun z ih=>ur27 h0 h1 h2 g z.2 h fun q e=>ih ⟨z.1+1,q,e⟩ (by show l2-(_+1)<l2-_;omega)) ⟨0,Nat.zero_le _,rfl⟩) (wkG mr_)
noncomputable def QA:Cx:={ P:=Tryz.prog,inl:=fun f=>List.contains [] f,tab:=fun _ _ _ _=>False,isB:=fun _=>false,tabB:=fun _ _ _ _ _=>False,opt:={ unroll:=0,carry:=[] },muts:=mutsD }
theorem okQA:CxOK QA:=CxOK.four (fun _ _ _ _ h=>h.elim) (by kernel_rfl) (okInl (by kernel_rfl)) (fun _ _ _ _ _ h=>h.elim)
theorem vR_app (xs ys:List (List Int)):vR (xs++ys)=vR xs++vR ys:=by unfold vR;simp
theorem vR_take (h5:W5 xs) (ha:a<=xs.length) (js:List Value):List.take (a*5) (vR xs++js)=vR (xs.take a):=by
 have e:xs=xs.take a++xs.drop a:=(List.take_append_drop a xs).symm
 have hl:(vR (xs.take a)).length=a*5:=by rw [vR_len (fun x hx=>h5 x (List.mem_of_mem_take hx)),List.length_take];congr 1;omega
 conv=>lhs;rw [e,vR_app,List.append_assoc]
 rw [List.take_append_of_le_length (by omega),List.take_of_length_le (by omega)]
theorem vR_drop (h5:W5 xs) (ha:a<=xs.length) (js:List Value):List.drop (a*5) (vR xs++js)=vR (xs.drop a)++js:=by
 have e:xs=xs.take a++xs.drop a:=(List.take_append_drop a xs).symm
 have hl:(vR (xs.take a)).length=a*5:=by rw [vR_len (fun x hx=>h5 x (List.mem_of_mem_take hx)),List.length_take];congr 1;omega
 conv=>lhs;rw [e,vR_app,List.append_assoc]
 rw [List.drop_append_of_le_length (by omega),List.drop_of_length_le (by omega),List.nil_append]
theorem vR_one (hj:∀ v∈js,v.oneCell'=true):∀ v:Value,List.Mem v (vR xs++js)->v.oneCell'=true:=fun v hv=>by
 rcases List.mem_append.1 hv with q|q
 ·unfold vR at q;obtain ⟨z,_,rfl⟩:=List.mem_map.1 q;rfl
 ·exact hj v q
theorem W5.erase (h:W5 xs) (a:Nat):W5 (xs.eraseIdx a):=fun x hx=>h x (List.mem_of_mem_eraseIdx hx)
abbrev z5:List Value:=[.int .i64 0,.int .i64 0,.int .i64 0,.int .i64 0,.int .i64 0]
theorem u42 {cap:Nat} (h5:W5 xs) (hm:xs.length=m) (hn:m<=16) (ha:a<m) (hc:m<=cap/\cap*5<=tot) (hj:∀ v∈js,v.oneCell'=true)
  (h:∀ cap' tot':Nat,m<=cap'->cap'*5<=tot'->KK (.slc 1 0 (m-1) cap') [⟨26,.lst [],0,false⟩,⟨26,.vals (vR (xs.eraseIdx a)++z5),tot',true⟩] E) (hQ:∀ s bx',cloK 1 KK s bx' E->Q s bx' E):
  EntB QA 8 Tryz.f59 [.slc 0 0 m cap,I (a:Nat),I ((a+1:Nat):Int)] [⟨26,.vals (vR xs++js),tot,true⟩] E Q:=by
 refine sm_ (?_:req (0<=(NI m)/\(NI m)<=(NI cap)) (req (0<=(NI (a+1))/\(NI (a+1))<=(NI (toN (some (NI m)) cap))) (req (0<=(NI a)/\(NI a)<=(NI (toN (some (NI (a+1))) m))) (bif (NI a)==(NI (a+1)) then Q (SV.slc 0 0 m cap) [⟨26,.vals (vR xs++js),tot,true⟩] E else req (0<=(NI a)/\(NI a)<=(NI (toN none cap))) (req (0<=(NI (a+1))/\(NI (a+1))<=(NI (toN none m))) ((if toN none cap=toN (some (NI (a+1))) 0 then 0 else 0+toN (some (NI (a+1))) 0*5)+(toN none m-toN (some (NI (a+1))) 0)*5<=List.length (vR xs++js)/\(∀ (x:Value),List.Mem x (vR xs++js)->Value.oneCell' x=true)/\req ((if toN none cap=0 then 0 else 0)=0) ((toN (some (NI a)) m-0)*5<=List.length (Row.cells (Row.vals (vR xs++js)))/\(toN none cap-0)*5<=tot/\toN (some (NI a)) m-0<=toN none cap-0/\req ((toN (some (NI a)) m-0+(toN none m-toN (some (NI (a+1))) 0))*40<=140737488355328) (∀ (cap' tot':Nat),toN (some (NI a)) m-0+(toN none m-toN (some (NI (a+1))) 0)<=cap'->cap'*5<=tot'->toN none cap-0<=cap'->req (0<=(NI m)/\(NI m)<=(NI (toN none cap'))) (req (0<=(NI (toN (some (NI a)) m-0+(toN none m-toN (some (NI (a+1))) 0)))/\(NI (toN (some (NI a)) m-0+(toN none m-toN (some (NI (a+1))) 0)))<=(NI (toN (some (NI m)) (toN (some (NI a)) m-0+(toN none m-toN (some (NI (a+1))) 0))))) ((if toN none cap'=toN (some (NI (toN (some (NI a)) m-toN none 0+(toN none m-toN (some (NI (a+1))) 0)))) 0 then 0 else 0+toN (some (NI (toN (some (NI a)) m-toN none 0+(toN none m-toN (some (NI (a+1))) 0)))) 0*5)<=List.length (List.take ((toN (some (NI a)) m-0)*5) (vR xs++js)++List.take ((toN none m-toN (some (NI (a+1))) 0)*5) (List.drop (if toN none cap=toN (some (NI (a+1))) 0 then 0 else 0+toN (some (NI (a+1))) 0*5) (vR xs++js)))/\(if toN none cap'=toN (some (NI (toN (some (NI a)) m-toN none 0+(toN none m-toN (some (NI (a+1))) 0)))) 0 then 0 else 0+toN (some (NI (toN (some (NI a)) m-toN none 0+(toN none m-toN (some (NI (a+1))) 0)))) 0*5)+(toN (some (NI m)) (toN (some (NI a)) m-0+(toN none m-toN (some (NI (a+1))) 0))-toN (some (NI (toN (some (NI a)) m-toN none 0+(toN none m-toN (some (NI (a+1))) 0)))) 0)*5<=tot'/\Q (SV.slc 1 0 (toN (some (NI a)) m-0+(toN none m-toN (some (NI (a+1))) 0)) cap') [⟨26,.lst [],0,false⟩,⟨26,.vals (layV (List.take ((toN (some (NI a)) m-0)*5) (vR xs++js)++List.take ((toN none m-toN (some (NI (a+1))) 0)*5) (List.drop (if toN none cap=toN (some (NI (a+1))) 0 then 0 else 0+toN (some (NI (a+1))) 0*5) (vR xs++js))) (if toN none cap'=toN (some (NI (toN (some (NI a)) m-toN none 0+(toN none m-toN (some (NI (a+1))) 0)))) 0 then 0 else 0+toN (some (NI (toN (some (NI a)) m-toN none 0+(toN none m-toN (some (NI (a+1))) 0)))) 0*5) (zerosV [Value.int IntKind.i64 0,Value.int IntKind.i64 0,Value.int IntKind.i64 0,Value.int IntKind.i64 0,Value.int IntKind.i64 0] (toN (some (NI m)) (toN (some (NI a)) m-0+(toN none m-toN (some (NI (a+1))) 0))-toN (some (NI (toN (some (NI a)) m-toN none 0+(toN none m-toN (some (NI (a+1))) 0)))) 0))),tot',true⟩] E))))))))))
 delta NI
 have hl:=vR_len h5
 have e1:List.take (a*5) (vR xs++js)=vR (xs.take a):=vR_take h5 (by omega) js
 have e2:List.take ((m-(a+1))*5) (List.drop (if cap=a+1 then 0 else 0+(a+1)*5) (vR xs++js))=vR (xs.drop (a+1)):=by
  by_cases q:cap=a+1
  ·rw [show m-(a+1)=0 by omega,List.drop_of_length_le (l:=xs) (by omega)];simp [vR]
  ·rw [if_neg q,Nat.zero_add,vR_drop h5 (by omega),List.take_append_of_le_length,List.take_of_length_le]
   ·rw [vR_len (fun x hx=>h5 x (List.mem_of_mem_drop hx)),List.length_drop,hm];exact Nat.le_refl _
   ·rw [vR_len (fun x hx=>h5 x (List.mem_of_mem_drop hx)),List.length_drop,hm];exact Nat.le_refl _
 have e3:vR (xs.take a)++vR (xs.drop (a+1))=vR (xs.eraseIdx a):=by rw [List.eraseIdx_eq_take_drop_succ,vR_app]
 have hle:(vR (xs.eraseIdx a)).length=(m-1)*5:=by rw [vR_len (h5.erase a),List.length_eraseIdx,hm,if_pos ha]
 have t1:∀ c:Nat,toN none c=c:=fun c=>by cases c<;>rfl
 have t2:∀ (k c:Nat),toN (some (k:Int)) c=k:=fun k c=>by unfold toN;exact Int.toNat_natCast k
 simp only [t1,t2,Nat.sub_zero]
 rw [e1,e2,e3]
 refine req_intro (by omega) (req_intro (by omega) (req_intro (by omega) (condC (fun q=>absurd q (by simp;omega)) (fun _=>req_intro (by omega) (req_intro (by omega) ⟨?_,vR_one hj,req_intro (by simp) ⟨?_,hc.2,by omega,req_intro (by omega) fun cap' tot' g1 g2 g3=>req_intro (by omega) (req_intro (by omega) ⟨?_,?_,?_⟩)⟩⟩)))))
 ·split
  ·simp;omega
  ·simp;omega
 ·show a*5<=((vR xs++js).map SV.raw).length
  simp;omega
 ·rw [if_neg (by omega)];omega
 ·rw [if_neg (by omega)];omega
 ·rw [if_neg (show ¬ cap'=a+(m-(a+1)) by omega),show m-(a+(m-(a+1)))=1 by omega,show a+(m-(a+1))=m-1 by omega,Nat.zero_add]
  have e4:layV (vR (xs.eraseIdx a)) ((m-1)*5) (zerosV [Value.int .i64 0,Value.int .i64 0,Value.int .i64 0,Value.int .i64 0,Value.int .i64 0] 1)=vR (xs.eraseIdx a)++z5:=by
   unfold layV
   rw [List.take_of_length_le (by omega),List.drop_of_length_le (by omega)]
   simp [zerosV]
  rw [e4]
  exact hQ _ _ (cloK_intro [some 0,some 1] (h cap' tot' (by omega) g2) (wkG mr_ (h6:=(by repeat' first|exact True.intro|exact rfl|exact Or.inl rfl|exact (by decide:0<2)|refine And.intro ?_ ?_))))
def tabAP:CallT:=fun f args bx E K=>match f with
 | 22=>∃ (s h:Nat) (me cnt o n:Int) (m cap tot:Nat) (xs:List (List Int)) (js:List Value),args=[.loc s 0,I o,I n]/\StAt bx s h me cnt m cap tot xs js/\K (I (idxR o n xs)) bx E
 | 59=>d3 args fun x0 x1 x2=>dI x1 fun p=>dI x2 fun q=>(match x0 with | .slc b 0 m cap=>∃ (a tot:Nat) (xs:List (List Int)) (js:List Value),bx[b]? =some ⟨26,.vals (vR xs++js),tot,true⟩/\(p=(a:Int)/\q=((a+1:Nat):Int))/\W5 xs/\xs.length=m/\m<=16/\a<m/\(m<=cap/\cap*5<=tot)/\(∀ v∈js,v.oneCell'=true)/\(∀ cap' tot':Nat,m<=cap'->cap'*5<=tot'->K (.slc bx.length 0 (m-1) cap') (bx.set b ⟨26,.lst [],0,false⟩++[⟨26,.vals (vR (xs.eraseIdx a)++z5),tot',true⟩]) E)|_=>False)
 | _=>False
theorem tabAP_ok (f:FuncId) (args:List SV) (bx:List Box) (E:Mem) (K:KT) (h:tabAP f args bx E K):CallSem Tryz.prog f args bx E K:=by
 unfold tabAP at h
 split at h
 ·obtain ⟨s,h0,me,cnt,o,n,m,cap,tot,xs,js,rfl,h1,h2⟩:=h
  exact find_sem h1 h2
 ·replace h:=d3_elim h
  obtain ⟨x0,x1,x2,rfl,h⟩:=h
  replace h:=dI_elim h
  obtain ⟨p,rfl,h⟩:=h
  replace h:=dI_elim h
  obtain ⟨q,rfl,h⟩:=h
  split at h
  case h_2=>exact h.elim
  rename_i b m cap
  obtain ⟨a,tot,xs,js,h1,⟨rfl,rfl⟩,h2,h3,h4,h5,h6,h7,h8⟩:=h
  exact CallSem.own1 h1 (by rfl) (EntB.sem okQA Tryz.func59 ⟨by kernel_rfl,by kernel_rfl⟩ (u42 h2 h3 h4 h5 h6 h7 (fun cap' tot' q1 q2=>⟨_,_,_,_,rfl,rfl,h8 cap' tot' q1 q2⟩) (fun _ _ q=>q)))
 ·exact h.elim
noncomputable def tab21:FuncId->List SV->Mem->(SV->Mem->Prop)->Prop:=fun f args E K=>match f with
 | 21=>d1 args fun x0=>dC x0 fun l1=>d5 l1 fun x0_0 x0_1 x0_2 x0_3 x0_4=>dI x0_0 fun a1=>dI x0_1 fun a2=>dI x0_2 fun a3=>dI x0_3 fun a4=>dI x0_4 fun a5=>(K (B (okR a1 a2 a3 a4 a5)) E)
 | _=>False
theorem tab21_ok:TabOK Tryz.prog tab21:=by
 intro f args E K h
 unfold tab21 at h
 split at h
 ·replace h:=d1_elim h
  obtain ⟨x0,rfl,h⟩:=h
  replace h:=dC_elim h
  obtain ⟨l1,hl1,h⟩:=h
  replace h:=d5_elim h
  obtain ⟨x0_0,x0_1,x0_2,x0_3,x0_4,rfl,h⟩:=h
  replace h:=dI_elim h
  obtain ⟨a1,rfl,h⟩:=h
  replace h:=dI_elim h
  obtain ⟨a2,rfl,h⟩:=h
  replace h:=dI_elim h
  obtain ⟨a3,rfl,h⟩:=h
  replace h:=dI_elim h
  obtain ⟨a4,rfl,h⟩:=h
  replace h:=dI_elim h
  obtain ⟨a5,rfl,h⟩:=h
  exact TabSem.congr (valL_cons (asCells_val hl1) rfl) (Ent.sem okQ1 Tryz.func21 ⟨by kernel_rfl,by kernel_rfl⟩ rfl (c21 h))
 ·exact h.elim
noncomputable def QB:Cx:={ P:=Tryz.prog,inl:=fun f=>List.contains [36,58] f,tab:=tab21,isB:=fun f=>f==22||f==59,tabB:=tabAP,opt:={ unroll:=0,carry:=[] },muts:=(fun o=>match o with | .call { args:=#[.tmp 79,.tmp 82,.tmp 85],.. }=>true|o=>mutsD o) }
theorem okQB:CxOK QB:=CxOK.four tab21_ok (by kernel_rfl) (okInl (by kernel_rfl)) tabAP_ok
def mx (n c:Int):Int:=if n>c then n else c
def appF (me:Int) (st:List (List Int)×Int) (ns:List Int):Option (List (List Int)×Int):=
 if ns.length=6/\ns.getD 0 0=1 then
  (if okR (ns.getD 1 0) (ns.getD 2 0) (ns.getD 3 0) (ns.getD 4 0) (ns.getD 5 0)=true/\idxR (ns.getD 1 0) (ns.getD 2 0) st.1<0/\st.1.length≠16 then
   some (st.1++[[ns.getD 1 0,ns.getD 2 0,ns.getD 3 0,ns.getD 4 0,ns.getD 5 0]],if ns.getD 1 0=me then mx (ns.getD 2 0) st.2 else st.2) else none)
 else if ns.length=3/\ns.getD 0 0=2 then
  (if 0<=idxR (ns.getD 1 0) (ns.getD 2 0) st.1 then some (st.1.eraseIdx (idxR (ns.getD 1 0) (ns.getD 2 0) st.1).toNat,st.2) else none)
 else if ns.length=2/\ns.getD 0 0=3/\1<=ns.getD 1 0/\ns.getD 1 0<=1000000000 then some (st.1,mx (ns.getD 1 0) st.2) else none
theorem IS_load (h:SL (RK .i64 1) E b l c (ns.map fun z=>[z])) (hi:i<l):LoadE Tryz.prog E 3 (.slice b l c) i (.raw (.int .i64 (ns.getD i 0))):=by
 have hl:ns.length=l:=by have:=h.len;simpa using this
 have:=RK_load (by decide) (T:=3) (k:=1) rfl h (x:=[ns.getD i 0]) (i:=i) (by rw [List.getElem?_map,List.getElem?_eq_getElem (by omega),List.getD_eq_getElem?_getD,List.getElem?_eq_getElem (by omega)];rfl) 0 (by decide)
 rw [show i*1+0=i by omega] at this
 exact this
theorem idxR_b (o n:Int) (xs:List (List Int)): -1<=idxR o n xs/\idxR o n xs<xs.length\/xs=[]/\idxR o n xs= -1:=by
 unfold idxR
 cases q:xs.findIdx? (isN o n) with
 | none=>cases xs with
  | nil=>exact .inr ⟨rfl,rfl⟩
  | cons x xs=>exact .inl ⟨Int.le_refl _,by show (-1:Int)<_;omega⟩
 | some i=>
  obtain ⟨hi,_⟩:=List.findIdx?_eq_some_iff_getElem.1 q
  refine .inl ⟨?_,?_⟩
  ·show (-1:Int)<=(i:Int);omega
  ·show (i:Int)<_;omega
theorem u31 {cap:Nat} {lb:Option Addr} {ln lc:Nat} (hl:SL (RK .i64 1) E lb ln lc (ns.map fun z=>[z])) (S:StAt [⟨50,.lst [I me,.slc 1 0 m cap,I cnt],3,true⟩,⟨26,.vals (vR xs++js),tot,true⟩] 0 1 me cnt m cap tot xs js) (hj:∀ v∈js,v.oneCell'=true)
  (hF:appF me (xs,cnt) ns=none->KK (B false) [⟨50,.lst [I me,.slc 1 0 m cap,I cnt],3,true⟩,⟨26,.vals (vR xs++js),tot,true⟩] E)
  (h1:∀ c:Int,appF me (xs,cnt) ns=some (xs,c)->KK (B true) [⟨50,.lst [I me,.slc 1 0 m cap,I c],3,true⟩,⟨26,.vals (vR xs++js),tot,true⟩] E)
  (h2:∀ (ys:List (List Int)) (c:Int) (cap' tot':Nat) (js':List Value),appF me (xs,cnt) ns=some (ys,c)->ys.length<=cap'->cap'*5<=tot'->(∀ v∈js',v.oneCell'=true)->W5 ys->ys.length<=16->KK (B true) [⟨50,.lst [I me,.slc 2 0 ys.length cap',I c],3,true⟩,⟨26,.lst [],0,false⟩,⟨26,.vals (vR ys++js'),tot',true⟩] E)
  (hQ:∀ s bx',cloK 2 KK s bx' E->Q s bx' E):
  EntB QB 8 Tryz.f39 [.loc 0 0,L lb ln lc] [⟨50,.lst [I me,.slc 1 0 m cap,I cnt],3,true⟩,⟨26,.vals (vR xs++js),tot,true⟩] E Q:=by
 refine sm_ (?_:bif (NI ln)==6 then req ((0:Int)<=(0:Int)/\0<(NI ln)) (nE E lb ln lc/\∃ (n:Int),LoadE QB.P E 3 (VS lb ln lc) 0 (I n)/\bif bif true then n==(1:Int) else false then req ((0:Int)<=(1:Int)/\1<(NI ln)) (nE E lb ln lc/\∃ (n:Int),LoadE QB.P E 3 (VS lb ln lc) 1 (I n)/\req ((0:Int)<=(2:Int)/\2<(NI ln)) (nE E lb ln lc/\∃ (n_1:Int),LoadE QB.P E 3 (VS lb ln lc) 2 (I n_1)/\req ((0:Int)<=(3:Int)/\3<(NI ln)) (nE E lb ln lc/\∃ (n_2:Int),LoadE QB.P E 3 (VS lb ln lc) 3 (I n_2)/\req ((0:Int)<=(4:Int)/\4<(NI ln)) (nE E lb ln lc/\∃ (n_3:Int),LoadE QB.P E 3 (VS lb ln lc) 4 (I n_3)/\req ((0:Int)<=(5:Int)/\5<(NI ln)) (nE E lb ln lc/\∃ (n_4:Int),LoadE QB.P E 3 (VS lb ln lc) 5 (I n_4)/\Mem.le E E/\bif !okR n n_1 n_2 n_3 n_4 then Q (B false) [⟨50,.lst [I me,SV.slc 1 0 m cap,I cnt],3,true⟩,⟨26,.vals (vR xs++js),tot,true⟩,⟨26,.lst [I n,I n_1,I n_2,I n_3,I n_4],5,true⟩] E else ∃ (s:Nat),∃ (h:Nat),∃ (me_1:Int),∃ (cnt_1:Int),∃ (o:Int),∃ (n_5:Int),∃ (m_1:Nat),∃ (cap_1:Nat),∃ (tot_1:Nat),∃ (xs_1:List (List Int)),∃ (js_1:List Value),[SV.loc 0 0,I n,I n_1]=[SV.loc s 0,I o,I n_5]/\StAt [⟨50,.lst [I me,SV.slc 1 0 m cap,I cnt],3,true⟩,⟨26,.vals (vR xs++js),tot,true⟩,⟨26,.lst [I n,I n_1,I n_2,I n_3,I n_4],5,true⟩] s h me_1 cnt_1 m_1 cap_1 tot_1 xs_1 js_1/\bif bif false then true else decide (idxR o n_5 xs_1>=(0:Int)) then Q (B false) [⟨50,.lst [I me,SV.slc 1 0 m cap,I cnt],3,true⟩,⟨26,.vals (vR xs++js),tot,true⟩,⟨26,.lst [I n,I n_1,I n_2,I n_3,I n_4],5,true⟩] E else bif bif false then true else (NI m)==16 then Q (B false) [⟨50,.lst [I me,SV.slc 1 0 m cap,I cnt],3,true⟩,⟨26,.vals (vR xs++js),tot,true⟩,⟨26,.lst [I n,I n_1,I n_2,I n_3,I n_4],5,true⟩] E else m*5<=List.length (Row.cells (Row.vals (vR xs++js)))/\cap*5<=tot/\m<=cap/\req ((m+1)*40<=140737488355328) (∀ (cap' tot':Nat),m+1<=cap'->cap'*5<=tot'->bif n==me then Q (B true) [⟨(50:Nat),Row.lst [I me,SV.slc 4 0 (m+(1:Nat)) cap',I (if n_1>cnt then n_1 else cnt)],3,true⟩,⟨(26:Nat),Row.lst [],0,false⟩,⟨(26:Nat),Row.lst [I n,I n_1,I n_2,I n_3,I n_4],5,true⟩,⟨(26:Nat),Row.lst [I n,I n_1,I n_2,I n_3,I n_4],5,true⟩,⟨(26:Nat),Row.vals (List.take (m*(5:Nat)) (vR xs++js)++[Value.int IntKind.i64 n,Value.int IntKind.i64 n_1,Value.int IntKind.i64 n_2,Value.int IntKind.i64 n_3,Value.int IntKind.i64 n_4]),tot',true⟩] E else Q (B true) [⟨(50:Nat),Row.lst [I me,SV.slc 4 0 (m+(1:Nat)) cap',I cnt],3,true⟩,⟨(26:Nat),Row.lst [],0,false⟩,⟨(26:Nat),Row.lst [I n,I n_1,I n_2,I n_3,I n_4],5,true⟩,⟨(26:Nat),Row.lst [I n,I n_1,I n_2,I n_3,I n_4],5,true⟩,⟨(26:Nat),Row.vals (List.take (m*(5:Nat)) (vR xs++js)++[Value.int IntKind.i64 n,Value.int IntKind.i64 n_1,Value.int IntKind.i64 n_2,Value.int IntKind.i64 n_3,Value.int IntKind.i64 n_4]),tot',true⟩] E)))))) else bif (NI ln)==3 then req ((0:Int)<=(0:Int)/\0<(NI ln)) (nE E lb ln lc/\∃ (n:Int),LoadE QB.P E 3 (VS lb ln lc) 0 (I n)/\bif bif true then n==(2:Int) else false then req ((0:Int)<=(1:Int)/\1<(NI ln)) (nE E lb ln lc/\∃ (n:Int),LoadE QB.P E 3 (VS lb ln lc) 1 (I n)/\req ((0:Int)<=(2:Int)/\2<(NI ln)) (nE E lb ln lc/\∃ (n_1:Int),LoadE QB.P E 3 (VS lb ln lc) 2 (I n_1)/\∃ (s:Nat),∃ (h:Nat),∃ (me_1:Int),∃ (cnt_1:Int),∃ (o:Int),∃ (n_2:Int),∃ (m_1:Nat),∃ (cap_1:Nat),∃ (tot_1:Nat),∃ (xs_1:List (List Int)),∃ (js_1:List Value),[SV.loc 0 0,I n,I n_1]=[SV.loc s 0,I o,I n_2]/\StAt [⟨50,.lst [I me,SV.slc 1 0 m cap,I cnt],3,true⟩,⟨26,.vals (vR xs++js),tot,true⟩] s h me_1 cnt_1 m_1 cap_1 tot_1 xs_1 js_1/\bif decide (idxR o n_2 xs_1<(0:Int)) then Q (B false) [⟨50,.lst [I me,SV.slc 1 0 m cap,I cnt],3,true⟩,⟨26,.vals (vR xs++js),tot,true⟩] E else ∃ (a:Nat),∃ (tot_2:Nat),∃ (xs_2:List (List Int)),∃ (js_2:List Value),some (⟨26,.vals (vR xs++js),tot,true⟩:Box)=some (⟨26,.vals (vR xs_2++js_2),tot_2,true⟩:Box)/\(idxR o n_2 xs_1=(NI a)/\WI (idxR o n_2 xs_1+(1:Int))=(NI (a+1)))/\W5 xs_2/\List.length xs_2=m/\m<=16/\a<m/\(m<=cap/\cap*5<=tot_2)/\(∀ (v:Value),List.Mem v js_2->Value.oneCell' v=true)/\∀ (cap' tot':Nat),m<=cap'->cap'*5<=tot'->Q (B true) [⟨50,.lst [I me,SV.slc 2 0 (m-(1:Nat)) cap',I cnt],3,true⟩,⟨26,.lst [],0,false⟩,⟨26,.vals (vR (List.eraseIdx xs_2 a)++z5),tot',true⟩] E)) else bif (NI ln)==2 then req ((0:Int)<=(0:Int)/\0<(NI ln)) (nE E lb ln lc/\∃ (n:Int),LoadE QB.P E 3 (VS lb ln lc) 0 (I n)/\bif bif true then n==(3:Int) else false then req ((0:Int)<=(1:Int)/\1<(NI ln)) (nE E lb ln lc/\∃ (n:Int),LoadE QB.P E 3 (VS lb ln lc) 1 (I n)/\bif decide (n>=(1:Int)) then Mem.le E E/\bif bif true then bif true then decide (n<=(1000000000:Int)) else false else false then req ((0:Int)<=(1:Int)/\1<(NI ln)) (nE E lb ln lc/\∃ (n:Int),LoadE QB.P E 3 (VS lb ln lc) 1 (I n)/\Q (B true) [⟨50,.lst [I me,SV.slc 1 0 m cap,I (if n>cnt then n else cnt)],3,true⟩,⟨26,.vals (vR xs++js),tot,true⟩] E) else Q (B false) [⟨50,.lst [I me,SV.slc 1 0 m cap,I cnt],3,true⟩,⟨26,.vals (vR xs++js),tot,true⟩] E else Mem.le E E/\Q (B false) [⟨50,.lst [I me,SV.slc 1 0 m cap,I cnt],3,true⟩,⟨26,.vals (vR xs++js),tot,true⟩] E) else Q (B false) [⟨50,.lst [I me,SV.slc 1 0 m cap,I cnt],3,true⟩,⟨26,.vals (vR xs++js),tot,true⟩] E) else Q (B false) [⟨50,.lst [I me,SV.slc 1 0 m cap,I cnt],3,true⟩,⟨26,.vals (vR xs++js),tot,true⟩] E) else bif (NI ln)==2 then req ((0:Int)<=(0:Int)/\0<(NI ln)) (nE E lb ln lc/\∃ (n:Int),LoadE QB.P E 3 (VS lb ln lc) 0 (I n)/\bif bif true then n==(3:Int) else false then req ((0:Int)<=(1:Int)/\1<(NI ln)) (nE E lb ln lc/\∃ (n:Int),LoadE QB.P E 3 (VS lb ln lc) 1 (I n)/\bif decide (n>=(1:Int)) then Mem.le E E/\bif bif true then bif true then decide (n<=(1000000000:Int)) else false else false then req ((0:Int)<=(1:Int)/\1<(NI ln)) (nE E lb ln lc/\∃ (n:Int),LoadE QB.P E 3 (VS lb ln lc) 1 (I n)/\Q (B true) [⟨50,.lst [I me,SV.slc 1 0 m cap,I (if n>cnt then n else cnt)],3,true⟩,⟨26,.vals (vR xs++js),tot,true⟩] E) else Q (B false) [⟨50,.lst [I me,SV.slc 1 0 m cap,I cnt],3,true⟩,⟨26,.vals (vR xs++js),tot,true⟩] E else Mem.le E E/\Q (B false) [⟨50,.lst [I me,SV.slc 1 0 m cap,I cnt],3,true⟩,⟨26,.vals (vR xs++js),tot,true⟩] E) else Q (B false) [⟨50,.lst [I me,SV.slc 1 0 m cap,I cnt],3,true⟩,⟨26,.vals (vR xs++js),tot,true⟩] E) else Q (B false) [⟨50,.lst [I me,SV.slc 1 0 m cap,I cnt],3,true⟩,⟨26,.vals (vR xs++js),tot,true⟩] E) else bif (NI ln)==3 then req ((0:Int)<=(0:Int)/\0<(NI ln)) (nE E lb ln lc/\∃ (n:Int),LoadE QB.P E 3 (VS lb ln lc) 0 (I n)/\bif bif true then n==(2:Int) else false then req ((0:Int)<=(1:Int)/\1<(NI ln)) (nE E lb ln lc/\∃ (n:Int),LoadE QB.P E 3 (VS lb ln lc) 1 (I n)/\req ((0:Int)<=(2:Int)/\2<(NI ln)) (nE E lb ln lc/\∃ (n_1:Int),LoadE QB.P E 3 (VS lb ln lc) 2 (I n_1)/\∃ (s:Nat),∃ (h:Nat),∃ (me_1:Int),∃ (cnt_1:Int),∃ (o:Int),∃ (n_2:Int),∃ (m_1:Nat),∃ (cap_1:Nat),∃ (tot_1:Nat),∃ (xs_1:List (List Int)),∃ (js_1:List Value),[SV.loc 0 0,I n,I n_1]=[SV.loc s 0,I o,I n_2]/\StAt [⟨50,.lst [I me,SV.slc 1 0 m cap,I cnt],3,true⟩,⟨26,.vals (vR xs++js),tot,true⟩] s h me_1 cnt_1 m_1 cap_1 tot_1 xs_1 js_1/\bif decide (idxR o n_2 xs_1<(0:Int)) then Q (B false) [⟨50,.lst [I me,SV.slc 1 0 m cap,I cnt],3,true⟩,⟨26,.vals (vR xs++js),tot,true⟩] E else ∃ (a:Nat),∃ (tot_2:Nat),∃ (xs_2:List (List Int)),∃ (js_2:List Value),some (⟨26,.vals (vR xs++js),tot,true⟩:Box)=some (⟨26,.vals (vR xs_2++js_2),tot_2,true⟩:Box)/\(idxR o n_2 xs_1=(NI a)/\WI (idxR o n_2 xs_1+(1:Int))=(NI (a+1)))/\W5 xs_2/\List.length xs_2=m/\m<=16/\a<m/\(m<=cap/\cap*5<=tot_2)/\(∀ (v:Value),List.Mem v js_2->Value.oneCell' v=true)/\∀ (cap' tot':Nat),m<=cap'->cap'*5<=tot'->Q (B true) [⟨50,.lst [I me,SV.slc 2 0 (m-1) cap',I cnt],3,true⟩,⟨26,.lst [],0,false⟩,⟨26,.vals (vR (List.eraseIdx xs_2 a)++z5),tot',true⟩] E)) else bif (NI ln)==2 then req ((0:Int)<=(0:Int)/\0<(NI ln)) (nE E lb ln lc/\∃ (n:Int),LoadE QB.P E 3 (VS lb ln lc) 0 (I n)/\bif bif true then n==(3:Int) else false then req ((0:Int)<=(1:Int)/\1<(NI ln)) (nE E lb ln lc/\∃ (n:Int),LoadE QB.P E 3 (VS lb ln lc) 1 (I n)/\bif decide (n>=(1:Int)) then Mem.le E E/\bif bif true then bif true then decide (n<=(1000000000:Int)) else false else false then req ((0:Int)<=(1:Int)/\1<(NI ln)) (nE E lb ln lc/\∃ (n:Int),LoadE QB.P E 3 (VS lb ln lc) 1 (I n)/\Q (B true) [⟨50,.lst [I me,SV.slc 1 0 m cap,I (if n>cnt then n else cnt)],3,true⟩,⟨26,.vals (vR xs++js),tot,true⟩] E) else Q (B false) [⟨50,.lst [I me,SV.slc 1 0 m cap,I cnt],3,true⟩,⟨26,.vals (vR xs++js),tot,true⟩] E else Mem.le E E/\Q (B false) [⟨50,.lst [I me,SV.slc 1 0 m cap,I cnt],3,true⟩,⟨26,.vals (vR xs++js),tot,true⟩] E) else Q (B false) [⟨50,.lst [I me,SV.slc 1 0 m cap,I cnt],3,true⟩,⟨26,.vals (vR xs++js),tot,true⟩] E) else Q (B false) [⟨50,.lst [I me,SV.slc 1 0 m cap,I cnt],3,true⟩,⟨26,.vals (vR xs++js),tot,true⟩] E) else bif (NI ln)==2 then req ((0:Int)<=(0:Int)/\0<(NI ln)) (nE E lb ln lc/\∃ (n:Int),LoadE QB.P E 3 (VS lb ln lc) 0 (I n)/\bif bif true then n==(3:Int) else false then req ((0:Int)<=(1:Int)/\1<(NI ln)) (nE E lb ln lc/\∃ (n:Int),LoadE QB.P E 3 (VS lb ln lc) 1 (I n)/\bif decide (n>=(1:Int)) then Mem.le E E/\bif bif true then bif true then decide (n<=(1000000000:Int)) else false else false then req ((0:Int)<=(1:Int)/\1<(NI ln)) (nE E lb ln lc/\∃ (n:Int),LoadE QB.P E 3 (VS lb ln lc) 1 (I n)/\Q (B true) [⟨50,.lst [I me,SV.slc 1 0 m cap,I (if n>cnt then n else cnt)],3,true⟩,⟨26,.vals (vR xs++js),tot,true⟩] E) else Q (B false) [⟨50,.lst [I me,SV.slc 1 0 m cap,I cnt],3,true⟩,⟨26,.vals (vR xs++js),tot,true⟩] E else Mem.le E E/\Q (B false) [⟨50,.lst [I me,SV.slc 1 0 m cap,I cnt],3,true⟩,⟨26,.vals (vR xs++js),tot,true⟩] E) else Q (B false) [⟨50,.lst [I me,SV.slc 1 0 m cap,I cnt],3,true⟩,⟨26,.vals (vR xs++js),tot,true⟩] E) else Q (B false) [⟨50,.lst [I me,SV.slc 1 0 m cap,I cnt],3,true⟩,⟨26,.vals (vR xs++js),tot,true⟩] E)
 delta WI NI VS
 have hn:ns.length=ln:=by have:=hl.len;simpa using this
 have ld:∀ i,i<ln->LoadE Tryz.prog E 3 (.slice lb ln lc) i (.raw (.int .i64 (ns.getD i 0))):=fun i hi=>IS_load hl hi
 have ne:∀ i,i<ln->∃ cs,E (.slice lb ln lc) cs/\(cs=[]->False):=fun i hi=>SL.ne (RK_ok .i64 (by decide)) hl hi
 have f2:appF me (xs,cnt) ns=none->Q (B false) [⟨50,.lst [I me,.slc 1 0 m cap,I cnt],3,true⟩,⟨26,.vals (vR xs++js),tot,true⟩] E:=fun q=>hQ _ _ (cloK_intro [some 0,some 1] (hF q) (wkG mr_))
 have f3:∀ y:List SV,appF me (xs,cnt) ns=none->Q (B false) [⟨50,.lst [I me,.slc 1 0 m cap,I cnt],3,true⟩,⟨26,.vals (vR xs++js),tot,true⟩,⟨26,.lst y,5,true⟩] E:=fun y q=>hQ _ _ (cloK_intro [some 0,some 1] (hF q) (wkG mr_))
 have hv:=vR_cellsJ (js:=js) S.w5 S.len
 unfold appF at f2 f3 h1 h2
 refine condC (fun g6=>?_) (fun g6=>?_)
 ·have g6:ln=6:=by simp at g6;omega
  subst g6
  refine req_intro (by omega) ⟨ne 0 (by omega),_,ld 0 (by omega),condC (fun g1=>?_) (fun g1=>?_)⟩
  ·have g1:ns.getD 0 0=1:=by simpa using g1
   rw [if_pos ⟨hn,g1⟩] at f2 f3 h1 h2
   refine req_intro (by omega) ⟨ne 1 (by omega),_,ld 1 (by omega),req_intro (by omega) ⟨ne 2 (by omega),_,ld 2 (by omega),req_intro (by omega) ⟨ne 3 (by omega),_,ld 3 (by omega),req_intro (by omega) ⟨ne 4 (by omega),_,ld 4 (by omega),req_intro (by omega) ⟨ne 5 (by omega),_,ld 5 (by omega),mr_,condC (fun g2=>?_) (fun g2=>?_)⟩⟩⟩⟩⟩
   ·exact f3 _ (if_neg (fun q=>by rw [q.1] at g2;cases g2))
   ·have g2:okR (ns.getD 1 0) (ns.getD 2 0) (ns.getD 3 0) (ns.getD 4 0) (ns.getD 5 0)=true:=by simpa using g2
    refine ⟨0,1,me,cnt,_,_,m,cap,tot,xs,js,rfl,⟨rfl,rfl,by decide,S.w5,S.len,S.le,S.room⟩,condC (fun g3=>?_) (fun g3=>condC (fun g4=>?_) (fun g4=>?_))⟩
    ·have g3:0<=idxR (ns.getD 1 0) (ns.getD 2 0) xs:=by simpa only [cond_false,decide_eq_true_eq,ge_iff_le] using g3
     exact f3 _ (if_neg (fun q=>by have q1:idxR (ns.getD 1 0) (ns.getD 2 0) xs<0:=q.2.1;omega))
    ·have g4:(m:Int)=16:=by simpa using g4
     exact f3 _ (if_neg (fun q=>by have q1:xs.length≠16:=q.2.2;have:=S.len;omega))
    ·have g3:idxR (ns.getD 1 0) (ns.getD 2 0) xs<0:=by
      have g3:¬ 0<=idxR (ns.getD 1 0) (ns.getD 2 0) xs:=by simpa only [cond_false,decide_eq_false_iff_not,ge_iff_le] using g3
      omega
     have g4:m≠16:=by simp at g4;omega
     rw [if_pos ⟨g2,g3,by show xs.length≠16;have:=S.len;omega⟩] at h2
     have:=S.le
     refine ⟨hv,S.room.2,S.room.1,req_intro (by omega) fun cap' tot' q1 q2=>?_⟩
     have e1:List.take (m*5) (vR xs++js)++[Value.int .i64 (ns.getD 1 0),Value.int .i64 (ns.getD 2 0),Value.int .i64 (ns.getD 3 0),Value.int .i64 (ns.getD 4 0),Value.int .i64 (ns.getD 5 0)]=vR (xs++[[ns.getD 1 0,ns.getD 2 0,ns.getD 3 0,ns.getD 4 0,ns.getD 5 0]])++[]:=by
      rw [show m=xs.length from S.len.symm,vR_take S.w5 (Nat.le_refl _) js,List.take_length,List.append_nil,vR_app];rfl
     have hl':(xs++[[ns.getD 1 0,ns.getD 2 0,ns.getD 3 0,ns.getD 4 0,ns.getD 5 0]]).length=m+1:=by simp [S.len]
     rw [e1]
     refine condC (fun g5=>?_) (fun g5=>?_)
     ·have g5:ns.getD 1 0=me:=by simpa only [beq_iff_eq] using g5
      have k:=h2 _ _ cap' tot' [] rfl (by rw [hl'];exact q1) q2 (by simp) (S.w5.snoc rfl) (by rw [hl'];omega)
      rw [if_pos g5,hl'] at k
      exact hQ _ _ (cloK_intro [some 0,some 1,some 4] k (wkG mr_ (h6:=(by repeat' first|exact True.intro|exact rfl|exact Or.inl rfl|exact (by decide:1<5)|refine And.intro ?_ ?_))))
     ·have g5:¬ ns.getD 1 0=me:=by simpa only [beq_eq_false_iff_ne,ne_eq] using g5
      have k:=h2 _ _ cap' tot' [] rfl (by rw [hl'];exact q1) q2 (by simp) (S.w5.snoc rfl) (by rw [hl'];omega)
      rw [if_neg g5,hl'] at k
      exact hQ _ _ (cloK_intro [some 0,some 1,some 4] k (wkG mr_ (h6:=(by repeat' first|exact True.intro|exact rfl|exact Or.inl rfl|exact (by decide:1<5)|refine And.intro ?_ ?_))))
  ·have g1:¬ ns.getD 0 0=1:=by simpa only [cond_true,beq_eq_false_iff_ne,ne_eq] using g1
   exact condC (fun g=>absurd g (by decide)) (fun _=>condC (fun g=>absurd g (by decide)) (fun _=>f2 (by rw [if_neg (fun q=>g1 q.2),if_neg (fun q=>by have:=q.1;omega),if_neg (fun q=>by have:=q.1;omega)])))
 ·have g6:ln≠6:=by intro e;subst e;exact absurd g6 (by decide)
  rw [if_neg (fun q=>g6 (by rw [← hn];exact q.1))] at f2 h1 h2
  refine condC (fun g3=>?_) (fun g3=>?_)
  ·have g3:ln=3:=by simp at g3;omega
   subst g3
   refine req_intro (by omega) ⟨ne 0 (by omega),_,ld 0 (by omega),condC (fun g1=>?_) (fun g1=>?_)⟩
   ·have g1:ns.getD 0 0=2:=by simpa only [cond_true,beq_iff_eq] using g1
    rw [if_pos ⟨hn,g1⟩] at f2 h1 h2
    refine req_intro (by omega) ⟨ne 1 (by omega),_,ld 1 (by omega),req_intro (by omega) ⟨ne 2 (by omega),_,ld 2 (by omega),0,1,me,cnt,_,_,m,cap,tot,xs,js,rfl,S,condC (fun g2=>?_) (fun g2=>?_)⟩⟩
    ·have g2:idxR (ns.getD 1 0) (ns.getD 2 0) xs<0:=by simpa only [decide_eq_true_eq] using g2
     exact f2 (if_neg (fun q=>by have q1:0<=idxR (ns.getD 1 0) (ns.getD 2 0) xs:=q;omega))
    ·have g2:¬ idxR (ns.getD 1 0) (ns.getD 2 0) xs<0:=by simpa only [decide_eq_false_iff_not] using g2
     rw [if_pos (show 0<=idxR (ns.getD 1 0) (ns.getD 2 0) xs by omega)] at h2
     have ib:=idxR_b (ns.getD 1 0) (ns.getD 2 0) xs
     have:=S.len
     have:=S.le
     have ha:(idxR (ns.getD 1 0) (ns.getD 2 0) xs).toNat<m:=by omega
     have hl':(xs.eraseIdx (idxR (ns.getD 1 0) (ns.getD 2 0) xs).toNat).length=m-1:=by rw [List.length_eraseIdx,S.len,if_pos ha]
     refine ⟨(idxR (ns.getD 1 0) (ns.getD 2 0) xs).toNat,tot,xs,js,rfl,⟨by omega,by rw [wrap_i64 (by omega)];omega⟩,S.w5,S.len,S.le,ha,S.room,hj,fun cap' tot' q1 q2=>?_⟩
     have k:=h2 _ _ cap' tot' z5 rfl (by rw [hl'];omega) q2 (by decide) (S.w5.erase _) (by rw [hl'];omega)
     rw [hl'] at k
     exact hQ _ _ (cloK_intro [some 0,some 1,some 2] k (wkG mr_ (h6:=(by repeat' first|exact True.intro|exact rfl|exact Or.inl rfl|exact (by decide:1<3)|refine And.intro ?_ ?_))))
   ·have g1:¬ ns.getD 0 0=2:=by simpa only [cond_true,beq_eq_false_iff_ne,ne_eq] using g1
    exact condC (fun g=>absurd g (by decide)) (fun _=>f2 (by rw [if_neg (fun q=>g1 q.2),if_neg (fun q=>by have:=q.1;omega)]))
  ·have g3:ln≠3:=by intro e;subst e;exact absurd g3 (by decide)
   rw [if_neg (fun q=>g3 (by rw [← hn];exact q.1))] at f2 h1 h2
   refine condC (fun g2=>?_) (fun g2=>?_)
   ·have g2:ln=2:=by simp at g2;omega
    subst g2
    refine req_intro (by omega) ⟨ne 0 (by omega),_,ld 0 (by omega),condC (fun g1=>?_) (fun g1=>?_)⟩
    ·have g1:ns.getD 0 0=3:=by simpa only [cond_true,beq_iff_eq] using g1
     refine req_intro (by omega) ⟨ne 1 (by omega),_,ld 1 (by omega),condC (fun g4=>⟨mr_,condC (fun g5=>?_) (fun g5=>?_)⟩) (fun g4=>⟨mr_,?_⟩)⟩
     ·have g4:1<=ns.getD 1 0:=by simpa only [decide_eq_true_eq,ge_iff_le] using g4
      have g5:ns.getD 1 0<=1000000000:=by simpa only [cond_true,decide_eq_true_eq] using g5
      refine req_intro (by omega) ⟨ne 1 (by omega),_,ld 1 (by omega),?_⟩
      have k:=h1 _ (if_pos ⟨hn,g1,g4,g5⟩)
      exact hQ _ _ (cloK_intro [some 0,some 1] k (wkG mr_))
     ·have g5:¬ ns.getD 1 0<=1000000000:=by simpa only [cond_true,decide_eq_false_iff_not] using g5
      exact f2 (if_neg (fun q=>g5 q.2.2.2))
     ·have g4:¬ 1<=ns.getD 1 0:=by simpa only [decide_eq_false_iff_not,ge_iff_le] using g4
      exact f2 (if_neg (fun q=>g4 q.2.2.1))
    ·have g1:¬ ns.getD 0 0=3:=by simpa only [cond_true,beq_eq_false_iff_ne,ne_eq] using g1
     exact f2 (if_neg (fun q=>g1 q.2.1))
   ·have g2:ln≠2:=by intro e;subst e;exact absurd g2 (by decide)
    exact f2 (if_neg (fun q=>g2 (by rw [← hn];exact q.1)))
theorem apply_sem {s:Nat} {cap:Nat} {lb:Option Addr} {ln lc:Nat} {K:KT} (hl:SL (RK .i64 1) E lb ln lc (ns.map fun z=>[z])) (S:StAt bx s h me cnt m cap tot xs js) (hj:∀ v∈js,v.oneCell'=true)
  (hF:appF me (xs,cnt) ns=none->K (B false) bx E)
  (h1:∀ c:Int,appF me (xs,cnt) ns=some (xs,c)->K (B true) (bx.set s ⟨50,.lst [I me,.slc h 0 m cap,I c],3,true⟩) E)
  (h2:∀ (ys:List (List Int)) (c:Int) (cap' tot':Nat) (js':List Value),appF me (xs,cnt) ns=some (ys,c)->ys.length<=cap'->cap'*5<=tot'->(∀ v∈js',v.oneCell'=true)->W5 ys->ys.length<=16->
   K (B true) ((bx.set s ⟨50,.lst [I me,.slc bx.length 0 ys.length cap',I c],3,true⟩).set h ⟨26,.lst [],0,false⟩++[⟨26,.vals (vR ys++js'),tot',true⟩]) E):
  CallSem Tryz.prog 39 [.loc s 0,L lb ln lc] bx E K:=by
 have S0:StAt [⟨50,.lst [I me,.slc 1 0 m cap,I cnt],3,true⟩,⟨26,.vals (vR xs++js),tot,true⟩] 0 1 me cnt m cap tot xs js:=⟨rfl,rfl,by decide,S.w5,S.len,S.le,S.room⟩
 refine CallSem.hand (σ:=[s,h]) (bxs:=[⟨50,.lst [I me,.slc 1 0 m cap,I cnt],3,true⟩,⟨26,.vals (vR xs++js),tot,true⟩]) ⟨by simp [S.ne],rfl,fun i b hb=>?_⟩ (args':=[.loc 0 0,L lb ln lc]) ?_ (EntB.sem okQB Tryz.func39 ⟨by kernel_rfl,by kernel_rfl⟩ (u31 hl S0 hj ?_ ?_ ?_ (fun _ _ q=>q)))
 ·match i,hb with
  | 0,hb=>
   simp only [List.getElem?_cons_zero,Option.some.injEq] at hb;subst hb
   exact ⟨rfl,s,rfl,by simpa [Box.ren,Row.ren,SV.renL,SV.ren,renF] using S.st⟩
  | 1,hb=>
   simp only [List.getElem?_cons_succ,List.getElem?_cons_zero,Option.some.injEq] at hb;subst hb
   exact ⟨rfl,h,rfl,by simpa [Box.ren,Row.ren,SV.renL,SV.ren,renF] using S.hd⟩
  | j+2,hb=>simp at hb
 ·simp only [SV.renL,SV.ren,renF,List.getElem?_cons_zero]
 ·intro q
  simp only [SV.ren,SV.renL,merge,setAll,List.take,List.drop,List.map,List.length_cons,List.length_nil,Box.ren,Row.ren,renF,List.getElem?_cons_zero,List.getElem?_cons_succ]
  rw [set_sameB S.st,set_sameB S.hd]
  simpa using hF q
 ·intro c q
  simp only [SV.ren,SV.renL,merge,setAll,List.take,List.drop,List.map,List.length_cons,List.length_nil,Box.ren,Row.ren,renF,List.getElem?_cons_zero,List.getElem?_cons_succ]
  rw [set_sameB (p:=h) (by rw [List.getElem?_set_ne S.ne];exact S.hd)]
  simpa using h1 c q
 ·intro ys c cap' tot' js' q q1 q2 q3 q4 q5
  simp only [SV.ren,SV.renL,merge,setAll,List.take,List.drop,List.map,List.length_cons,List.length_nil,Box.ren,Row.ren,renF,List.getElem?_cons_zero,List.getElem?_cons_succ]
  simpa [renF] using h2 ys c cap' tot' js' q q1 q2 q3 q4 q5
end Go.Proofs.YtdaakdbkmjgloaaGreat.CustodyOwn
